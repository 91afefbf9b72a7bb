/- Written by this session's own program over the kit's print: functions of Go told as plain functions, or the row of one statement; proved for every input, with no condition of ours. -/
import Derived.Test.YtahopljippfadaaDx0
import Derived.Test.YtahopljippfadaaDx12
namespace Go.Proofs.Ytahopljippfadaa.D
open Go.RowKit Go.Proofs.YtahopljippfadaaW.PrintWords Go.Proofs.YtahopljippfadaaW.PrintLast Go.Proofs.YtahopljippfadaaW.PrintMore
attribute [local go_sem] max2_int min2_int max_two min_two max_three min_three max_four min_four   -- for this text's walks alone
set_option linter.unusedVariables false
set_option linter.unusedSimpArgs false

/-! ### hopperref12_Line: function 29 -/
def hopperref12_Line.l0 : Nat → List (S38) → Int → Option ((List (S38)))
 | 0, _, _ => none
 | k + 1, x3, x4 => if x4 < (x3.length : Int) then (if 0 ≤ x4 then ((hopperref04_Check.f ((rd_T38 x3 x4).f0) ((rd_T38 x3 x4).f1) ((rd_T38 x3 x4).f2) ((rd_T38 x3 x4).f3) ((rd_T38 x3 x4).f4) ((rd_T38 x3 x4).f5)).bind fun t279 => (if t279 = true then (hopperref12_Line.l0 k x3 (wrap64 (x4 + 1))) else (if x4 ≤ (x3.length : Int) then (some (x3.take (x4 : Int).toNat)) else (none)))) else (none)) else (some x3)
def hopperref12_Line.f (k : Nat) (a0_0 : Int) (a0_1 : Int) (l0_2 : List (S38)) : Option ((List (S38))) := (hopperref05_Ready.f k a0_0 a0_1 l0_2).bind fun t275 => (hopperref12_Line.l0 k t275 0)
theorem hopperref12_Line.mono_l : ∀ k, (∀ y0 y1, LeO (hopperref12_Line.l0 k y0 y1) (hopperref12_Line.l0 (k + 1) y0 y1))
 | 0 => fun _ _ r h => by simp [hopperref12_Line.l0] at h
 | k + 1 => by
  have ih0 := hopperref12_Line.mono_l k
  · intro y0 y1
    unfold hopperref12_Line.l0
    repeat' first
    | (with_reducible exact ih0 _ _)
    | (with_reducible exact hopperref05_Ready.mono _ _ _ _)
    | (with_reducible exact LeO.refl _)
    | (with_reducible exact LeO.none _)
    | (with_reducible refine LeO.ite ?_ ?_)
    | (with_reducible refine LeO.bind ?_ (fun _ => ?_))
    | exact ih0 _ _
    | exact hopperref05_Ready.mono _ _ _ _
    | exact LeO.none _
    | refine LeO.ite ?_ ?_
    | refine LeO.bind ?_ (fun _ => ?_)
theorem hopperref12_Line.mono : ∀ a0 a1 a2 k, LeO (hopperref12_Line.f k a0 a1 a2) (hopperref12_Line.f (k + 1) a0 a1 a2) := by
 intro a0 a1 a2 k
 have ih0 := hopperref12_Line.mono_l k
 unfold hopperref12_Line.f
 repeat' first
  | (with_reducible exact ih0 _ _)
  | (with_reducible exact hopperref05_Ready.mono _ _ _ _)
  | (with_reducible exact LeO.refl _)
  | (with_reducible exact LeO.none _)
  | (with_reducible refine LeO.ite ?_ ?_)
  | (with_reducible refine LeO.bind ?_ (fun _ => ?_))
  | exact ih0 _ _
  | exact hopperref05_Ready.mono _ _ _ _
  | exact LeO.none _
  | refine LeO.ite ?_ ?_
  | refine LeO.bind ?_ (fun _ => ?_)
set_option maxHeartbeats 8000000 in
set_option maxRecDepth 100000 in
theorem hopperref12_Line.calls (k : Nat) (a0_0 : Int) (a0_1 : Int) (A0_2 : Option Addr) (c0_2 : Nat) (l0_2 : List (S38)) (r : List (S38)) (w : World) (hr0_2 : Kd.C k38 w A0_2 l0_2.length l0_2) (hc0_2 : l0_2.length ≤ c0_2) (h : hopperref12_Line.f k a0_0 a0_1 l0_2 = some r) :
 Calls Try.prog 29 #[.agg #[.int .i64 a0_0, .int .i64 a0_1, .slice A0_2 l0_2.length c0_2]] w fun e w' => ∃ v0_ : Value, e = .returned (v0_) ∧ Kd.R k38 38 w' w.heap.size (fun _ => True) v0_ r ∧ Below w.heap.size w w' := by
 have hu35 := Try.underlying35
 have hu38 := Try.underlying38
 have HR0_2 := A_ hr0_2
 have HC0_2 := A_ hc0_2
 clear hr0_2 hc0_2; have HB := A_ (Below.refl w.heap.size w)
 have H : ((hopperref05_Ready.f k a0_0 a0_1 l0_2).bind fun t275 => (hopperref12_Line.l0 k t275 0)) = some r := h
 clear h
 replace H := Option.bind_eq_some_iff.mp H
 obtain ⟨t275, A20, H⟩ := H
 replace H : (hopperref12_Line.l0 k t275 0) = some r := H
 have A2 := A_ A20
 clear A20
 have H' := A_ H
 clear H
 go_enter Try.func29, Try.ntmps29
 go_wp2_with (first | ((with_reducible refine gate_dst (N := 1) rfl ?_); refine box_event ?hg (N := 1) ?hd (cs := #[.int .i64 a0_0, .int .i64 a0_1, .slice A0_2 l0_2.length c0_2]) (t := 35) ?hr ?_; (case hd => rfl); (case hg => rfl); (case hr => first | (go_simp; done) | (go_simp; rfl)); intro gb274 hg w3 hbox hb; have n0_ := A_ (below_step bw_ hb); have n1_ := A_ (hbox); have n2_ := A_ (gz_ (w := w) hg); have n3_ := A_ (gz_ (w := w) hg); replace HB := n0_; have BK274 := n1_; have GW274 := n2_; have GE274 := n3_; clear n0_ n1_ n2_ n3_; clear hb hbox hg; have hcz4_0 : w3.cell? ⟨gb274, 0, none⟩ = some (.int .i64 a0_0) := e_ BK274 0; have hcz4_1 : w3.cell? ⟨gb274, 1, none⟩ = some (.int .i64 a0_1) := e_ BK274 1; have hcz4_2 : w3.cell? ⟨gb274, 2, none⟩ = some (.slice A0_2 l0_2.length c0_2) := e_ BK274 2; obtain ⟨hfz4_0, hfz4_1, hfz4_2⟩ := z3_ BK274) | ((with_reducible refine gate_callee (f := 21) rfl ?_); refine goesL_ (some 6) rfl rfl Try.func21 (by kernel_rfl) rfl #[.agg #[.int .i64 a0_0, .int .i64 a0_1, .slice A0_2 l0_2.length c0_2]] rfl (by (try simp only [m0_, m1_, m2_]); first | done | rfl) ?_; (with_reducible refine (hopperref05_Ready.calls k a0_0 a0_1 _ _ l0_2 t275 _ ?side1 ?side2 A2.out).mono ?_); (case side1 => repeat (first | exact (Kd.C_below HR0_2.out HB.out) | (with_reducible refine ca_ ?_ _) | (with_reducible refine cn_ ?_ _) | (with_reducible refine cd_ ?_))); (case side2 => exact HC0_2.out); rintro e w5 ⟨v276, rfl, ho0, hb⟩; refine ⟨_, rfl, ?_⟩; have HO277 := A_ (Kd.R_lower ho0 (below_size bw_)); replace BK274 := A_ (kb_ BK274 hb); replace HB := A_ (below_step bw_ hb); (try clear hb); (try clear hb2); (try clear hk); (try clear hi); (try clear ho0)))
 go_loopg [4] k (fun kq v4 w' => ∃ (x4_1 : Int), v4 = .int .i64 x4_1 ∧ Aside0 (hopperref12_Line.l0 kq t275 x4_1 = some r) ∧ Aside0 (kq ≤ k) ∧ Aside0 (Kd.R k38 38 w' w.heap.size (fun _ => True) v276 t275) ∧ Aside0 (w'.heap[gb274]? = some (.cells #[.int .i64 a0_0, .int .i64 a0_1, (.slice A0_2 l0_2.length c0_2)] 35 (0, 0))) ∧ Aside0 (Below w.heap.size w w'))
 case atStart => exact ⟨(0), (by first | rfl | (simp; done) | (simp [*]; done)), H', ⟨Nat.le_refl _⟩, ⟨by (with_reducible repeat (first | apply ra_ | apply rn_ | apply rd_)); exact HO277.out⟩, ⟨bk_⟩, ⟨by repeat (first | (with_reducible first | exact HB.out | apply wa_ | apply wn_ | apply wd_ | refine ws_ ?_ GE274.out) | exact HB.out)⟩⟩
 case round =>
  clear H'; (try clear c2); (try clear p2); (try clear hcz4_0 hcz4_1 hcz4_2); (try clear hfz4_0 hfz4_1 hfz4_2)
  obtain ⟨x4_1, rfl, HA, HK1, HO_3, BK274, HB⟩ := hrel
  cases gk with
  | zero => exact absurd HA.out (by simp [hopperref12_Line.l0])
  | succ k1 =>
   have H := HA.out
   clear HA
   simp only [hopperref12_Line.l0] at H
   by_cases c6 : x4_1 < (t275.length : Int)
   rotate_left
   · rw [if_neg c6] at H
     have c6b0 : decide (x4_1 < (t275.length : Int)) = false := decide_eq_false c6
     clear c6
     obtain rfl := Option.some.inj H
     obtain ⟨Ao16, co16, eo16⟩ := Kd.R_slice HO_3.out
     subst eo16
     go_wp2
     go_ret
     exact ⟨_, by first | rfl | (simp [errW_none, errW_some] <;> rfl) | (simp [*, errW_none, errW_some] <;> rfl), by (with_reducible repeat (first | apply ra_ | apply rn_ | apply rd_)); exact HO_3.out, by repeat (first | (with_reducible first | exact HB.out | apply wa_ | apply wn_ | apply wd_ | refine ws_ ?_ GE274.out) | exact HB.out)⟩

   rw [if_pos c6] at H
   have c6b0 : decide (x4_1 < (t275.length : Int)) = true := decide_eq_true c6
   clear c6
   by_cases c7 : 0 ≤ x4_1
   rotate_left
   · rw [if_neg c7] at H
     exact absurd H (by simp)
   rw [if_pos c7] at H
   have c7b0 : decide (0 ≤ x4_1) = true := decide_eq_true c7
   clear c7
   replace H := Option.bind_eq_some_iff.mp H
   obtain ⟨t279, A80, H⟩ := H
   try dsimp only at H
   have A8 := A_ A80
   clear A80
   by_cases c9 : t279 = true
   · subst c9
     have H1 : (hopperref12_Line.l0 k1 t275 (wrap64 (x4_1 + 1))) = some r := by rw [if_pos rfl] at H; exact H
     clear H
     have H := H1
     clear H1
     have H' := A_ H
     clear H
     obtain ⟨Ao10, co10, eo10⟩ := Kd.R_slice HO_3.out
     subst eo10
     have p278 : 0 ≤ (x4_1 : Int) := of_decide_eq_true (by first | (with_reducible assumption) | assumption)
     have q278 : x4_1 < (t275.length : Int) := of_decide_eq_true (by first | (with_reducible assumption) | assumption)
     obtain ⟨ad278, e278, hx278_0, hx278_1, hx278_2, hx278_3, hx278_4, hx278_5⟩ := at_T38 (Kd.R_reads' HO_3.out).2.2 x4_1 p278 q278
     cases e278
     replace p278 := eq_true p278
     replace q278 := eq_true q278
     go_wp2_with (first | ((with_reducible refine gate_callee (f := 36) rfl ?_); refine goesL_ (some 17) rfl rfl Try.func36 (by kernel_rfl) rfl #[.agg #[.int .i64 ((rd_T38 t275 x4_1).f0), .int .i64 ((rd_T38 t275 x4_1).f1), .int .i64 ((rd_T38 t275 x4_1).f2), .int .i64 ((rd_T38 t275 x4_1).f3), .int .i64 ((rd_T38 t275 x4_1).f4), .string ((rd_T38 t275 x4_1).f5)]] rfl (by (try simp only [m0_, m1_, m2_]); first | done | rfl) ?_; (with_reducible refine (hopperref04_Check.calls ((rd_T38 t275 x4_1).f0) ((rd_T38 t275 x4_1).f1) ((rd_T38 t275 x4_1).f2) ((rd_T38 t275 x4_1).f3) ((rd_T38 t275 x4_1).f4) ((rd_T38 t275 x4_1).f5) true _ A8.out).mono ?_); rintro e w11 ⟨rfl, hb⟩; refine ⟨_, rfl, ?_⟩; replace HO_3 := A_ (Kd.R_below (pr_ HO_3.out) hb); replace BK274 := A_ (kb_ BK274 hb); replace HB := A_ (below_step bw_ hb); (try clear hb); (try clear hb2); (try clear hk); (try clear hi)))
     go_roundg k1
     case measure => have := HK1.out; omega
     case rel => exact ⟨(wrap64 (x4_1 + 1)), (by first | rfl | (simp; done) | (simp [*]; done)), H', ⟨by have := HK1.out; omega⟩, ⟨by (with_reducible repeat (first | apply ra_ | apply rn_ | apply rd_)); exact HO_3.out⟩, ⟨bk_⟩, ⟨by repeat (first | (with_reducible first | exact HB.out | apply wa_ | apply wn_ | apply wd_ | refine ws_ ?_ GE274.out) | exact HB.out)⟩⟩
   · replace c9 := Bool.eq_false_iff.mpr c9
     subst c9
     have H1 : (if x4_1 ≤ (t275.length : Int) then (some (t275.take (x4_1 : Int).toNat)) else (none)) = some r := by rw [if_neg (show ¬ (false = true) by decide)] at H; exact H
     clear H
     have H := H1
     clear H1
     by_cases c12 : x4_1 ≤ (t275.length : Int)
     rotate_left
     · rw [if_neg c12] at H
       exact absurd H (by simp)
     rw [if_pos c12] at H
     have c12b0 := eq_true c12
     have c12b1 : decide (x4_1 ≤ (t275.length : Int)) = true := decide_eq_true c12
     clear c12
     obtain ⟨y280, hy280⟩ : ∃ y_ : List (S38), y_ = (t275.take (x4_1 : Int).toNat) := ⟨_, rfl⟩
     replace H : (some y280) = some r := by first | (rw [hy280]; with_reducible exact H) | (have H2_ := (Option.bind_some _ _).symm.trans H; rw [hy280]; with_reducible exact H2_) | (have H2_ := (Option.bind_some _ _).symm.trans H; with_reducible exact H2_) | with_reducible exact H | (rw [hy280]; exact H) | exact H
     have Ny280 := A_ hy280
     clear hy280
     obtain rfl := Option.some.inj H
     obtain ⟨Ao13, co13, eo13⟩ := Kd.R_slice HO_3.out
     subst eo13
     have p278 : 0 ≤ (x4_1 : Int) := of_decide_eq_true (by first | (with_reducible assumption) | assumption)
     have q278 : x4_1 < (t275.length : Int) := of_decide_eq_true (by first | (with_reducible assumption) | assumption)
     obtain ⟨ad278, e278, hx278_0, hx278_1, hx278_2, hx278_3, hx278_4, hx278_5⟩ := at_T38 (Kd.R_reads' HO_3.out).2.2 x4_1 p278 q278
     cases e278
     replace p278 := eq_true p278
     replace q278 := eq_true q278
     go_wp2_with (first | ((with_reducible refine gate_callee (f := 36) rfl ?_); refine goesL_ (some 17) rfl rfl Try.func36 (by kernel_rfl) rfl #[.agg #[.int .i64 ((rd_T38 t275 x4_1).f0), .int .i64 ((rd_T38 t275 x4_1).f1), .int .i64 ((rd_T38 t275 x4_1).f2), .int .i64 ((rd_T38 t275 x4_1).f3), .int .i64 ((rd_T38 t275 x4_1).f4), .string ((rd_T38 t275 x4_1).f5)]] rfl (by (try simp only [m0_, m1_, m2_]); first | done | rfl) ?_; (with_reducible refine (hopperref04_Check.calls ((rd_T38 t275 x4_1).f0) ((rd_T38 t275 x4_1).f1) ((rd_T38 t275 x4_1).f2) ((rd_T38 t275 x4_1).f3) ((rd_T38 t275 x4_1).f4) ((rd_T38 t275 x4_1).f5) false _ A8.out).mono ?_); rintro e w14 ⟨rfl, hb⟩; refine ⟨_, rfl, ?_⟩; replace HO_3 := A_ (Kd.R_below (pr_ HO_3.out) hb); replace BK274 := A_ (kb_ BK274 hb); replace HB := A_ (below_step bw_ hb); (try clear hb); (try clear hb2); (try clear hk); (try clear hi); have q15 : (x4_1 : Int) ≤ ((t275.length : Int) : Int) := of_decide_eq_true (by first | (with_reducible assumption) | assumption); obtain ⟨i015, hi015, _, hsz15, _⟩ := info_parts info38; have hcut15 := cut_to (P := Try.prog) 23 38 .i64 Try.underlying23 hi015 (some ad278) t275.length co13 x4_1 (of_decide_eq_true (by first | (with_reducible assumption) | assumption)) q15 (Kd.R_reads' HO_3.out).2.1; have hr15 := Kd.R_take (m := (x4_1 : Int).toNat) HO_3.out (by omega); have hy15 : y280.length = (x4_1 : Int).toNat := (by rw [Ny280.out, List.length_take]; omega); rw [← Ny280.out] at hr15; rw [← hy15] at hr15 hcut15; clear hy15 hi015 hsz15 HO_3; have HO282 := A_ hr15; clear hr15; replace q15 := eq_true q15))
     go_ret
     exact ⟨_, by first | rfl | (simp [errW_none, errW_some] <;> rfl) | (simp [*, errW_none, errW_some] <;> rfl), by (with_reducible repeat (first | apply ra_ | apply rn_ | apply rd_)); exact HO282.out, by repeat (first | (with_reducible first | exact HB.out | apply wa_ | apply wn_ | apply wd_ | refine ws_ ?_ GE274.out) | exact HB.out)⟩
/-! ### hopperref12_Heads: function 15 -/
def hopperref12_Heads.l0 : Nat → List (S38) → List (S35) → Int → Option ((List (S38)))
 | 0, _, _, _ => none
 | k + 1, x3, x4, x5 => if x5 < (x4.length : Int) then (if 0 ≤ x5 then ((hopperref12_Line.f k ((rd_T35 x4 x5).f0) ((rd_T35 x4 x5).f1) ((rd_T35 x4 x5).f2)).bind fun t287 => (if (t287.length : Int) > 0 then (if 0 < (t287.length : Int) then (if x3.length < 2513169434916 then (hopperref12_Heads.l0 k (x3 ++ [(⟨(rd_T38 t287 0).f0, (rd_T38 t287 0).f1, (rd_T38 t287 0).f2, (rd_T38 t287 0).f3, (rd_T38 t287 0).f4, (rd_T38 t287 0).f5⟩ : S38)]) x4 (wrap64 (x5 + 1))) else (none)) else (none)) else (hopperref12_Heads.l0 k x3 x4 (wrap64 (x5 + 1))))) else (none)) else (some x3)
def hopperref12_Heads.f (k : Nat) (l0 : List (S35)) : Option ((List (S38))) := (hopperref12_firsts.f k l0).bind fun t283 => (hopperref12_Heads.l0 k ([] : List (S38)) t283 0)
theorem hopperref12_Heads.mono_l : ∀ k, (∀ y0 y1 y2, LeO (hopperref12_Heads.l0 k y0 y1 y2) (hopperref12_Heads.l0 (k + 1) y0 y1 y2))
 | 0 => fun _ _ _ r h => by simp [hopperref12_Heads.l0] at h
 | k + 1 => by
  have ih0 := hopperref12_Heads.mono_l k
  · intro y0 y1 y2
    unfold hopperref12_Heads.l0
    repeat' first
    | (with_reducible exact ih0 _ _ _)
    | (with_reducible exact hopperref12_Line.mono _ _ _ _)
    | (with_reducible exact hopperref12_firsts.mono _ _)
    | (with_reducible exact LeO.refl _)
    | (with_reducible exact LeO.none _)
    | (with_reducible refine LeO.ite ?_ ?_)
    | (with_reducible refine LeO.bind ?_ (fun _ => ?_))
    | exact ih0 _ _ _
    | exact hopperref12_Line.mono _ _ _ _
    | exact hopperref12_firsts.mono _ _
    | exact LeO.none _
    | refine LeO.ite ?_ ?_
    | refine LeO.bind ?_ (fun _ => ?_)
theorem hopperref12_Heads.mono : ∀ a0 k, LeO (hopperref12_Heads.f k a0) (hopperref12_Heads.f (k + 1) a0) := by
 intro a0 k
 have ih0 := hopperref12_Heads.mono_l k
 unfold hopperref12_Heads.f
 repeat' first
  | (with_reducible exact ih0 _ _ _)
  | (with_reducible exact hopperref12_Line.mono _ _ _ _)
  | (with_reducible exact hopperref12_firsts.mono _ _)
  | (with_reducible exact LeO.refl _)
  | (with_reducible exact LeO.none _)
  | (with_reducible refine LeO.ite ?_ ?_)
  | (with_reducible refine LeO.bind ?_ (fun _ => ?_))
  | exact ih0 _ _ _
  | exact hopperref12_Line.mono _ _ _ _
  | exact hopperref12_firsts.mono _ _
  | exact LeO.none _
  | refine LeO.ite ?_ ?_
  | refine LeO.bind ?_ (fun _ => ?_)
set_option maxHeartbeats 8000000 in
set_option maxRecDepth 100000 in
theorem hopperref12_Heads.calls (k : Nat) (A0 : Option Addr) (c0 : Nat) (l0 : List (S35)) (r : List (S38)) (w : World) (hr0 : Kd.C k35 w A0 l0.length l0) (hc0 : l0.length ≤ c0) (h : hopperref12_Heads.f k l0 = some r) :
 Calls Try.prog 15 #[.slice A0 l0.length c0] w fun e w' => ∃ v0_ : Value, e = .returned (v0_) ∧ Kd.R k38 38 w' w.heap.size (fun _ => True) v0_ r ∧ Below w.heap.size w w' := by
 have hu35 := Try.underlying35
 have hu38 := Try.underlying38
 have HR0 := A_ hr0
 have HC0 := A_ hc0
 clear hr0 hc0; have HB := A_ (Below.refl w.heap.size w)
 have H : ((hopperref12_firsts.f k l0).bind fun t283 => (hopperref12_Heads.l0 k ([] : List (S38)) t283 0)) = some r := h
 clear h
 replace H := Option.bind_eq_some_iff.mp H
 obtain ⟨t283, A20, H⟩ := H
 try dsimp only at H
 have A2 := A_ A20
 clear A20
 have H' := A_ H
 clear H
 go_enter Try.func15, Try.ntmps15
 go_wp2_with (first | ((with_reducible refine gate_callee (f := 28) rfl ?_); refine goesL_ (some 8) rfl rfl Try.func28 (by kernel_rfl) rfl #[.slice A0 l0.length c0] rfl (by (try simp only [m0_, m1_, m2_]); first | done | rfl) ?_; (with_reducible refine (hopperref12_firsts.calls k (fun k_ => k_ < w.heap.size) _ _ l0 t283 _ ?side1 A2.out).mono ?_); (case side1 => exact Kd.V_mk HC0.out (Kd.F_below (Kd.C_F k35_heap HR0.out) bw_)); rintro e w3 ⟨v284, rfl, ho0, hb⟩; refine ⟨_, rfl, ?_⟩; have HO285 := A_ (Kd.N_lower (Kd.N_mono (ok' := fun k_ => True) ho0 (fun k_ hk_ => trivial)) (below_size bw_)); replace HB := A_ (below_step bw_ hb); (try clear hb); (try clear hb2); (try clear hk); (try clear hi); (try clear ho0)))
 go_loopg [3, 5] k (fun kq v3 v5 w' => ∃ (x3_1 : List (S38)) (x5_1 : Int), v5 = .int .i64 x5_1 ∧ Aside0 (hopperref12_Heads.l0 kq x3_1 t283 x5_1 = some r) ∧ Aside0 (kq ≤ k) ∧ Aside0 (Kd.R k38 38 w' w.heap.size (fun _ => True) v3 x3_1) ∧ Aside0 (Kd.N k35 35 w' w.heap.size (fun k_ => some k_ ≠ (v3 : Value).ownBlock) v284 t283) ∧ Aside0 (Below w.heap.size w w'))
 case atStart => exact ⟨(([] : List (S38))), (0), (by first | rfl | (simp; done) | (simp [*]; done)), H', ⟨Nat.le_refl _⟩, ⟨by first | exact Kd.R_nil _ _ _ _ _ | exact Kd.N_nil _ _ _ _ _ | exact Kd.V_nil _ _ _ _ _ | exact Kd.Q_nil _ _ _ _ _ | exact Kd.S_nil _ _ _ _ _⟩, ⟨by (with_reducible repeat (first | apply Kd.N_alloc | apply Kd.N_drewN | apply Kd.N_drew)); exact Kd.N_mono HO285.out (fun _ hk => (by simp [Value.ownBlock]))⟩, ⟨by repeat (first | (with_reducible first | exact HB.out | apply wa_ | apply wn_ | apply wd_) | exact HB.out)⟩⟩
 case round =>
  clear H'; (try clear c1); (try clear c2); (try clear p2)
  obtain ⟨x3_1, x5_1, rfl, HA, HK1, HO_3, HO_4, HB⟩ := hrel
  cases gk with
  | zero => exact absurd HA.out (by simp [hopperref12_Heads.l0])
  | succ k1 =>
   have H := HA.out
   clear HA
   simp only [hopperref12_Heads.l0] at H
   by_cases c4 : x5_1 < (t283.length : Int)
   rotate_left
   · rw [if_neg c4] at H
     have c4b0 : decide (x5_1 < (t283.length : Int)) = false := decide_eq_false c4
     clear c4
     obtain rfl := Option.some.inj H
     obtain ⟨Ao17, co17, eo17⟩ := Kd.N_slice HO_4.out
     subst eo17
     go_wp2
     go_ret
     exact ⟨_, by first | rfl | (simp [errW_none, errW_some] <;> rfl) | (simp [*, errW_none, errW_some] <;> rfl), by (with_reducible repeat (first | apply ra_ | apply rn_ | apply rd_)); exact HO_3.out, by repeat (first | (with_reducible first | exact HB.out | apply wa_ | apply wn_ | apply wd_) | exact HB.out)⟩

   rw [if_pos c4] at H
   have c4b0 : decide (x5_1 < (t283.length : Int)) = true := decide_eq_true c4
   clear c4
   by_cases c5 : 0 ≤ x5_1
   rotate_left
   · rw [if_neg c5] at H
     exact absurd H (by simp)
   rw [if_pos c5] at H
   have c5b0 : decide (0 ≤ x5_1) = true := decide_eq_true c5
   clear c5
   replace H := Option.bind_eq_some_iff.mp H
   obtain ⟨t287, A60, H⟩ := H
   try dsimp only at H
   have A6 := A_ A60
   clear A60
   by_cases c7 : (t287.length : Int) > 0
   · rw [if_pos c7] at H
     have c7b0 : decide (0 < (t287.length : Int)) = true := decide_eq_true c7
     have c7b1 : decide (0 < t287.length) = true := decide_eq_true (by omega)
     clear c7
     by_cases c8 : 0 < (t287.length : Int)
     rotate_left
     · rw [if_neg c8] at H
       exact absurd H (by simp)
     rw [if_pos c8] at H
     have c8b0 : decide (0 < (t287.length : Int)) = true := decide_eq_true c8
     have c8b1 : decide (0 < t287.length) = true := decide_eq_true (by omega)
     clear c8
     by_cases c9 : x3_1.length < 2513169434916
     rotate_left
     · rw [if_neg c9] at H
       exact absurd H (by simp)
     rw [if_pos c9] at H
     have LMc9 := A_ c9
     clear c9
     obtain ⟨y291, hy291⟩ : ∃ y_ : List (S38), y_ = (x3_1 ++ [(⟨(rd_T38 t287 0).f0, (rd_T38 t287 0).f1, (rd_T38 t287 0).f2, (rd_T38 t287 0).f3, (rd_T38 t287 0).f4, (rd_T38 t287 0).f5⟩ : S38)]) := ⟨_, rfl⟩
     replace H : (hopperref12_Heads.l0 k1 y291 t283 (wrap64 (x5_1 + 1))) = some r := by first | (rw [hy291]; with_reducible exact H) | (have H2_ := (Option.bind_some _ _).symm.trans H; rw [hy291]; with_reducible exact H2_) | (have H2_ := (Option.bind_some _ _).symm.trans H; with_reducible exact H2_) | with_reducible exact H | (rw [hy291]; exact H) | exact H
     have Ny291 := A_ hy291
     clear hy291
     have H' := A_ H
     clear H
     obtain ⟨Ao10, co10, eo10⟩ := Kd.N_slice HO_4.out
     subst eo10
     have p286 : 0 ≤ (x5_1 : Int) := of_decide_eq_true (by first | (with_reducible assumption) | assumption)
     have q286 : x5_1 < (t283.length : Int) := of_decide_eq_true (by first | (with_reducible assumption) | assumption)
     obtain ⟨ad286, A286_2, c286_2, e286, hx286_0, hx286_1, hx286_2, hl286_2, hi286_2⟩ := at_T35 (Kd.N_reads' HO_4.out).2.2 x5_1 p286 q286
     cases e286
     obtain ⟨ce286, hce286, hMe286, hcc286⟩ := Kd.N_get HO_4.out z35 x5_1 p286 (by first | exact q286 | exact of_decide_eq_true (by first | (with_reducible assumption) | assumption) | (have e_ := (Kd.N_reads' HO_4.out).1; omega))
     obtain ⟨ua286_2, uc286_2, rfl, ul286_2, ge286_2⟩ := k35_openF hMe286
     have hv286_2 := hcc286 2 _ rfl
     rw [add_field _ _ 2 (by omega)] at hv286_2
     replace hv286_2 := Option.some.inj (hv286_2.symm.trans hx286_2)
     injection hv286_2 with hva_ hvn_ hvc_
     rw [hva_] at ge286_2
     rw [hvc_] at ul286_2
     have HL286_2 := A_ (show Kd.V k38 38 _ w.heap.size _ _ ((rd_T35 t283 x5_1).f2) from Kd.V_mk ul286_2 ge286_2)
     clear hva_ hvn_ hvc_ ge286_2 ul286_2; clear hcc286 hce286
     have HR286_2 := A_ hi286_2
     have HC286_2 := A_ hl286_2
     clear hi286_2 hl286_2
     replace p286 := eq_true p286
     replace q286 := eq_true q286
     go_wp2_with (first | ((with_reducible refine gate_callee (f := 29) rfl ?_); refine goesL_ (some 19) rfl rfl Try.func29 (by kernel_rfl) rfl #[.agg #[.int .i64 ((rd_T35 t283 x5_1).f0), .int .i64 ((rd_T35 t283 x5_1).f1), .slice A286_2 ((rd_T35 t283 x5_1).f2).length c286_2]] rfl (by (try simp only [m0_, m1_, m2_]); first | done | rfl) ?_; (with_reducible refine (hopperref12_Line.calls k1 ((rd_T35 t283 x5_1).f0) ((rd_T35 t283 x5_1).f1) _ _ ((rd_T35 t283 x5_1).f2) t287 _ ?side1 ?side2 A6.out).mono ?_); (case side1 => repeat (first | exact (by repeat (first | (with_reducible exact HR286_2.out) | (with_reducible refine ca_ ?_ _) | (with_reducible refine cn_ ?_ _) | (with_reducible refine cd_ ?_) | exact HR286_2.out)) | (with_reducible refine ca_ ?_ _) | (with_reducible refine cn_ ?_ _) | (with_reducible refine cd_ ?_))); (case side2 => exact HC286_2.out); rintro e w11 ⟨v288, rfl, ho0, hb⟩; refine ⟨_, rfl, ?_⟩; have n0_ := A_ (Kd.R_elder' (pr_ HO_3.out) (Kd.R_base ho0) hb); have n1_ := A_ (Kd.N_elder' (by (with_reducible repeat (first | apply Kd.N_alloc | apply Kd.N_drewN | apply Kd.N_drew)); exact HO_4.out) (Kd.R_base ho0) hb); have n2_ := A_ (Kd.V_elder' (by (with_reducible repeat (first | apply Kd.V_alloc | apply Kd.V_drewN | apply Kd.V_drew)); exact HL286_2.out) (Kd.R_base ho0) hb); have n3_ := A_ (Kd.R_lower (Kd.R_new' ho0 (Kd.R_lt (pr_ HO_3.out))) (below_size bw_)); have n4_ := A_ (Kd.C_below (by repeat (first | (with_reducible exact HR286_2.out) | (with_reducible refine ca_ ?_ _) | (with_reducible refine cn_ ?_ _) | (with_reducible refine cd_ ?_) | exact HR286_2.out)) hb); have n5_ := A_ (below_step bw_ hb); replace HO_3 := n0_; replace HO_4 := n1_; replace HL286_2 := n2_; have HO289 := n3_; replace HR286_2 := n4_; replace HB := n5_; clear n0_ n1_ n2_ n3_ n4_ n5_; (try clear hb); (try clear hb2); (try clear hk); (try clear hi); (try clear ho0); obtain ⟨Ao12, co12, eo12⟩ := Kd.R_slice HO289.out; subst eo12; have p290 : 0 ≤ (0 : Int) := (by omega); have q290 : 0 < (t287.length : Int) := of_decide_eq_true (by first | (with_reducible assumption) | assumption); obtain ⟨ad290, e290, hx290_0, hx290_1, hx290_2, hx290_3, hx290_4, hx290_5⟩ := at_T38 (Kd.R_reads' HO289.out).2.2 0 p290 q290; cases e290; have qi290 : (0 < t287.length) = True := eq_true (by omega); (try rw [show ((0 : Int)).toNat = 0 from rfl] at hx290_0); (try rw [show 0 * 6 = 0 from rfl] at hx290_0); (try rw [Addr.add_zero'] at hx290_0); (try rw [show ((0 : Int)).toNat = 0 from rfl] at hx290_1); (try rw [show 0 * 6 = 0 from rfl] at hx290_1); (try rw [Addr.add_zero'] at hx290_1); (try rw [show ((0 : Int)).toNat = 0 from rfl] at hx290_2); (try rw [show 0 * 6 = 0 from rfl] at hx290_2); (try rw [Addr.add_zero'] at hx290_2); (try rw [show ((0 : Int)).toNat = 0 from rfl] at hx290_3); (try rw [show 0 * 6 = 0 from rfl] at hx290_3); (try rw [Addr.add_zero'] at hx290_3); (try rw [show ((0 : Int)).toNat = 0 from rfl] at hx290_4); (try rw [show 0 * 6 = 0 from rfl] at hx290_4); (try rw [Addr.add_zero'] at hx290_4); (try rw [show ((0 : Int)).toNat = 0 from rfl] at hx290_5); (try rw [show 0 * 6 = 0 from rfl] at hx290_5); (try rw [Addr.add_zero'] at hx290_5); replace p290 := eq_true p290; replace q290 := eq_true q290) | ((with_reducible refine gate_builtin (b := .append) (xs := #[.tmp 23, .tmp 27]) rfl ?_); at_builtin; refine Kd.R_append k38 (w0 := w) w.heap.size rfl (.tmp 23) (.tmp 27) 23 38 (.agg #[(.int .i64 0), (.int .i64 0), (.int .i64 0), (.int .i64 0), (.int .i64 0), (.string ⟨#[]⟩)]) 56 rfl Try.underlying23 info38 rfl (by decide) (by omega) u3 x3_1 (⟨(rd_T38 t287 0).f0, (rd_T38 t287 0).f1, (rd_T38 t287 0).f2, (rd_T38 t287 0).f3, (rd_T38 t287 0).f4, (rd_T38 t287 0).f5⟩ : S38) [.int .i64 ((rd_T38 t287 0).f0), .int .i64 ((rd_T38 t287 0).f1), .int .i64 ((rd_T38 t287 0).f2), .int .i64 ((rd_T38 t287 0).f3), .int .i64 ((rd_T38 t287 0).f4), .string ((rd_T38 t287 0).f5)] (fun k_ => some k_ ≠ (.slice (some ad290) t287.length co12 : Value).ownBlock) (fun _ => False) rfl rfl ?aP (fun _ hk => hk.elim) ?aF ?aO ?aB ?aS ?aL ?_; (case aP => exact k38_mkM _ _ _ (⟨(rd_T38 t287 0).f0, (rd_T38 t287 0).f1, (rd_T38 t287 0).f2, (rd_T38 t287 0).f3, (rd_T38 t287 0).f4, (rd_T38 t287 0).f5⟩ : S38)); (case aB => exact bw_); (case aF => exact (fun k_ hk => Kd.fresh' (Kd.R_lt (pr_ HO289.out)) k_ hk)); (case aO => exact (by (with_reducible repeat (first | apply ra_ | apply rn_ | apply rd_)); exact Kd.R_mono HO_3.out (fun _ hk => hk.2))); (case aS => exact (below_size bw_)); (case aL => have := LMc9.out; omega); intro v292 w13 ho hb hg hat; rw [← Ny291.out] at ho; replace HO_4 := A_ (Kd.N_afterv (ok := (fun k_ => some k_ ≠ (.slice (some ad290) t287.length co12 : Value).ownBlock)) (by (with_reducible repeat (first | apply Kd.N_alloc | apply Kd.N_drewN | apply Kd.N_drew)); exact Kd.N_mono HO_4.out (fun _ hk => ⟨hk.2, hk.1⟩)) hg hat); replace HL286_2 := A_ (Kd.V_afterv (ok := (fun k_ => some k_ ≠ (.slice (some ad286) t283.length co10 : Value).ownBlock ∧ some k_ ≠ (.slice (some ad290) t287.length co12 : Value).ownBlock)) (by (with_reducible repeat (first | apply Kd.V_alloc | apply Kd.V_drewN | apply Kd.V_drew)); exact Kd.V_mono HL286_2.out (fun _ hk => ⟨⟨hk.1.2, hk.2⟩, hk.1.1⟩)) hg hat); replace HO289 := A_ (Kd.R_after (ok := (fun _ => True)) (pr_ HO289.out) hg hat); replace HB := A_ (hb); have HO293 := A_ (ho); clear HO_3; clear ho hb hg hat))
     go_roundg k1
     case measure => have := HK1.out; omega
     case rel => exact ⟨(y291), (wrap64 (x5_1 + 1)), (by first | rfl | (simp; done) | (simp [*]; done)), H', ⟨by have := HK1.out; omega⟩, ⟨by (with_reducible repeat (first | apply ra_ | apply rn_ | apply rd_)); exact Kd.R_mono HO293.out (fun _ hk => trivial)⟩, ⟨by (with_reducible repeat (first | apply Kd.N_alloc | apply Kd.N_drewN | apply Kd.N_drew)); exact Kd.N_mono HO_4.out (fun _ hk => hk.2)⟩, ⟨by repeat (first | (with_reducible first | exact HB.out | apply wa_ | apply wn_ | apply wd_) | exact HB.out)⟩⟩
   · rw [if_neg c7] at H
     have c7b0 : decide (0 < (t287.length : Int)) = false := decide_eq_false c7
     have c7b1 : decide (0 < t287.length) = false := decide_eq_false (by omega)
     clear c7
     have H' := A_ H
     clear H
     obtain ⟨Ao14, co14, eo14⟩ := Kd.N_slice HO_4.out
     subst eo14
     have p286 : 0 ≤ (x5_1 : Int) := of_decide_eq_true (by first | (with_reducible assumption) | assumption)
     have q286 : x5_1 < (t283.length : Int) := of_decide_eq_true (by first | (with_reducible assumption) | assumption)
     obtain ⟨ad286, A286_2, c286_2, e286, hx286_0, hx286_1, hx286_2, hl286_2, hi286_2⟩ := at_T35 (Kd.N_reads' HO_4.out).2.2 x5_1 p286 q286
     cases e286
     obtain ⟨ce286, hce286, hMe286, hcc286⟩ := Kd.N_get HO_4.out z35 x5_1 p286 (by first | exact q286 | exact of_decide_eq_true (by first | (with_reducible assumption) | assumption) | (have e_ := (Kd.N_reads' HO_4.out).1; omega))
     obtain ⟨ua286_2, uc286_2, rfl, ul286_2, ge286_2⟩ := k35_openF hMe286
     have hv286_2 := hcc286 2 _ rfl
     rw [add_field _ _ 2 (by omega)] at hv286_2
     replace hv286_2 := Option.some.inj (hv286_2.symm.trans hx286_2)
     injection hv286_2 with hva_ hvn_ hvc_
     rw [hva_] at ge286_2
     rw [hvc_] at ul286_2
     have HL286_2 := A_ (show Kd.V k38 38 _ w.heap.size _ _ ((rd_T35 t283 x5_1).f2) from Kd.V_mk ul286_2 ge286_2)
     clear hva_ hvn_ hvc_ ge286_2 ul286_2; clear hcc286 hce286
     have HR286_2 := A_ hi286_2
     have HC286_2 := A_ hl286_2
     clear hi286_2 hl286_2
     replace p286 := eq_true p286
     replace q286 := eq_true q286
     go_wp2_with (first | ((with_reducible refine gate_callee (f := 29) rfl ?_); refine goesL_ (some 19) rfl rfl Try.func29 (by kernel_rfl) rfl #[.agg #[.int .i64 ((rd_T35 t283 x5_1).f0), .int .i64 ((rd_T35 t283 x5_1).f1), .slice A286_2 ((rd_T35 t283 x5_1).f2).length c286_2]] rfl (by (try simp only [m0_, m1_, m2_]); first | done | rfl) ?_; (with_reducible refine (hopperref12_Line.calls k1 ((rd_T35 t283 x5_1).f0) ((rd_T35 t283 x5_1).f1) _ _ ((rd_T35 t283 x5_1).f2) t287 _ ?side1 ?side2 A6.out).mono ?_); (case side1 => repeat (first | exact (by repeat (first | (with_reducible exact HR286_2.out) | (with_reducible refine ca_ ?_ _) | (with_reducible refine cn_ ?_ _) | (with_reducible refine cd_ ?_) | exact HR286_2.out)) | (with_reducible refine ca_ ?_ _) | (with_reducible refine cn_ ?_ _) | (with_reducible refine cd_ ?_))); (case side2 => exact HC286_2.out); rintro e w15 ⟨v288, rfl, ho0, hb⟩; refine ⟨_, rfl, ?_⟩; have n0_ := A_ (Kd.R_elder' (pr_ HO_3.out) (Kd.R_base ho0) hb); have n1_ := A_ (Kd.N_elder' (by (with_reducible repeat (first | apply Kd.N_alloc | apply Kd.N_drewN | apply Kd.N_drew)); exact HO_4.out) (Kd.R_base ho0) hb); have n2_ := A_ (Kd.V_elder' (by (with_reducible repeat (first | apply Kd.V_alloc | apply Kd.V_drewN | apply Kd.V_drew)); exact HL286_2.out) (Kd.R_base ho0) hb); have n3_ := A_ (Kd.R_lower (Kd.R_new' ho0 (Kd.R_lt (pr_ HO_3.out))) (below_size bw_)); have n4_ := A_ (Kd.C_below (by repeat (first | (with_reducible exact HR286_2.out) | (with_reducible refine ca_ ?_ _) | (with_reducible refine cn_ ?_ _) | (with_reducible refine cd_ ?_) | exact HR286_2.out)) hb); have n5_ := A_ (below_step bw_ hb); replace HO_3 := n0_; replace HO_4 := n1_; replace HL286_2 := n2_; have HO289 := n3_; replace HR286_2 := n4_; replace HB := n5_; clear n0_ n1_ n2_ n3_ n4_ n5_; (try clear hb); (try clear hb2); (try clear hk); (try clear hi); (try clear ho0); obtain ⟨Ao16, co16, eo16⟩ := Kd.R_slice HO289.out; subst eo16))
     go_roundg k1
     case measure => have := HK1.out; omega
     case rel => exact ⟨(x3_1), (wrap64 (x5_1 + 1)), (by first | rfl | (simp; done) | (simp [*]; done)), H', ⟨by have := HK1.out; omega⟩, ⟨by (with_reducible repeat (first | apply ra_ | apply rn_ | apply rd_)); exact Kd.R_mono HO_3.out (fun _ hk => trivial)⟩, ⟨by (with_reducible repeat (first | apply Kd.N_alloc | apply Kd.N_drewN | apply Kd.N_drew)); exact Kd.N_mono HO_4.out (fun _ hk => hk.1)⟩, ⟨by repeat (first | (with_reducible first | exact HB.out | apply wa_ | apply wn_ | apply wd_) | exact HB.out)⟩⟩
/-! ### hopperref03_bytes: function 61 -/
def hopperref03_bytes.f : Nat → Int → Option (ByteArray)
 | 0, _ => none
 | k + 1, a0 => (some (([(Int.tmod a0 256) % 256] : List Int) : List Int)).bind fun y294 => (if a0 ≥ 256 then ((hopperref03_bytes.f k (wrap64 (Int.tdiv a0 256))).bind fun t297 => (if t297.size + (strOfNums y294).size ≤ 9223372036854775807 then (some (t297 ++ (strOfNums y294))) else (none))) else (some (strOfNums y294)))
theorem hopperref03_bytes.mono_l : ∀ k, (∀ y0, LeO (hopperref03_bytes.f k y0) (hopperref03_bytes.f (k + 1) y0))
 | 0 => fun _ r h => by simp [hopperref03_bytes.f] at h
 | k + 1 => by
  have ih0 := hopperref03_bytes.mono_l k
  · intro y0
    unfold hopperref03_bytes.f
    repeat' first
    | (with_reducible exact ih0 _)
    | (with_reducible exact LeO.refl _)
    | (with_reducible exact LeO.none _)
    | (with_reducible refine LeO.ite ?_ ?_)
    | (with_reducible refine LeO.bind ?_ (fun _ => ?_))
    | exact ih0 _
    | exact LeO.none _
    | refine LeO.ite ?_ ?_
    | refine LeO.bind ?_ (fun _ => ?_)
theorem hopperref03_bytes.mono : ∀ a0 k, LeO (hopperref03_bytes.f k a0) (hopperref03_bytes.f (k + 1) a0) := by
 intro a0 k
 have ih0 := hopperref03_bytes.mono_l k
 exact ih0 a0
set_option maxHeartbeats 8000000 in
set_option maxRecDepth 100000 in
theorem hopperref03_bytes.calls (k : Nat) : ∀ (a0 : Int) (r : ByteArray) (w : World) (h : hopperref03_bytes.f k a0 = some r),
 Calls Try.prog 61 #[.int .i64 a0] w fun e w' => e = .returned (.string r) ∧ Below w.heap.size w w' := by
 induction k using Nat.strongRecOn with
 | _ k ih =>
 intro a0 r w h
 cases k with
 | zero => exact absurd h (by simp [hopperref03_bytes.f])
 | succ k =>
 simp only [hopperref03_bytes.f] at h
 have HB := A_ (Below.refl w.heap.size w)
 have H : ((some (([(Int.tmod a0 256) % 256] : List Int) : List Int)).bind fun y294 => (if a0 ≥ 256 then ((hopperref03_bytes.f k (wrap64 (Int.tdiv a0 256))).bind fun t297 => (if t297.size + (strOfNums y294).size ≤ 9223372036854775807 then (some (t297 ++ (strOfNums y294))) else (none))) else (some (strOfNums y294)))) = some r := h
 clear h
 obtain ⟨y294, hy294⟩ : ∃ y_ : List Int, y_ = (([(Int.tmod a0 256) % 256] : List Int)) := ⟨_, rfl⟩
 replace H : (if a0 ≥ 256 then ((hopperref03_bytes.f k (wrap64 (Int.tdiv a0 256))).bind fun t297 => (if t297.size + (strOfNums y294).size ≤ 9223372036854775807 then (some (t297 ++ (strOfNums y294))) else (none))) else (some (strOfNums y294))) = some r := by first | (rw [hy294]; with_reducible exact H) | (have H2_ := (Option.bind_some _ _).symm.trans H; rw [hy294]; with_reducible exact H2_) | (have H2_ := (Option.bind_some _ _).symm.trans H; with_reducible exact H2_) | with_reducible exact H | (rw [hy294]; exact H) | exact H
 have Ny294 := A_ hy294
 clear hy294
 by_cases c2 : a0 ≥ 256
 rotate_left
 · rw [if_neg c2] at H
   have c2b0 : decide (256 ≤ a0) = false := decide_eq_false c2
   clear c2
   obtain rfl := Option.some.inj H
   go_enter Try.func61, Try.ntmps61
   go_wp2_with (first | ((with_reducible refine gate_dst (N := 7) rfl ?_); refine Kd.R_lit (Kd.int .u8) _ 5 ?hg (N := 7) ?hd (xs := ([(Int.tmod a0 256) % 256] : List Int)) (inner := [.int .u8 ((Int.tmod a0 256) % 256)]) (ok := fun _ => True) (okp := fun _ => True) ?hr ?hp (fun _ hk => hk) trivial (Below.refl _ _) (Nat.le_refl _) (by simp) ?_; (case hd => rfl); (case hg => rfl); (case hr => first | (go_simp; done) | (go_simp; rfl)); (case hp => exact (Reps.one (show Kd.M (Kd.int .u8) _ _ _ ((Int.tmod a0 256) % 256) [.int .u8 ((Int.tmod a0 256) % 256)] from rfl) (Reps.none _ _))); intro v295 w9 ho10 hb hg_ hnew_; clear hg_ hnew_; (first | rw [← Ny294.out] at ho10 | (simp only [Int.reduceToNat] at ho10; rw [← Ny294.out] at ho10)); have HO296 := A_ (Kd.R_lower ho10 (below_size bw_)); replace HB := A_ (below_step bw_ hb); clear hb ho10; have hcv11 := own_string (P := Try.prog) Try.underlying88 Try.underlying5 Try.underlying9 (Kd.own_of_R HO296.out)))
   go_ret
   exact ⟨by first | rfl | (simp [errW_none, errW_some] <;> rfl) | (simp [*, errW_none, errW_some] <;> rfl), by repeat (first | (with_reducible first | exact HB.out | apply wa_ | apply wn_ | apply wd_) | exact HB.out)⟩

 rw [if_pos c2] at H
 have c2b0 : decide (256 ≤ a0) = true := decide_eq_true c2
 clear c2
 replace H := Option.bind_eq_some_iff.mp H
 obtain ⟨t297, A30, H⟩ := H
 try dsimp only at H
 have A3 := A_ A30
 clear A30
 by_cases c4 : t297.size + (strOfNums y294).size ≤ 9223372036854775807
 · rw [if_pos c4] at H
   have c4b0 := eq_true c4
   have c4b1 : decide (t297.size + (strOfNums y294).size ≤ 9223372036854775807) = true := decide_eq_true c4
   try have c4b2 : (9223372036854775807 < t297.size + (strOfNums y294).size) = False := eq_false (Nat.not_lt.2 c4)
   obtain rfl := Option.some.inj H
   go_enter Try.func61, Try.ntmps61
   go_wp2_with (first | ((with_reducible refine gate_dst (N := 7) rfl ?_); refine Kd.R_lit (Kd.int .u8) _ 5 ?hg (N := 7) ?hd (xs := ([(Int.tmod a0 256) % 256] : List Int)) (inner := [.int .u8 ((Int.tmod a0 256) % 256)]) (ok := fun _ => True) (okp := fun _ => True) ?hr ?hp (fun _ hk => hk) trivial (Below.refl _ _) (Nat.le_refl _) (by simp) ?_; (case hd => rfl); (case hg => rfl); (case hr => first | (go_simp; done) | (go_simp; rfl)); (case hp => exact (Reps.one (show Kd.M (Kd.int .u8) _ _ _ ((Int.tmod a0 256) % 256) [.int .u8 ((Int.tmod a0 256) % 256)] from rfl) (Reps.none _ _))); intro v295 w5 ho6 hb hg_ hnew_; clear hg_ hnew_; (first | rw [← Ny294.out] at ho6 | (simp only [Int.reduceToNat] at ho6; rw [← Ny294.out] at ho6)); have HO296 := A_ (Kd.R_lower ho6 (below_size bw_)); replace HB := A_ (below_step bw_ hb); clear hb ho6; have hcv7 := own_string (P := Try.prog) Try.underlying88 Try.underlying5 Try.underlying9 (Kd.own_of_R HO296.out)) | ((with_reducible refine gate_callee (f := 61) rfl ?_); refine goesL_ (some 13) rfl rfl Try.func61 (by kernel_rfl) rfl #[.int .i64 (wrap64 (Int.tdiv a0 256))] rfl (by (try simp only [m0_, m1_, m2_]); first | done | rfl) ?_; (with_reducible refine (ih k (by omega) (wrap64 (Int.tdiv a0 256)) t297 _ A3.out).mono ?_); rintro e w8 ⟨rfl, hb⟩; refine ⟨_, rfl, ?_⟩; replace HO296 := A_ (Kd.R_below (pr_ HO296.out) hb); replace HB := A_ (below_step bw_ hb); (try clear hb); (try clear hb2); (try clear hk); (try clear hi)))
   go_ret
   exact ⟨by first | rfl | (simp [errW_none, errW_some] <;> rfl) | (simp [*, errW_none, errW_some] <;> rfl), by repeat (first | (with_reducible first | exact HB.out | apply wa_ | apply wn_ | apply wd_) | exact HB.out)⟩
 · rw [if_neg c4] at H
   exact absurd H (by simp)
/-! ### hopperref03_Number: function 53 -/
def hopperref03_Number.f (k : Nat) (a0 : Int) : Option (ByteArray) := if a0 < 0 then (some (⟨#[]⟩ : ByteArray)) else ((hopperref03_bytes.f k a0).bind fun t298 => ((some (([((t298.size : Int)) % 256] : List Int) : List Int)).bind fun y299 => (if (strOfNums y299).size + t298.size ≤ 9223372036854775807 then (some ((strOfNums y299) ++ t298)) else (none))))
theorem hopperref03_Number.mono : ∀ a0 k, LeO (hopperref03_Number.f k a0) (hopperref03_Number.f (k + 1) a0) := by
  intro a0 k
  unfold hopperref03_Number.f
  repeat' first
      | (with_reducible exact hopperref03_bytes.mono _ _)
      | (with_reducible exact LeO.refl _)
      | (with_reducible exact LeO.none _)
      | (with_reducible refine LeO.ite ?_ ?_)
      | (with_reducible refine LeO.bind ?_ (fun _ => ?_))
      | exact hopperref03_bytes.mono _ _
      | exact LeO.none _
      | refine LeO.ite ?_ ?_
      | refine LeO.bind ?_ (fun _ => ?_)
set_option maxHeartbeats 8000000 in
set_option maxRecDepth 100000 in
theorem hopperref03_Number.calls (k : Nat) (a0 : Int) (r : ByteArray) (w : World) (h : hopperref03_Number.f k a0 = some r) :
    Calls Try.prog 53 #[.int .i64 a0] w fun e w' => e = .returned (.string r) ∧ Below w.heap.size w w' := by
  have HB := Aside0.mk (Below.refl w.heap.size w)
  have H : (if a0 < 0 then (some (⟨#[]⟩ : ByteArray)) else ((hopperref03_bytes.f k a0).bind fun t298 => ((some (([((t298.size : Int)) % 256] : List Int) : List Int)).bind fun y299 => (if (strOfNums y299).size + t298.size ≤ 9223372036854775807 then (some ((strOfNums y299) ++ t298)) else (none))))) = some r := h
  clear h
  by_cases c2 : a0 < 0
  · rw [if_pos c2] at H
    have c2b0 : decide (a0 < 0) = true := decide_eq_true c2
    clear c2
    obtain rfl := Option.some.inj H
    go_enter Try.func53, Try.ntmps53
    go_wp2
    go_ret
    exact ⟨by first | rfl | (simp [errW_none, errW_some] <;> rfl) | (simp [*, errW_none, errW_some] <;> rfl), by repeat (first | (with_reducible first | exact HB.out | apply below_alloc | apply pw_below_drewN | apply below_drew1) | exact HB.out)⟩
  · rw [if_neg c2] at H
    have c2b0 : decide (a0 < 0) = false := decide_eq_false c2
    clear c2
    replace H := Option.bind_eq_some_iff.mp H
    obtain ⟨t298, A30, H⟩ := H
    replace H : ((some (([((t298.size : Int)) % 256] : List Int) : List Int)).bind fun y299 => (if (strOfNums y299).size + t298.size ≤ 9223372036854775807 then (some ((strOfNums y299) ++ t298)) else (none))) = some r := H
    have A3 := Aside0.mk A30
    clear A30
    obtain ⟨y299, hy299⟩ : ∃ y_ : List Int, y_ = (([((t298.size : Int)) % 256] : List Int)) := ⟨_, rfl⟩
    replace H : (if (strOfNums y299).size + t298.size ≤ 9223372036854775807 then (some ((strOfNums y299) ++ t298)) else (none)) = some r := by first | (rw [hy299]; with_reducible exact H) | (have H2_ := (Option.bind_some _ _).symm.trans H; rw [hy299]; with_reducible exact H2_) | (have H2_ := (Option.bind_some _ _).symm.trans H; with_reducible exact H2_) | with_reducible exact H | (rw [hy299]; exact H) | exact H
    have Ny299 := Aside0.mk hy299
    clear hy299
    by_cases c4 : (strOfNums y299).size + t298.size ≤ 9223372036854775807
    · rw [if_pos c4] at H
      have c4b0 := eq_true c4
      have c4b1 : decide ((strOfNums y299).size + t298.size ≤ 9223372036854775807) = true := decide_eq_true c4
      try have c4b2 : (9223372036854775807 < (strOfNums y299).size + t298.size) = False := eq_false (Nat.not_lt.2 c4)
      obtain rfl := Option.some.inj H
      go_enter Try.func53, Try.ntmps53
      go_wp2_with (first | ((with_reducible refine gate_callee (f := 61) rfl ?_); refine goesL_ (some 7) rfl rfl Try.func61 (by kernel_rfl) rfl #[.int .i64 a0] rfl (by (try simp only [List.map_toArray, List.map_cons, List.map_nil]); first | done | rfl | (simp only [List.length_drop, List.length_take]; rfl)) ?_; (with_reducible refine (hopperref03_bytes.calls k a0 t298 _ A3.out).mono ?_); rintro e w5 ⟨rfl, hb⟩; refine ⟨_, rfl, ?_⟩; have n0_ := Aside0.mk (below_step (by repeat (first | (with_reducible first | exact HB.out | apply below_alloc | apply pw_below_drewN | apply below_drew1) | exact HB.out)) hb); clear HB; have HB := n0_; clear n0_; (try clear hb); (try clear hb2); (try clear hk); (try clear hi)) | ((with_reducible refine gate_dst (N := 11) rfl ?_); refine Kd.R_lit (Kd.int .u8) _ 5 ?hg (N := 11) ?hd (xs := ([((t298.size : Int)) % 256] : List Int)) (inner := [.int .u8 (((t298.size : Int)) % 256)]) (ok := fun _ => True) (okp := fun _ => True) ?hr ?hp (fun _ hk => hk) trivial (Below.refl _ _) (Nat.le_refl _) (by simp) ?_; (case hd => rfl); (case hg => rfl); (case hr => first | (go_simp; done) | (go_simp; rfl)); (case hp => exact (Reps.one (show Kd.M (Kd.int .u8) _ _ _ (((t298.size : Int)) % 256) [.int .u8 (((t298.size : Int)) % 256)] from rfl) (Reps.none _ _))); intro v300 w6 ho7 hb hg_ hnew_; clear hg_ hnew_; (first | rw [← Ny299.out] at ho7 | (simp only [Int.reduceToNat] at ho7; rw [← Ny299.out] at ho7)); have n0_ := Aside0.mk (Kd.R_lower ho7 (below_size (by repeat (first | (with_reducible first | exact HB.out | apply below_alloc | apply pw_below_drewN | apply below_drew1) | exact HB.out)))); have n1_ := Aside0.mk (below_step (by repeat (first | (with_reducible first | exact HB.out | apply below_alloc | apply pw_below_drewN | apply below_drew1) | exact HB.out)) hb); clear HB; have HO301 := n0_; have HB := n1_; clear n0_ n1_; clear hb ho7; have hcv8 := own_string (P := Try.prog) Try.underlying88 Try.underlying5 Try.underlying9 (Kd.own_of_R HO301.out)))
      go_ret
      exact ⟨by first | rfl | (simp [errW_none, errW_some] <;> rfl) | (simp [*, errW_none, errW_some] <;> rfl), by repeat (first | (with_reducible first | exact HB.out | apply below_alloc | apply pw_below_drewN | apply below_drew1) | exact HB.out)⟩
    · rw [if_neg c4] at H
      exact absurd H (by simp)

/-! ### hopperref03_Text: function 54 -/
def hopperref03_Text.f (a0 : ByteArray) : Option (ByteArray) := if (a0.size : Int) > 65535 then (some (⟨#[]⟩ : ByteArray)) else ((some (([((a0.size : Int) / 256) % 256, (a0.size : Int) % 256] : List Int) : List Int)).bind fun y302 => (if (strOfNums y302).size + a0.size ≤ 9223372036854775807 then (some ((strOfNums y302) ++ a0)) else (none)))
set_option maxHeartbeats 8000000 in
set_option maxRecDepth 100000 in
theorem hopperref03_Text.calls (a0 : ByteArray) (r : ByteArray) (w : World) (h : hopperref03_Text.f a0 = some r) :
    Calls Try.prog 54 #[.string a0] w fun e w' => e = .returned (.string r) ∧ Below w.heap.size w w' := by
  have HB := Aside0.mk (Below.refl w.heap.size w)
  have H : (if (a0.size : Int) > 65535 then (some (⟨#[]⟩ : ByteArray)) else ((some (([((a0.size : Int) / 256) % 256, (a0.size : Int) % 256] : List Int) : List Int)).bind fun y302 => (if (strOfNums y302).size + a0.size ≤ 9223372036854775807 then (some ((strOfNums y302) ++ a0)) else (none)))) = some r := h
  clear h
  by_cases c2 : (a0.size : Int) > 65535
  · rw [if_pos c2] at H
    have c2b0 : decide (65535 < (a0.size : Int)) = true := decide_eq_true c2
    have c2b1 : decide (65535 < a0.size) = true := decide_eq_true (by omega)
    clear c2
    obtain rfl := Option.some.inj H
    go_enter Try.func54, Try.ntmps54
    go_wp2
    go_ret
    exact ⟨by first | rfl | (simp [errW_none, errW_some] <;> rfl) | (simp [*, errW_none, errW_some] <;> rfl), by repeat (first | (with_reducible first | exact HB.out | apply below_alloc | apply pw_below_drewN | apply below_drew1) | exact HB.out)⟩
  · rw [if_neg c2] at H
    have c2b0 : decide (65535 < (a0.size : Int)) = false := decide_eq_false c2
    have c2b1 : decide (65535 < a0.size) = false := decide_eq_false (by omega)
    clear c2
    obtain ⟨y302, hy302⟩ : ∃ y_ : List Int, y_ = (([((a0.size : Int) / 256) % 256, (a0.size : Int) % 256] : List Int)) := ⟨_, rfl⟩
    replace H : (if (strOfNums y302).size + a0.size ≤ 9223372036854775807 then (some ((strOfNums y302) ++ a0)) else (none)) = some r := by first | (rw [hy302]; with_reducible exact H) | (have H2_ := (Option.bind_some _ _).symm.trans H; rw [hy302]; with_reducible exact H2_) | (have H2_ := (Option.bind_some _ _).symm.trans H; with_reducible exact H2_) | with_reducible exact H | (rw [hy302]; exact H) | exact H
    have Ny302 := Aside0.mk hy302
    clear hy302
    by_cases c3 : (strOfNums y302).size + a0.size ≤ 9223372036854775807
    · rw [if_pos c3] at H
      have c3b0 := eq_true c3
      have c3b1 : decide ((strOfNums y302).size + a0.size ≤ 9223372036854775807) = true := decide_eq_true c3
      try have c3b2 : (9223372036854775807 < (strOfNums y302).size + a0.size) = False := eq_false (Nat.not_lt.2 c3)
      obtain rfl := Option.some.inj H
      go_enter Try.func54, Try.ntmps54
      go_wp2_with (first | ((with_reducible refine gate_dst (N := 14) rfl ?_); refine Kd.R_lit (Kd.int .u8) _ 5 ?hg (N := 14) ?hd (xs := ([((a0.size : Int) / 256) % 256, (a0.size : Int) % 256] : List Int)) (inner := [.int .u8 (((a0.size : Int) / 256) % 256), .int .u8 ((a0.size : Int) % 256)]) (ok := fun _ => True) (okp := fun _ => True) ?hr ?hp (fun _ hk => hk) trivial (Below.refl _ _) (Nat.le_refl _) (by simp) ?_; (case hd => rfl); (case hg => rfl); (case hr => first | (go_simp; done) | (go_simp; rfl)); (case hp => exact (Reps.one (show Kd.M (Kd.int .u8) _ _ _ (((a0.size : Int) / 256) % 256) [.int .u8 (((a0.size : Int) / 256) % 256)] from rfl) (Reps.one (show Kd.M (Kd.int .u8) _ _ _ ((a0.size : Int) % 256) [.int .u8 ((a0.size : Int) % 256)] from rfl) (Reps.none _ _)))); intro v303 w4 ho5 hb hg_ hnew_; clear hg_ hnew_; (first | rw [← Ny302.out] at ho5 | (simp only [Int.reduceToNat] at ho5; rw [← Ny302.out] at ho5)); have n0_ := Aside0.mk (Kd.R_lower ho5 (below_size (by repeat (first | (with_reducible first | exact HB.out | apply below_alloc | apply pw_below_drewN | apply below_drew1) | exact HB.out)))); have n1_ := Aside0.mk (below_step (by repeat (first | (with_reducible first | exact HB.out | apply below_alloc | apply pw_below_drewN | apply below_drew1) | exact HB.out)) hb); clear HB; have HO304 := n0_; have HB := n1_; clear n0_ n1_; clear hb ho5; have hcv6 := own_string (P := Try.prog) Try.underlying88 Try.underlying5 Try.underlying9 (Kd.own_of_R HO304.out)))
      go_ret
      exact ⟨by first | rfl | (simp [errW_none, errW_some] <;> rfl) | (simp [*, errW_none, errW_some] <;> rfl), by repeat (first | (with_reducible first | exact HB.out | apply below_alloc | apply pw_below_drewN | apply below_drew1) | exact HB.out)⟩
    · rw [if_neg c3] at H
      exact absurd H (by simp)

/-! ### hopperref04_Encode: function 45 -/
def hopperref04_Encode.l0 : Nat → List Int → ByteArray → Int → Int → Int → Int → Int → Int → ByteArray → Option (ByteArray × Bool)
 | 0, _, _, _, _, _, _, _, _, _ => none
 | k + 1, x4, x5, x6, x306000, x306001, x306002, x306003, x306004, x306005 => if x6 < (x4.length : Int) then (if 0 ≤ x6 then ((hopperref03_Number.f k (rd x4 x6)).bind fun t311 => (if x5.size + t311.size ≤ 9223372036854775807 then (hopperref04_Encode.l0 k x4 (x5 ++ t311) (wrap64 (x6 + 1)) x306000 x306001 x306002 x306003 x306004 x306005) else (none))) else (none)) else ((hopperref03_Text.f x306005).bind fun t312 => (if x5.size + t312.size ≤ 9223372036854775807 then (some (x5 ++ t312, true)) else (none)))
def hopperref04_Encode.f (k : Nat) (a0_0 : Int) (a0_1 : Int) (a0_2 : Int) (a0_3 : Int) (a0_4 : Int) (a0_5 : ByteArray) : Option (ByteArray × Bool) := (hopperref04_Check.f a0_0 a0_1 a0_2 a0_3 a0_4 a0_5).bind fun t306 => (if t306 = true then (hopperref04_Encode.l0 k (([a0_0, a0_1, a0_2, a0_3, a0_4] : List Int)) (⟨#[1]⟩ : ByteArray) 0 a0_0 a0_1 a0_2 a0_3 a0_4 a0_5) else (some ((⟨#[]⟩ : ByteArray), false)))
theorem hopperref04_Encode.mono_l : ∀ k, (∀ y0 y1 y2 y3 y4 y5 y6 y7 y8, LeO (hopperref04_Encode.l0 k y0 y1 y2 y3 y4 y5 y6 y7 y8) (hopperref04_Encode.l0 (k + 1) y0 y1 y2 y3 y4 y5 y6 y7 y8))
 | 0 => fun _ _ _ _ _ _ _ _ _ r h => by simp [hopperref04_Encode.l0] at h
 | k + 1 => by
  have ih0 := hopperref04_Encode.mono_l k
  · intro y0 y1 y2 y3 y4 y5 y6 y7 y8
    unfold hopperref04_Encode.l0
    repeat' first
    | (with_reducible exact ih0 _ _ _ _ _ _ _ _ _)
    | (with_reducible exact hopperref03_Number.mono _ _)
    | (with_reducible exact LeO.refl _)
    | (with_reducible exact LeO.none _)
    | (with_reducible refine LeO.ite ?_ ?_)
    | (with_reducible refine LeO.bind ?_ (fun _ => ?_))
    | exact ih0 _ _ _ _ _ _ _ _ _
    | exact hopperref03_Number.mono _ _
    | exact LeO.none _
    | refine LeO.ite ?_ ?_
    | refine LeO.bind ?_ (fun _ => ?_)
theorem hopperref04_Encode.mono : ∀ a0 a1 a2 a3 a4 a5 k, LeO (hopperref04_Encode.f k a0 a1 a2 a3 a4 a5) (hopperref04_Encode.f (k + 1) a0 a1 a2 a3 a4 a5) := by
 intro a0 a1 a2 a3 a4 a5 k
 have ih0 := hopperref04_Encode.mono_l k
 unfold hopperref04_Encode.f
 repeat' first
  | (with_reducible exact ih0 _ _ _ _ _ _ _ _ _)
  | (with_reducible exact hopperref03_Number.mono _ _)
  | (with_reducible exact LeO.refl _)
  | (with_reducible exact LeO.none _)
  | (with_reducible refine LeO.ite ?_ ?_)
  | (with_reducible refine LeO.bind ?_ (fun _ => ?_))
  | exact ih0 _ _ _ _ _ _ _ _ _
  | exact hopperref03_Number.mono _ _
  | exact LeO.none _
  | refine LeO.ite ?_ ?_
  | refine LeO.bind ?_ (fun _ => ?_)
set_option maxHeartbeats 8000000 in
set_option maxRecDepth 100000 in
theorem hopperref04_Encode.calls (k : Nat) (a0_0 : Int) (a0_1 : Int) (a0_2 : Int) (a0_3 : Int) (a0_4 : Int) (a0_5 : ByteArray) (r1 : ByteArray) (r2 : Bool) (w : World) (h : hopperref04_Encode.f k a0_0 a0_1 a0_2 a0_3 a0_4 a0_5 = some (r1, r2)) :
 Calls Try.prog 45 #[.agg #[.int .i64 a0_0, .int .i64 a0_1, .int .i64 a0_2, .int .i64 a0_3, .int .i64 a0_4, .string a0_5]] w fun e w' => e = .returned (.tuple #[.string r1, .bool r2]) ∧ Below w.heap.size w w' := by
 have hu38 := Try.underlying38
 have HB := A_ (Below.refl w.heap.size w)
 have H : ((hopperref04_Check.f a0_0 a0_1 a0_2 a0_3 a0_4 a0_5).bind fun t306 => (if t306 = true then (hopperref04_Encode.l0 k (([a0_0, a0_1, a0_2, a0_3, a0_4] : List Int)) (⟨#[1]⟩ : ByteArray) 0 a0_0 a0_1 a0_2 a0_3 a0_4 a0_5) else (some ((⟨#[]⟩ : ByteArray), false)))) = some (r1, r2) := h
 clear h
 replace H := Option.bind_eq_some_iff.mp H
 obtain ⟨t306, A20, H⟩ := H
 replace H : (if t306 = true then (hopperref04_Encode.l0 k (([a0_0, a0_1, a0_2, a0_3, a0_4] : List Int)) (⟨#[1]⟩ : ByteArray) 0 a0_0 a0_1 a0_2 a0_3 a0_4 a0_5) else (some ((⟨#[]⟩ : ByteArray), false))) = some (r1, r2) := H
 have A2 := A_ A20
 clear A20
 by_cases c3 : t306 = true
 · subst c3
   have H1 : (hopperref04_Encode.l0 k (([a0_0, a0_1, a0_2, a0_3, a0_4] : List Int)) (⟨#[1]⟩ : ByteArray) 0 a0_0 a0_1 a0_2 a0_3 a0_4 a0_5) = some (r1, r2) := by rw [if_pos rfl] at H; exact H
   clear H
   have H := H1
   clear H1
   obtain ⟨y307, hy307⟩ : ∃ y_ : List Int, y_ = (([a0_0, a0_1, a0_2, a0_3, a0_4] : List Int)) := ⟨_, rfl⟩
   replace H : (hopperref04_Encode.l0 k y307 (⟨#[1]⟩ : ByteArray) 0 a0_0 a0_1 a0_2 a0_3 a0_4 a0_5) = some (r1, r2) := by first | (rw [hy307]; with_reducible exact H) | (have H2_ := (Option.bind_some _ _).symm.trans H; rw [hy307]; with_reducible exact H2_) | (have H2_ := (Option.bind_some _ _).symm.trans H; with_reducible exact H2_) | with_reducible exact H | (rw [hy307]; exact H) | exact H
   have Ny307 := A_ hy307
   clear hy307
   have H' := A_ H
   clear H
   go_enter Try.func45, Try.ntmps45
   go_wp2_with (first | ((with_reducible refine gate_dst (N := 1) rfl ?_); refine box_event ?hg (N := 1) ?hd (cs := #[.int .i64 a0_0, .int .i64 a0_1, .int .i64 a0_2, .int .i64 a0_3, .int .i64 a0_4, .string a0_5]) (t := 38) ?hr ?_; (case hd => rfl); (case hg => rfl); (case hr => first | (go_simp; done) | (go_simp; rfl)); intro gb305 hg w4 hbox hb; have n0_ := A_ (below_step bw_ hb); have n1_ := A_ (hbox); have n2_ := A_ (gz_ (w := w) hg); have n3_ := A_ (gz_ (w := w) hg); replace HB := n0_; have BK305 := n1_; have GW305 := n2_; have GE305 := n3_; clear n0_ n1_ n2_ n3_; clear hb hbox hg; have hcz5_0 : w4.cell? ⟨gb305, 0, none⟩ = some (.int .i64 a0_0) := e_ BK305 0; have hcz5_1 : w4.cell? ⟨gb305, 1, none⟩ = some (.int .i64 a0_1) := e_ BK305 1; have hcz5_2 : w4.cell? ⟨gb305, 2, none⟩ = some (.int .i64 a0_2) := e_ BK305 2; have hcz5_3 : w4.cell? ⟨gb305, 3, none⟩ = some (.int .i64 a0_3) := e_ BK305 3; have hcz5_4 : w4.cell? ⟨gb305, 4, none⟩ = some (.int .i64 a0_4) := e_ BK305 4; have hcz5_5 : w4.cell? ⟨gb305, 5, none⟩ = some (.string a0_5) := e_ BK305 5; obtain ⟨hfz5_0, hfz5_1, hfz5_2, hfz5_3, hfz5_4, hfz5_5⟩ := z6_ BK305) | ((with_reducible refine gate_callee (f := 36) rfl ?_); refine goesL_ (some 8) rfl rfl Try.func36 (by kernel_rfl) rfl #[.agg #[.int .i64 a0_0, .int .i64 a0_1, .int .i64 a0_2, .int .i64 a0_3, .int .i64 a0_4, .string a0_5]] rfl (by (try simp only [m0_, m1_, m2_]); first | done | rfl) ?_; (with_reducible refine (hopperref04_Check.calls a0_0 a0_1 a0_2 a0_3 a0_4 a0_5 true _ A2.out).mono ?_); rintro e w6 ⟨rfl, hb⟩; refine ⟨_, rfl, ?_⟩; replace BK305 := A_ (kb_ BK305 hb); replace HB := A_ (below_step bw_ hb); (try clear hb); (try clear hb2); (try clear hk); (try clear hi); have hcz7_0 : w6.cell? ⟨gb305, 0, none⟩ = some (.int .i64 a0_0) := e_ BK305 0; have hcz7_1 : w6.cell? ⟨gb305, 1, none⟩ = some (.int .i64 a0_1) := e_ BK305 1; have hcz7_2 : w6.cell? ⟨gb305, 2, none⟩ = some (.int .i64 a0_2) := e_ BK305 2; have hcz7_3 : w6.cell? ⟨gb305, 3, none⟩ = some (.int .i64 a0_3) := e_ BK305 3; have hcz7_4 : w6.cell? ⟨gb305, 4, none⟩ = some (.int .i64 a0_4) := e_ BK305 4; have hcz7_5 : w6.cell? ⟨gb305, 5, none⟩ = some (.string a0_5) := e_ BK305 5; obtain ⟨hfz7_0, hfz7_1, hfz7_2, hfz7_3, hfz7_4, hfz7_5⟩ := z6_ BK305) | ((with_reducible refine gate_dst (N := 20) rfl ?_); refine Kd.R_lit (Kd.int .i64) _ 3 ?hg (N := 20) ?hd (xs := ([a0_0, a0_1, a0_2, a0_3, a0_4] : List Int)) (inner := [.int .i64 a0_0, .int .i64 a0_1, .int .i64 a0_2, .int .i64 a0_3, .int .i64 a0_4]) (ok := fun _ => True) (okp := fun _ => True) ?hr ?hp (fun _ hk => hk) trivial (Below.refl _ _) (Nat.le_refl _) (by simp) ?_; (case hd => rfl); (case hg => rfl); (case hr => first | (go_simp; done) | (go_simp; rfl)); (case hp => exact (Reps.one (show Kd.M (Kd.int .i64) _ _ _ a0_0 [.int .i64 a0_0] from rfl) (Reps.one (show Kd.M (Kd.int .i64) _ _ _ a0_1 [.int .i64 a0_1] from rfl) (Reps.one (show Kd.M (Kd.int .i64) _ _ _ a0_2 [.int .i64 a0_2] from rfl) (Reps.one (show Kd.M (Kd.int .i64) _ _ _ a0_3 [.int .i64 a0_3] from rfl) (Reps.one (show Kd.M (Kd.int .i64) _ _ _ a0_4 [.int .i64 a0_4] from rfl) (Reps.none _ _))))))); intro v308 w8 ho9 hb hg_ hnew_; clear hg_ hnew_; (first | rw [← Ny307.out] at ho9 | (simp only [Int.reduceToNat] at ho9; rw [← Ny307.out] at ho9)); have HO309 := A_ (Kd.R_lower ho9 (below_size bw_)); replace BK305 := A_ (kb_ BK305 hb); replace HB := A_ (below_step bw_ hb); clear hb ho9))
   go_loopg [5, 6] k (fun kq v5 v6 w' => ∃ (x5_1 : ByteArray) (x6_1 : Int), v5 = .string x5_1 ∧ v6 = .int .i64 x6_1 ∧ Aside0 (hopperref04_Encode.l0 kq y307 x5_1 x6_1 a0_0 a0_1 a0_2 a0_3 a0_4 a0_5 = some (r1, r2)) ∧ Aside0 (kq ≤ k) ∧ Aside0 (Kd.R (Kd.int .i64) 3 w' w.heap.size (fun _ => True) v308 y307) ∧ Aside0 (w'.heap[gb305]? = some (.cells #[.int .i64 a0_0, .int .i64 a0_1, .int .i64 a0_2, .int .i64 a0_3, .int .i64 a0_4, .string a0_5] 38 (0, 0))) ∧ Aside0 (Below w.heap.size w w'))
   case atStart => exact ⟨((⟨#[1]⟩ : ByteArray)), (0), (by first | rfl | (simp; done) | (simp [*]; done)), (by first | rfl | (simp; done) | (simp [*]; done)), H', ⟨Nat.le_refl _⟩, ⟨by (with_reducible repeat (first | apply ra_ | apply rn_ | apply rd_)); exact HO309.out⟩, ⟨bk_⟩, ⟨by repeat (first | (with_reducible first | exact HB.out | apply wa_ | apply wn_ | apply wd_ | refine ws_ ?_ GE305.out) | exact HB.out)⟩⟩
   case round =>
    clear H'; (try clear p2); (try clear c3); (try clear c4); (try clear hcz5_0 hcz5_1 hcz5_2 hcz5_3 hcz5_4 hcz5_5); (try clear hcz7_0 hcz7_1 hcz7_2 hcz7_3 hcz7_4 hcz7_5); (try clear hfz5_0 hfz5_1 hfz5_2 hfz5_3 hfz5_4 hfz5_5); (try clear hfz7_0 hfz7_1 hfz7_2 hfz7_3 hfz7_4 hfz7_5)
    obtain ⟨x5_1, x6_1, rfl, rfl, HA, HK1, HO_4, BK305, HB⟩ := hrel
    cases gk with
    | zero => exact absurd HA.out (by simp [hopperref04_Encode.l0])
    | succ k1 =>
     have H := HA.out
     clear HA
     simp only [hopperref04_Encode.l0] at H
     by_cases c10 : x6_1 < (y307.length : Int)
     · rw [if_pos c10] at H
       have c10b0 : decide (x6_1 < (y307.length : Int)) = true := decide_eq_true c10
       clear c10
       by_cases c11 : 0 ≤ x6_1
       rotate_left
       · rw [if_neg c11] at H
         exact absurd H (by simp)
       rw [if_pos c11] at H
       have c11b0 : decide (0 ≤ x6_1) = true := decide_eq_true c11
       clear c11
       replace H := Option.bind_eq_some_iff.mp H
       obtain ⟨t311, A120, H⟩ := H
       replace H : (if x5_1.size + t311.size ≤ 9223372036854775807 then (hopperref04_Encode.l0 k1 y307 (x5_1 ++ t311) (wrap64 (x6_1 + 1)) a0_0 a0_1 a0_2 a0_3 a0_4 a0_5) else (none)) = some (r1, r2) := H
       have A12 := A_ A120
       clear A120
       by_cases c13 : x5_1.size + t311.size ≤ 9223372036854775807
       rotate_left
       · rw [if_neg c13] at H
         exact absurd H (by simp)
       rw [if_pos c13] at H
       have c13b0 := eq_true c13
       have c13b1 : decide (x5_1.size + t311.size ≤ 9223372036854775807) = true := decide_eq_true c13
       try have c13b2 : (9223372036854775807 < x5_1.size + t311.size) = False := eq_false (Nat.not_lt.2 c13)
       have H' := A_ H
       clear H
       obtain ⟨Ao14, co14, eo14⟩ := Kd.R_slice HO_4.out
       subst eo14
       have p310 : 0 ≤ (x6_1 : Int) := of_decide_eq_true (by first | (with_reducible assumption) | assumption)
       have q310 : x6_1 < (y307.length : Int) := of_decide_eq_true (by first | (with_reducible assumption) | assumption)
       obtain ⟨ad310, e310, hx310_0⟩ := Kd.at_int (Kd.R_reads' HO_4.out).2.2 x6_1 p310 q310
       cases e310
       replace p310 := eq_true p310
       replace q310 := eq_true q310
       go_wp2_with (first | ((with_reducible refine gate_callee (f := 53) rfl ?_); refine goesL_ (some 32) rfl rfl Try.func53 (by kernel_rfl) rfl #[.int .i64 (rd y307 x6_1)] rfl (by (try simp only [m0_, m1_, m2_]); first | done | rfl) ?_; (with_reducible refine (hopperref03_Number.calls k1 (rd y307 x6_1) t311 _ A12.out).mono ?_); rintro e w15 ⟨rfl, hb⟩; refine ⟨_, rfl, ?_⟩; replace HO_4 := A_ (Kd.R_below (pr_ HO_4.out) hb); replace BK305 := A_ (kb_ BK305 hb); replace HB := A_ (below_step bw_ hb); (try clear hb); (try clear hb2); (try clear hk); (try clear hi)))
       go_roundg k1
       case measure => have := HK1.out; omega
       case rel => exact ⟨(x5_1 ++ t311), (wrap64 (x6_1 + 1)), (by first | rfl | (simp; done) | (simp [*]; done)), (by first | rfl | (simp; done) | (simp [*]; done)), H', ⟨by have := HK1.out; omega⟩, ⟨by (with_reducible repeat (first | apply ra_ | apply rn_ | apply rd_)); exact HO_4.out⟩, ⟨bk_⟩, ⟨by repeat (first | (with_reducible first | exact HB.out | apply wa_ | apply wn_ | apply wd_ | refine ws_ ?_ GE305.out) | exact HB.out)⟩⟩
     · rw [if_neg c10] at H
       have c10b0 : decide (x6_1 < (y307.length : Int)) = false := decide_eq_false c10
       clear c10
       replace H := Option.bind_eq_some_iff.mp H
       obtain ⟨t312, A160, H⟩ := H
       replace H : (if x5_1.size + t312.size ≤ 9223372036854775807 then (some (x5_1 ++ t312, true)) else (none)) = some (r1, r2) := H
       have A16 := A_ A160
       clear A160
       by_cases c17 : x5_1.size + t312.size ≤ 9223372036854775807
       rotate_left
       · rw [if_neg c17] at H
         exact absurd H (by simp)
       rw [if_pos c17] at H
       have c17b0 := eq_true c17
       have c17b1 : decide (x5_1.size + t312.size ≤ 9223372036854775807) = true := decide_eq_true c17
       try have c17b2 : (9223372036854775807 < x5_1.size + t312.size) = False := eq_false (Nat.not_lt.2 c17)
       simp only [Option.some.injEq, Prod.mk.injEq] at H
       obtain ⟨rfl, rfl⟩ := H
       obtain ⟨Ao18, co18, eo18⟩ := Kd.R_slice HO_4.out
       subst eo18
       have hcz19_0 : wr.cell? ⟨gb305, 0, none⟩ = some (.int .i64 a0_0) := e_ BK305 0; have hcz19_1 : wr.cell? ⟨gb305, 1, none⟩ = some (.int .i64 a0_1) := e_ BK305 1; have hcz19_2 : wr.cell? ⟨gb305, 2, none⟩ = some (.int .i64 a0_2) := e_ BK305 2; have hcz19_3 : wr.cell? ⟨gb305, 3, none⟩ = some (.int .i64 a0_3) := e_ BK305 3; have hcz19_4 : wr.cell? ⟨gb305, 4, none⟩ = some (.int .i64 a0_4) := e_ BK305 4; have hcz19_5 : wr.cell? ⟨gb305, 5, none⟩ = some (.string a0_5) := e_ BK305 5; obtain ⟨hfz19_0, hfz19_1, hfz19_2, hfz19_3, hfz19_4, hfz19_5⟩ := z6_ BK305
       go_wp2_with (first | ((with_reducible refine gate_callee (f := 54) rfl ?_); refine goesL_ (some 37) rfl rfl Try.func54 (by kernel_rfl) rfl #[.string a0_5] rfl (by (try simp only [m0_, m1_, m2_]); first | done | rfl) ?_; (with_reducible refine (hopperref03_Text.calls a0_5 t312 _ A16.out).mono ?_); rintro e w20 ⟨rfl, hb⟩; refine ⟨_, rfl, ?_⟩; replace HO_4 := A_ (Kd.R_below (pr_ HO_4.out) hb); replace BK305 := A_ (kb_ BK305 hb); replace HB := A_ (below_step bw_ hb); (try clear hb); (try clear hb2); (try clear hk); (try clear hi)))
       go_ret2
       exact ⟨by first | rfl | (simp [errW_none, errW_some] <;> rfl) | (simp [*, errW_none, errW_some] <;> rfl), by repeat (first | (with_reducible first | exact HB.out | apply wa_ | apply wn_ | apply wd_ | refine ws_ ?_ GE305.out) | exact HB.out)⟩
 · replace c3 := Bool.eq_false_iff.mpr c3
   subst c3
   have H1 : (some ((⟨#[]⟩ : ByteArray), false)) = some (r1, r2) := by rw [if_neg (show ¬ (false = true) by decide)] at H; exact H
   clear H
   have H := H1
   clear H1
   simp only [Option.some.injEq, Prod.mk.injEq] at H
   obtain ⟨rfl, rfl⟩ := H
   go_enter Try.func45, Try.ntmps45
   go_wp2_with (first | ((with_reducible refine gate_dst (N := 1) rfl ?_); refine box_event ?hg (N := 1) ?hd (cs := #[.int .i64 a0_0, .int .i64 a0_1, .int .i64 a0_2, .int .i64 a0_3, .int .i64 a0_4, .string a0_5]) (t := 38) ?hr ?_; (case hd => rfl); (case hg => rfl); (case hr => first | (go_simp; done) | (go_simp; rfl)); intro gb305 hg w21 hbox hb; have n0_ := A_ (below_step bw_ hb); have n1_ := A_ (hbox); have n2_ := A_ (gz_ (w := w) hg); have n3_ := A_ (gz_ (w := w) hg); replace HB := n0_; have BK305 := n1_; have GW305 := n2_; have GE305 := n3_; clear n0_ n1_ n2_ n3_; clear hb hbox hg; have hcz22_0 : w21.cell? ⟨gb305, 0, none⟩ = some (.int .i64 a0_0) := e_ BK305 0; have hcz22_1 : w21.cell? ⟨gb305, 1, none⟩ = some (.int .i64 a0_1) := e_ BK305 1; have hcz22_2 : w21.cell? ⟨gb305, 2, none⟩ = some (.int .i64 a0_2) := e_ BK305 2; have hcz22_3 : w21.cell? ⟨gb305, 3, none⟩ = some (.int .i64 a0_3) := e_ BK305 3; have hcz22_4 : w21.cell? ⟨gb305, 4, none⟩ = some (.int .i64 a0_4) := e_ BK305 4; have hcz22_5 : w21.cell? ⟨gb305, 5, none⟩ = some (.string a0_5) := e_ BK305 5; obtain ⟨hfz22_0, hfz22_1, hfz22_2, hfz22_3, hfz22_4, hfz22_5⟩ := z6_ BK305) | ((with_reducible refine gate_callee (f := 36) rfl ?_); refine goesL_ (some 8) rfl rfl Try.func36 (by kernel_rfl) rfl #[.agg #[.int .i64 a0_0, .int .i64 a0_1, .int .i64 a0_2, .int .i64 a0_3, .int .i64 a0_4, .string a0_5]] rfl (by (try simp only [m0_, m1_, m2_]); first | done | rfl) ?_; (with_reducible refine (hopperref04_Check.calls a0_0 a0_1 a0_2 a0_3 a0_4 a0_5 false _ A2.out).mono ?_); rintro e w23 ⟨rfl, hb⟩; refine ⟨_, rfl, ?_⟩; replace BK305 := A_ (kb_ BK305 hb); replace HB := A_ (below_step bw_ hb); (try clear hb); (try clear hb2); (try clear hk); (try clear hi)))
   go_ret2
   exact ⟨by first | rfl | (simp [errW_none, errW_some] <;> rfl) | (simp [*, errW_none, errW_some] <;> rfl), by repeat (first | (with_reducible first | exact HB.out | apply wa_ | apply wn_ | apply wd_ | refine ws_ ?_ GE305.out) | exact HB.out)⟩

end Go.Proofs.Ytahopljippfadaa.D
