/- Written by this session's own program over the kit's print: functions of Go told as plain functions, or the row of one statement; proved for every input, with no condition of ours. -/
import Derived.Test.YtahopljippfadaaDx0
import Derived.Test.YtahopljippfadaaDx12
import Derived.Test.YtahopljippfadaaDx13
import Derived.Test.YtahopljippfadaaDx15
namespace Go.Proofs.Ytahopljippfadaa.D
open Go.RowKit Go.Proofs.YtahopljippfadaaW.PrintWords Go.Proofs.YtahopljippfadaaW.PrintLast Go.Proofs.YtahopljippfadaaW.PrintMore
attribute [local go_sem] max2_int min2_int max_two min_two max_three min_three max_four min_four   -- for this text's walks alone
set_option linter.unusedVariables false
set_option linter.unusedSimpArgs false

/-! ### hopperref12_Template: function 17 -/
mutual
def hopperref12_Template.l0 : Nat → Int → List (List (S38)) → List (S35) → Int → Option ((List (S38)))
 | 0, _, _, _, _ => none
 | k + 1, x1, x6, x7, x8 => if x8 < (x7.length : Int) then (if 0 ≤ x8 then ((hopperref12_Line.f k ((rd_T35 x7 x8).f0) ((rd_T35 x7 x8).f1) ((rd_T35 x7 x8).f2)).bind fun t333 => (if x6.length < 5864062014805 then (hopperref12_Template.l0 k x1 (x6 ++ [t333]) x7 (wrap64 (x8 + 1))) else (none))) else (none)) else (hopperref12_Template.l1 k x1 ([] : List (S38)) x6)
def hopperref12_Template.l1 : Nat → Int → List (S38) → List (List (S38)) → Option ((List (S38)))
 | 0, _, _, _ => none
 | k + 1, x1, x5, x6 => (hopperref12_best.f k x6).bind fun t339 => (if t339 < 0 then (hopperref12_Template.j2 k x1 x5 x6 t339 true) else (hopperref12_Template.j2 k x1 x5 x6 t339 (decide (x1 < 0))))
def hopperref12_Template.j2 : Nat → Int → List (S38) → List (List (S38)) → Int → Bool → Option ((List (S38)))
 | 0, _, _, _, _, _ => none
 | k + 1, x1, x5, x6, x9, x34 => if x34 = true then (some x5) else (if 0 ≤ x9 then (if x9 < (x6.length : Int) then (if 0 < ((rd_L3 x6 x9).length : Int) then (if ((rd_T38 (rd_L3 x6 x9) 0).f4) > x1 then (hopperref12_Template.l1 k x1 x5 (x6.set (x9 : Int).toNat ([] : List (S38)))) else (if 1 ≤ ((rd_L3 x6 x9).length : Int) then (if x5.length < 2513169434916 then (hopperref12_Template.l1 k (wrap64 (x1 - ((rd_T38 (rd_L3 x6 x9) 0).f4))) (x5 ++ [(⟨(rd_T38 (rd_L3 x6 x9) 0).f0, (rd_T38 (rd_L3 x6 x9) 0).f1, (rd_T38 (rd_L3 x6 x9) 0).f2, (rd_T38 (rd_L3 x6 x9) 0).f3, (rd_T38 (rd_L3 x6 x9) 0).f4, (rd_T38 (rd_L3 x6 x9) 0).f5⟩ : S38)]) (x6.set (x9 : Int).toNat ((rd_L3 x6 x9).drop 1))) else (none)) else (none))) else (none)) else (none)) else (none))
end
def hopperref12_Template.f (k : Nat) (l0 : List (S35)) (a1 : Int) : Option ((List (S38))) := (hopperref12_firsts.f k l0).bind fun t329 => (hopperref12_Template.l0 k a1 ([] : List (List (S38))) t329 0)
theorem hopperref12_Template.mono_l : ∀ k, (∀ y0 y1 y2 y3, LeO (hopperref12_Template.l0 k y0 y1 y2 y3) (hopperref12_Template.l0 (k + 1) y0 y1 y2 y3)) ∧ (∀ y0 y1 y2, LeO (hopperref12_Template.l1 k y0 y1 y2) (hopperref12_Template.l1 (k + 1) y0 y1 y2)) ∧ (∀ y0 y1 y2 y3 y4, LeO (hopperref12_Template.j2 k y0 y1 y2 y3 y4) (hopperref12_Template.j2 (k + 1) y0 y1 y2 y3 y4))
 | 0 => ⟨fun _ _ _ _ r h => by simp [hopperref12_Template.l0] at h, fun _ _ _ r h => by simp [hopperref12_Template.l1] at h, fun _ _ _ _ _ r h => by simp [hopperref12_Template.j2] at h⟩
 | k + 1 => by
  obtain ⟨ih0, ih1, ih2⟩ := hopperref12_Template.mono_l k
  refine ⟨?_, ?_, ?_⟩
  · intro y0 y1 y2 y3
    unfold hopperref12_Template.l0
    repeat' first
    | (with_reducible exact ih0 _ _ _ _)
    | (with_reducible exact ih1 _ _ _)
    | (with_reducible exact ih2 _ _ _ _ _)
    | (with_reducible exact hopperref12_Line.mono _ _ _ _)
    | (with_reducible exact hopperref12_best.mono _ _)
    | (with_reducible exact hopperref12_firsts.mono _ _)
    | (with_reducible exact LeO.refl _)
    | (with_reducible exact LeO.none _)
    | (with_reducible refine LeO.ite ?_ ?_)
    | (with_reducible refine LeO.bind ?_ (fun _ => ?_))
    | exact ih0 _ _ _ _
    | exact ih1 _ _ _
    | exact ih2 _ _ _ _ _
    | exact hopperref12_Line.mono _ _ _ _
    | exact hopperref12_best.mono _ _
    | exact hopperref12_firsts.mono _ _
    | exact LeO.none _
    | refine LeO.ite ?_ ?_
    | refine LeO.bind ?_ (fun _ => ?_)
  · intro y0 y1 y2
    unfold hopperref12_Template.l1
    repeat' first
    | (with_reducible exact ih0 _ _ _ _)
    | (with_reducible exact ih1 _ _ _)
    | (with_reducible exact ih2 _ _ _ _ _)
    | (with_reducible exact hopperref12_Line.mono _ _ _ _)
    | (with_reducible exact hopperref12_best.mono _ _)
    | (with_reducible exact hopperref12_firsts.mono _ _)
    | (with_reducible exact LeO.refl _)
    | (with_reducible exact LeO.none _)
    | (with_reducible refine LeO.ite ?_ ?_)
    | (with_reducible refine LeO.bind ?_ (fun _ => ?_))
    | exact ih0 _ _ _ _
    | exact ih1 _ _ _
    | exact ih2 _ _ _ _ _
    | exact hopperref12_Line.mono _ _ _ _
    | exact hopperref12_best.mono _ _
    | exact hopperref12_firsts.mono _ _
    | exact LeO.none _
    | refine LeO.ite ?_ ?_
    | refine LeO.bind ?_ (fun _ => ?_)
  · intro y0 y1 y2 y3 y4
    unfold hopperref12_Template.j2
    repeat' first
    | (with_reducible exact ih0 _ _ _ _)
    | (with_reducible exact ih1 _ _ _)
    | (with_reducible exact ih2 _ _ _ _ _)
    | (with_reducible exact hopperref12_Line.mono _ _ _ _)
    | (with_reducible exact hopperref12_best.mono _ _)
    | (with_reducible exact hopperref12_firsts.mono _ _)
    | (with_reducible exact LeO.refl _)
    | (with_reducible exact LeO.none _)
    | (with_reducible refine LeO.ite ?_ ?_)
    | (with_reducible refine LeO.bind ?_ (fun _ => ?_))
    | exact ih0 _ _ _ _
    | exact ih1 _ _ _
    | exact ih2 _ _ _ _ _
    | exact hopperref12_Line.mono _ _ _ _
    | exact hopperref12_best.mono _ _
    | exact hopperref12_firsts.mono _ _
    | exact LeO.none _
    | refine LeO.ite ?_ ?_
    | refine LeO.bind ?_ (fun _ => ?_)
theorem hopperref12_Template.mono : ∀ a0 a1 k, LeO (hopperref12_Template.f k a0 a1) (hopperref12_Template.f (k + 1) a0 a1) := by
 intro a0 a1 k
 obtain ⟨ih0, ih1, ih2⟩ := hopperref12_Template.mono_l k
 unfold hopperref12_Template.f
 repeat' first
  | (with_reducible exact ih0 _ _ _ _)
  | (with_reducible exact ih1 _ _ _)
  | (with_reducible exact ih2 _ _ _ _ _)
  | (with_reducible exact hopperref12_Line.mono _ _ _ _)
  | (with_reducible exact hopperref12_best.mono _ _)
  | (with_reducible exact hopperref12_firsts.mono _ _)
  | (with_reducible exact LeO.refl _)
  | (with_reducible exact LeO.none _)
  | (with_reducible refine LeO.ite ?_ ?_)
  | (with_reducible refine LeO.bind ?_ (fun _ => ?_))
  | exact ih0 _ _ _ _
  | exact ih1 _ _ _
  | exact ih2 _ _ _ _ _
  | exact hopperref12_Line.mono _ _ _ _
  | exact hopperref12_best.mono _ _
  | exact hopperref12_firsts.mono _ _
  | exact LeO.none _
  | refine LeO.ite ?_ ?_
  | refine LeO.bind ?_ (fun _ => ?_)
set_option maxHeartbeats 8000000 in
set_option maxRecDepth 100000 in
theorem hopperref12_Template.calls (k : Nat) (A0 : Option Addr) (c0 : Nat) (l0 : List (S35)) (a1 : Int) (r : List (S38)) (w : World) (hr0 : Kd.C k35 w A0 l0.length l0) (hc0 : l0.length ≤ c0) (h : hopperref12_Template.f k l0 a1 = some r) :
 Calls Try.prog 17 #[.slice A0 l0.length c0, .int .i64 a1] w fun e w' => ∃ v0_ : Value, e = .returned (v0_) ∧ Kd.R k38 38 w' w.heap.size (fun _ => True) v0_ r ∧ Below w.heap.size w w' := by
 have hu35 := Try.underlying35
 have hu38 := Try.underlying38
 have HR0 := A_ hr0
 have HC0 := A_ hc0
 clear hr0 hc0; have HB := A_ (Below.refl w.heap.size w)
 have H : ((hopperref12_firsts.f k l0).bind fun t329 => (hopperref12_Template.l0 k a1 ([] : List (List (S38))) t329 0)) = some r := h
 clear h
 replace H := Option.bind_eq_some_iff.mp H
 obtain ⟨t329, A30, H⟩ := H
 try dsimp only at H
 have A3 := A_ A30
 clear A30
 have H' := A_ H
 clear H
 go_enter Try.func17, Try.ntmps17
 go_wp2_with (first | ((with_reducible refine gate_callee (f := 28) rfl ?_); refine goesL_ (some 12) rfl rfl Try.func28 (by kernel_rfl) rfl #[.slice A0 l0.length c0] rfl (by (try simp only [m0_, m1_, m2_]); first | done | rfl) ?_; (with_reducible refine (hopperref12_firsts.calls k (fun k_ => k_ < w.heap.size) _ _ l0 t329 _ ?side1 A3.out).mono ?_); (case side1 => exact Kd.V_mk HC0.out (Kd.F_below (Kd.C_F k35_heap HR0.out) bw_)); rintro e w4 ⟨v330, rfl, ho0, hb⟩; refine ⟨_, rfl, ?_⟩; have HO331 := A_ (Kd.N_lower (Kd.N_mono (ok' := fun k_ => True) ho0 (fun k_ hk_ => trivial)) (below_size bw_)); replace HB := A_ (below_step bw_ hb); (try clear hb); (try clear hb2); (try clear hk); (try clear hi); (try clear ho0)))
 go_loopg [6, 8] k (fun kq v6 v8 w' => ∃ (x6_1 : List (List (S38))) (x8_1 : Int), v8 = .int .i64 x8_1 ∧ Aside0 (hopperref12_Template.l0 kq a1 x6_1 t329 x8_1 = some r) ∧ Aside0 (kq ≤ k) ∧ Aside0 (Kd.N (Kd.slice 38 k38) 23 w' w.heap.size (fun k_ => some k_ ≠ (v330 : Value).ownBlock) v6 x6_1) ∧ Aside0 (Kd.N k35 35 w' w.heap.size (fun k_ => some k_ ≠ (v6 : Value).ownBlock) v330 t329) ∧ Aside0 (Below w.heap.size w w'))
 case atStart => exact ⟨(([] : List (List (S38)))), (0), (by first | rfl | (simp; done) | (simp [*]; done)), H', ⟨Nat.le_refl _⟩, ⟨by first | exact Kd.S_nil _ _ _ _ _ | exact Kd.N_nil _ _ _ _ _ | exact Kd.V_nil _ _ _ _ _ | exact Kd.Q_nil _ _ _ _ _ | exact Kd.R_nil _ _ _ _ _⟩, ⟨by (with_reducible repeat (first | apply Kd.N_alloc | apply Kd.N_drewN | apply Kd.N_drew)); exact Kd.N_mono HO331.out (fun _ hk => (by simp [Value.ownBlock]))⟩, ⟨by repeat (first | (with_reducible first | exact HB.out | apply wa_ | apply wn_ | apply wd_) | exact HB.out)⟩⟩
 case round =>
  clear H'; (try clear c1); (try clear c2); (try clear p2)
  obtain ⟨x6_1, x8_1, rfl, HA, HK1, HO_6, HO_7, HB⟩ := hrel
  cases gk with
  | zero => exact absurd HA.out (by simp [hopperref12_Template.l0])
  | succ k1 =>
   have H := HA.out
   clear HA
   simp only [hopperref12_Template.l0] at H
   by_cases c5 : x8_1 < (t329.length : Int)
   · rw [if_pos c5] at H
     have c5b0 : decide (x8_1 < (t329.length : Int)) = true := decide_eq_true c5
     clear c5
     by_cases c6 : 0 ≤ x8_1
     rotate_left
     · rw [if_neg c6] at H
       exact absurd H (by simp)
     rw [if_pos c6] at H
     have c6b0 : decide (0 ≤ x8_1) = true := decide_eq_true c6
     clear c6
     replace H := Option.bind_eq_some_iff.mp H
     obtain ⟨t333, A70, H⟩ := H
     try dsimp only at H
     have A7 := A_ A70
     clear A70
     by_cases c8 : x6_1.length < 5864062014805
     rotate_left
     · rw [if_neg c8] at H
       exact absurd H (by simp)
     rw [if_pos c8] at H
     have LMc8 := A_ c8
     clear c8
     obtain ⟨y336, hy336⟩ : ∃ y_ : List (List (S38)), y_ = (x6_1 ++ [t333]) := ⟨_, rfl⟩
     replace H : (hopperref12_Template.l0 k1 a1 y336 t329 (wrap64 (x8_1 + 1))) = some r := by first | (rw [hy336]; with_reducible exact H) | (have H2_ := (Option.bind_some _ _).symm.trans H; rw [hy336]; with_reducible exact H2_) | (have H2_ := (Option.bind_some _ _).symm.trans H; with_reducible exact H2_) | with_reducible exact H | (rw [hy336]; exact H) | exact H
     have Ny336 := A_ hy336
     clear hy336
     have H' := A_ H
     clear H
     obtain ⟨Ao9, co9, eo9⟩ := Kd.N_slice HO_7.out
     subst eo9
     have p332 : 0 ≤ (x8_1 : Int) := of_decide_eq_true (by first | (with_reducible assumption) | assumption)
     have q332 : x8_1 < (t329.length : Int) := of_decide_eq_true (by first | (with_reducible assumption) | assumption)
     obtain ⟨ad332, A332_2, c332_2, e332, hx332_0, hx332_1, hx332_2, hl332_2, hi332_2⟩ := at_T35 (Kd.N_reads' HO_7.out).2.2 x8_1 p332 q332
     cases e332
     obtain ⟨ce332, hce332, hMe332, hcc332⟩ := Kd.N_get HO_7.out z35 x8_1 p332 (by first | exact q332 | exact of_decide_eq_true (by first | (with_reducible assumption) | assumption) | (have e_ := (Kd.N_reads' HO_7.out).1; omega))
     obtain ⟨ua332_2, uc332_2, rfl, ul332_2, ge332_2⟩ := k35_openF hMe332
     have hv332_2 := hcc332 2 _ rfl
     rw [add_field _ _ 2 (by omega)] at hv332_2
     replace hv332_2 := Option.some.inj (hv332_2.symm.trans hx332_2)
     injection hv332_2 with hva_ hvn_ hvc_
     rw [hva_] at ge332_2
     rw [hvc_] at ul332_2
     have HL332_2 := A_ (show Kd.V k38 38 _ w.heap.size _ _ ((rd_T35 t329 x8_1).f2) from Kd.V_mk ul332_2 ge332_2)
     clear hva_ hvn_ hvc_ ge332_2 ul332_2; clear hcc332 hce332
     have HR332_2 := A_ hi332_2
     have HC332_2 := A_ hl332_2
     clear hi332_2 hl332_2
     replace p332 := eq_true p332
     replace q332 := eq_true q332
     go_wp2_with (first | ((with_reducible refine gate_callee (f := 29) rfl ?_); refine goesL_ (some 24) rfl rfl Try.func29 (by kernel_rfl) rfl #[.agg #[.int .i64 ((rd_T35 t329 x8_1).f0), .int .i64 ((rd_T35 t329 x8_1).f1), .slice A332_2 ((rd_T35 t329 x8_1).f2).length c332_2]] rfl (by (try simp only [m0_, m1_, m2_]); first | done | rfl) ?_; (with_reducible refine (hopperref12_Line.calls k1 ((rd_T35 t329 x8_1).f0) ((rd_T35 t329 x8_1).f1) _ _ ((rd_T35 t329 x8_1).f2) t333 _ ?side1 ?side2 A7.out).mono ?_); (case side1 => repeat (first | exact (by repeat (first | (with_reducible exact HR332_2.out) | (with_reducible refine ca_ ?_ _) | (with_reducible refine cn_ ?_ _) | (with_reducible refine cd_ ?_) | exact HR332_2.out)) | (with_reducible refine ca_ ?_ _) | (with_reducible refine cn_ ?_ _) | (with_reducible refine cd_ ?_))); (case side2 => exact HC332_2.out); rintro e w10 ⟨v334, rfl, ho0, hb⟩; refine ⟨_, rfl, ?_⟩; replace HO_6 := A_ (Kd.N_elder' (by (with_reducible repeat (first | apply Kd.N_alloc | apply Kd.N_drewN | apply Kd.N_drew)); exact HO_6.out) (Kd.R_base ho0) hb); replace HO_7 := A_ (Kd.N_elder' (by (with_reducible repeat (first | apply Kd.N_alloc | apply Kd.N_drewN | apply Kd.N_drew)); exact HO_7.out) (Kd.R_base ho0) hb); replace HL332_2 := A_ (Kd.V_elder' (by (with_reducible repeat (first | apply Kd.V_alloc | apply Kd.V_drewN | apply Kd.V_drew)); exact HL332_2.out) (Kd.R_base ho0) hb); have HO335 := A_ (Kd.R_lower ho0 (below_size bw_)); replace HR332_2 := A_ (Kd.C_below (by repeat (first | (with_reducible exact HR332_2.out) | (with_reducible refine ca_ ?_ _) | (with_reducible refine cn_ ?_ _) | (with_reducible refine cd_ ?_) | exact HR332_2.out)) hb); replace HB := A_ (below_step bw_ hb); (try clear hb); (try clear hb2); (try clear hk); (try clear hi); (try clear ho0); obtain ⟨Ao12, co12, eo12⟩ := Kd.R_slice HO335.out; subst eo12) | ((with_reducible refine gate_builtin (b := .append) (xs := #[.tmp 19, .tmp 25]) rfl ?_); at_builtin; refine Kd.N_append (Kd.slice 38 k38) (w0 := w) w.heap.size rfl (.tmp 19) (.tmp 25) 60 23 (.slice none 0 0) 24 rfl Try.underlying60 info23 rfl (by decide) (by omega) u6 x6_1 t333 [.slice Ao12 t333.length co12] (fun k_ => some k_ ≠ (.slice (some ad332) t329.length co9 : Value).ownBlock) (fun k_ => ((fun k_ => some k_ ≠ (.slice (some ad332) t329.length co9 : Value).ownBlock)) k_ ∧ some k_ ≠ (u6 : Value).ownBlock) rfl rfl ?aP (fun _ hk => hk) ?aF ?aO ?aB ?aS ?aL ?_; (case aP => exact (Kd.FK_slice_mk (Kd.R_reads' (Kd.R_mono (ok' := (fun k_ => ((fun k_ => some k_ ≠ (.slice (some ad332) t329.length co9 : Value).ownBlock)) k_ ∧ some k_ ≠ (u6 : Value).ownBlock)) (Kd.R_apart' (Kd.R_apart' (HO335.out) (Kd.N_typed HO_7.out) (by decide)) (Kd.N_typed HO_6.out) (by decide)) (fun k_ hk => ⟨hk.1.2, hk.2⟩))).2.1 (Kd.R_F (Kd.R_mono (ok' := (fun k_ => ((fun k_ => some k_ ≠ (.slice (some ad332) t329.length co9 : Value).ownBlock)) k_ ∧ some k_ ≠ (u6 : Value).ownBlock)) (Kd.R_apart' (Kd.R_apart' (HO335.out) (Kd.N_typed HO_7.out) (by decide)) (Kd.N_typed HO_6.out) (by decide)) (fun k_ hk => ⟨hk.1.2, hk.2⟩))))); (case aB => exact bw_); (case aF => exact (fun k_ hk => Kd.fresh' (Kd.N_lt (by (with_reducible repeat (first | apply Kd.N_alloc | apply Kd.N_drewN | apply Kd.N_drew)); exact HO_7.out)) k_ hk)); (case aO => exact (by (with_reducible repeat (first | apply Kd.N_alloc | apply Kd.N_drewN | apply Kd.N_drew)); exact Kd.N_mono HO_6.out (fun _ hk => hk.1))); (case aS => exact (below_size bw_)); (case aL => have := LMc8.out; omega); intro v337 w11 ho hb hg hat; rw [← Ny336.out] at ho; replace HO_7 := A_ (Kd.N_afterv (ok := (fun k_ => some k_ ≠ (.slice Ao12 t333.length co12 : Value).ownBlock)) (by (with_reducible repeat (first | apply Kd.N_alloc | apply Kd.N_drewN | apply Kd.N_drew)); exact Kd.N_mono HO_7.out (fun _ hk => ⟨hk.2, hk.1⟩)) hg hat); replace HL332_2 := A_ (Kd.V_afterv (ok := (fun k_ => some k_ ≠ (.slice (some ad332) t329.length co9 : Value).ownBlock ∧ some k_ ≠ (.slice Ao12 t333.length co12 : Value).ownBlock)) (by (with_reducible repeat (first | apply Kd.V_alloc | apply Kd.V_drewN | apply Kd.V_drew)); exact Kd.V_mono HL332_2.out (fun _ hk => ⟨⟨hk.1.2, hk.2⟩, hk.1.1⟩)) hg hat); replace HB := A_ (hb); have HO338 := A_ (ho); clear HO_6 HO335; clear ho hb hg hat))
     go_roundg k1
     case measure => have := HK1.out; omega
     case rel => exact ⟨(y336), (wrap64 (x8_1 + 1)), (by first | rfl | (simp; done) | (simp [*]; done)), H', ⟨by have := HK1.out; omega⟩, ⟨by (with_reducible repeat (first | apply Kd.N_alloc | apply Kd.N_drewN | apply Kd.N_drew)); exact HO338.out⟩, ⟨by (with_reducible repeat (first | apply Kd.N_alloc | apply Kd.N_drewN | apply Kd.N_drew)); exact Kd.N_mono HO_7.out (fun _ hk => hk.2)⟩, ⟨by repeat (first | (with_reducible first | exact HB.out | apply wa_ | apply wn_ | apply wd_) | exact HB.out)⟩⟩
   · rw [if_neg c5] at H
     have c5b0 : decide (x8_1 < (t329.length : Int)) = false := decide_eq_false c5
     clear c5
     have H' := A_ H
     clear H
     obtain ⟨Ao13, co13, eo13⟩ := Kd.N_slice HO_7.out
     subst eo13
     go_wp2
     go_loopg [1, 5] k1 (fun kq v1 v5 w' => ∃ (x1_2 : Int) (x5_2 : List (S38)) (x6_2 : List (List (S38))), v1 = .int .i64 x1_2 ∧ Aside0 (hopperref12_Template.l1 kq x1_2 x5_2 x6_2 = some r) ∧ Aside0 (kq ≤ k1) ∧ Aside0 (Kd.R k38 38 w' w.heap.size (fun _ => True) v5 x5_2) ∧ Aside0 (Kd.N (Kd.slice 38 k38) 23 w' w.heap.size (fun k_ => some k_ ≠ (v5 : Value).ownBlock) u6 x6_2) ∧ Aside0 (Below w.heap.size w w'))
     case atStart => exact ⟨(a1), (([] : List (S38))), (x6_1), (by first | rfl | (simp; done) | (simp [*]; done)), H', ⟨Nat.le_refl _⟩, ⟨by first | exact Kd.R_nil _ _ _ _ _ | exact Kd.N_nil _ _ _ _ _ | exact Kd.V_nil _ _ _ _ _ | exact Kd.Q_nil _ _ _ _ _ | exact Kd.S_nil _ _ _ _ _⟩, ⟨by (with_reducible repeat (first | apply Kd.N_alloc | apply Kd.N_drewN | apply Kd.N_drew)); exact Kd.N_mono HO_6.out (fun _ hk => (by simp [Value.ownBlock]))⟩, ⟨by repeat (first | (with_reducible first | exact HB.out | apply wa_ | apply wn_ | apply wd_) | exact HB.out)⟩⟩
     case round =>
      clear H'; (try clear c1); (try clear c2); (try clear p2); (try clear c3); (try clear p3); (try clear q3); (try clear hx3); (try clear c5); (try clear c5b0); (try clear c6); (try clear c6b0); (try clear p6); (try clear c8); (try clear hx332_0); (try clear hx332_1); (try clear hx332_2); (try clear p2); (try clear p332); (try clear q332)
      obtain ⟨x1_2, x5_2, x6_2, rfl, HA, HK2, HO_5, HO_6, HB⟩ := hrel
      cases gk with
      | zero => exact absurd HA.out (by simp [hopperref12_Template.l1])
      | succ k2 =>
       have H := HA.out
       clear HA
       simp only [hopperref12_Template.l1] at H
       replace H := Option.bind_eq_some_iff.mp H
       obtain ⟨t339, A140, H⟩ := H
       try dsimp only at H
       have A14 := A_ A140
       clear A140
       have HC15 := A_ H
       clear H
       obtain ⟨Ao16, co16, eo16⟩ := Kd.N_slice HO_6.out
       subst eo16
       go_upto_region 9 with (first | ((with_reducible refine gate_callee (f := 32) rfl ?_); refine goesL_ (some 28) rfl rfl Try.func32 (by kernel_rfl) rfl #[.slice Ao16 x6_2.length co16] rfl (by (try simp only [m0_, m1_, m2_]); first | done | rfl) ?_; (with_reducible refine (hopperref12_best.calls k2 _ _ x6_2 t339 _ ?side1 ?side2 A14.out).mono ?_); (case side1 => repeat (first | exact (Kd.N_reads' HO_6.out).2.2 | (with_reducible refine ca_ ?_ _) | (with_reducible refine cn_ ?_ _) | (with_reducible refine cd_ ?_))); (case side2 => exact (Kd.N_reads' HO_6.out).2.1); rintro e w17 ⟨rfl, hb⟩; refine ⟨_, rfl, ?_⟩; replace HO_5 := A_ (Kd.R_below (pr_ HO_5.out) hb); replace HO_6 := A_ (Kd.N_below (by (with_reducible repeat (first | apply Kd.N_alloc | apply Kd.N_drewN | apply Kd.N_drew)); exact HO_6.out) hb); replace HB := A_ (below_step bw_ hb); (try clear hb); (try clear hb2); (try clear hk); (try clear hi)))
       (try simp only [Act.put, s0_, s1_, s2_])
       go_cut [34] (fun v34 wc => ∃ (kq : Nat) (x34_14 : Bool), v34 = .bool x34_14 ∧ Aside0 (hopperref12_Template.j2 kq x1_2 x5_2 x6_2 t339 x34_14 = some r) ∧ Aside0 (kq ≤ k2) ∧ Aside0 (Kd.R k38 38 wc w.heap.size (fun _ => True) u5 x5_2) ∧ Aside0 (Kd.N (Kd.slice 38 k38) 23 wc w.heap.size (fun k_ => some k_ ≠ (u5 : Value).ownBlock) (.slice Ao16 x6_2.length co16) x6_2) ∧ Aside0 (Below w.heap.size w wc))
       case first =>
        have H := HC15.out
        clear HC15
        by_cases c18 : t339 < 0
        · rw [if_pos c18] at H
          have c18b0 : decide (t339 < 0) = true := decide_eq_true c18
          clear c18
          (first | rw [c18b0] | (simp only [i64_w, i32_w]; rw [c18b0]) | skip)
          have H' := A_ H
          clear H
          go_wp2
          go_meet
          case rel => exact ⟨_, (true), (by first | rfl | (simp; done) | (simp [*]; done)), H', ⟨by have := HK1.out; have := HK2.out; first | omega | exact Nat.le_refl _⟩, ⟨by (with_reducible repeat (first | apply ra_ | apply rn_ | apply rd_)); exact HO_5.out⟩, ⟨by (with_reducible repeat (first | apply Kd.N_alloc | apply Kd.N_drewN | apply Kd.N_drew)); exact HO_6.out⟩, ⟨by repeat (first | (with_reducible first | exact HB.out | apply wa_ | apply wn_ | apply wd_) | exact HB.out)⟩⟩
        · rw [if_neg c18] at H
          have c18b0 : decide (t339 < 0) = false := decide_eq_false c18
          clear c18
          (first | rw [c18b0] | (simp only [i64_w, i32_w]; rw [c18b0]) | skip)
          have H' := A_ H
          clear H
          go_wp2
          go_meet
          case rel => exact ⟨_, (decide (x1_2 < 0)), (by first | rfl | (simp; done) | (simp [*]; done)), H', ⟨by have := HK1.out; have := HK2.out; first | omega | exact Nat.le_refl _⟩, ⟨by (with_reducible repeat (first | apply ra_ | apply rn_ | apply rd_)); exact HO_5.out⟩, ⟨by (with_reducible repeat (first | apply Kd.N_alloc | apply Kd.N_drewN | apply Kd.N_drew)); exact HO_6.out⟩, ⟨by repeat (first | (with_reducible first | exact HB.out | apply wa_ | apply wn_ | apply wd_) | exact HB.out)⟩⟩
       case rest =>
        clear HC15; (try clear c1); (try clear c2); (try clear p2); (try clear c3); (try clear p3); (try clear q3); (try clear hx3); (try clear c5); (try clear c5b0); (try clear c6); (try clear c6b0); (try clear p6); (try clear c8); (try clear c17); (try clear c18); (try clear c18b0); (try clear hx332_0); (try clear hx332_1); (try clear hx332_2); (try clear p2); (try clear p3); (try clear p332); (try clear p6); (try clear q3); (try clear q332)
        obtain ⟨kq, x34_14, rfl, HA, HJ14, HO_5, HO_6, HB⟩ := hcut
        cases kq with
        | zero => exact absurd HA.out (by simp [hopperref12_Template.j2])
        | succ kj14 =>
         have H := HA.out
         clear HA
         simp only [hopperref12_Template.j2] at H
         by_cases c19 : x34_14 = true
         · subst c19
           have H1 : (some x5_2) = some r := by rw [if_pos rfl] at H; exact H
           clear H
           have H := H1
           clear H1
           obtain rfl := Option.some.inj H
           go_wp2
           go_ret
           exact ⟨_, by first | rfl | (simp [errW_none, errW_some] <;> rfl) | (simp [*, errW_none, errW_some] <;> rfl), by (with_reducible repeat (first | apply ra_ | apply rn_ | apply rd_)); exact HO_5.out, by repeat (first | (with_reducible first | exact HB.out | apply wa_ | apply wn_ | apply wd_) | exact HB.out)⟩
         replace c19 := Bool.eq_false_iff.mpr c19
         subst c19
         have H1 : (if 0 ≤ t339 then (if t339 < (x6_2.length : Int) then (if 0 < ((rd_L3 x6_2 t339).length : Int) then (if ((rd_T38 (rd_L3 x6_2 t339) 0).f4) > x1_2 then (hopperref12_Template.l1 kj14 x1_2 x5_2 (x6_2.set (t339 : Int).toNat ([] : List (S38)))) else (if 1 ≤ ((rd_L3 x6_2 t339).length : Int) then (if x5_2.length < 2513169434916 then (hopperref12_Template.l1 kj14 (wrap64 (x1_2 - ((rd_T38 (rd_L3 x6_2 t339) 0).f4))) (x5_2 ++ [(⟨(rd_T38 (rd_L3 x6_2 t339) 0).f0, (rd_T38 (rd_L3 x6_2 t339) 0).f1, (rd_T38 (rd_L3 x6_2 t339) 0).f2, (rd_T38 (rd_L3 x6_2 t339) 0).f3, (rd_T38 (rd_L3 x6_2 t339) 0).f4, (rd_T38 (rd_L3 x6_2 t339) 0).f5⟩ : S38)]) (x6_2.set (t339 : Int).toNat ((rd_L3 x6_2 t339).drop 1))) else (none)) else (none))) else (none)) else (none)) else (none)) = some r := by rw [if_neg (show ¬ (false = true) by decide)] at H; exact H
         clear H
         have H := H1
         clear H1
         by_cases c20 : 0 ≤ t339
         rotate_left
         · rw [if_neg c20] at H
           exact absurd H (by simp)

         rw [if_pos c20] at H
         have c20b0 : decide (0 ≤ t339) = true := decide_eq_true c20
         clear c20
         by_cases c21 : t339 < (x6_2.length : Int)
         rotate_left
         · rw [if_neg c21] at H
           exact absurd H (by simp)
         rw [if_pos c21] at H
         have c21b0 : decide (t339 < (x6_2.length : Int)) = true := decide_eq_true c21
         clear c21
         by_cases c22 : 0 < ((rd_L3 x6_2 t339).length : Int)
         rotate_left
         · rw [if_neg c22] at H
           exact absurd H (by simp)
         rw [if_pos c22] at H
         have c22b0 : decide (0 < ((rd_L3 x6_2 t339).length : Int)) = true := decide_eq_true c22
         have c22b1 : decide (0 < (rd_L3 x6_2 t339).length) = true := decide_eq_true (by omega)
         clear c22
         by_cases c23 : ((rd_T38 (rd_L3 x6_2 t339) 0).f4) > x1_2
         · rw [if_pos c23] at H
           have c23b0 : decide (x1_2 < ((rd_T38 (rd_L3 x6_2 t339) 0).f4)) = true := decide_eq_true c23
           clear c23
           obtain ⟨y343, hy343⟩ : ∃ y_ : List (List (S38)), y_ = (x6_2.set (t339 : Int).toNat ([] : List (S38))) := ⟨_, rfl⟩
           replace H : (hopperref12_Template.l1 kj14 x1_2 x5_2 y343) = some r := by first | (rw [hy343]; with_reducible exact H) | (have H2_ := (Option.bind_some _ _).symm.trans H; rw [hy343]; with_reducible exact H2_) | (have H2_ := (Option.bind_some _ _).symm.trans H; with_reducible exact H2_) | with_reducible exact H | (rw [hy343]; exact H) | exact H
           have Ny343 := A_ hy343
           clear hy343
           have H' := A_ H
           clear H
           have p340 : 0 ≤ (t339 : Int) := of_decide_eq_true (by first | (with_reducible assumption) | assumption)
           have q340 : t339 < (x6_2.length : Int) := of_decide_eq_true (by first | (with_reducible assumption) | assumption)
           obtain ⟨ad340, A340_0, c340_0, e340, hx340_0, hl340_0, hi340_0⟩ := at_L3 (Kd.N_reads' HO_6.out).2.2 t339 p340 q340
           cases e340
           obtain ⟨ce340, hce340, hMe340, hcc340⟩ := Kd.N_get HO_6.out [] t339 p340 (by first | exact q340 | exact of_decide_eq_true (by first | (with_reducible assumption) | assumption) | (have e_ := (Kd.N_reads' HO_6.out).1; omega))
           obtain ⟨ua340_0, uc340_0, rfl, ul340_0, ge340_0⟩ := Kd.FK_slice_open hMe340
           have hv340_0 := hcc340 0 _ rfl
           rw [Nat.add_zero, show ((Kd.slice 38 k38)).sz = 1 from rfl, Nat.mul_one] at hv340_0
           replace hv340_0 := Option.some.inj (hv340_0.symm.trans hx340_0)
           injection hv340_0 with hva_ hvn_ hvc_
           rw [hva_] at ge340_0
           rw [hvc_] at ul340_0
           have HL340_0 := A_ (show Kd.V k38 38 _ w.heap.size _ _ (rd_L3 x6_2 t339) from Kd.V_mk ul340_0 ge340_0)
           clear hva_ hvn_ hvc_ ge340_0 ul340_0; clear hcc340 hce340
           have HR340_0 := A_ hi340_0
           have HC340_0 := A_ hl340_0
           clear hi340_0 hl340_0
           replace p340 := eq_true p340
           replace q340 := eq_true q340
           have p341 : 0 ≤ (0 : Int) := (by omega)
           have q341 : 0 < ((rd_L3 x6_2 t339).length : Int) := of_decide_eq_true (by first | (with_reducible assumption) | assumption)
           obtain ⟨ad341, e341, hx341_0, hx341_1, hx341_2, hx341_3, hx341_4, hx341_5⟩ := at_T38 (by repeat (first | (with_reducible exact HR340_0.out) | (with_reducible refine ca_ ?_ _) | (with_reducible refine cn_ ?_ _) | (with_reducible refine cd_ ?_) | exact HR340_0.out)) 0 p341 q341
           cases e341
           have qi341 : (0 < (rd_L3 x6_2 t339).length) = True := eq_true (by omega)
           (try rw [show ((0 : Int)).toNat = 0 from rfl] at hx341_0)
           (try rw [show 0 * 6 = 0 from rfl] at hx341_0)
           (try rw [Addr.add_zero'] at hx341_0)
           (try rw [show ((0 : Int)).toNat = 0 from rfl] at hx341_1)
           (try rw [show 0 * 6 = 0 from rfl] at hx341_1)
           (try rw [Addr.add_zero'] at hx341_1)
           (try rw [show ((0 : Int)).toNat = 0 from rfl] at hx341_2)
           (try rw [show 0 * 6 = 0 from rfl] at hx341_2)
           (try rw [Addr.add_zero'] at hx341_2)
           (try rw [show ((0 : Int)).toNat = 0 from rfl] at hx341_3)
           (try rw [show 0 * 6 = 0 from rfl] at hx341_3)
           (try rw [Addr.add_zero'] at hx341_3)
           (try rw [show ((0 : Int)).toNat = 0 from rfl] at hx341_4)
           (try rw [show 0 * 6 = 0 from rfl] at hx341_4)
           (try rw [Addr.add_zero'] at hx341_4)
           (try rw [show ((0 : Int)).toNat = 0 from rfl] at hx341_5)
           (try rw [show 0 * 6 = 0 from rfl] at hx341_5)
           (try rw [Addr.add_zero'] at hx341_5)
           replace p341 := eq_true p341
           replace q341 := eq_true q341
           go_wp2_with (first | ((with_reducible refine gate_dst (N := 10) rfl ?_); refine box_event ?hg (N := 10) ?hd (cs := #[.int .i64 0, .int .i64 0, .int .i64 0, .int .i64 0, .int .i64 0, .string (⟨#[]⟩ : ByteArray)]) (t := 38) ?hr ?_; (case hd => rfl); (case hg => rfl); (case hr => first | (go_simp; done) | (go_simp; rfl)); intro gb342 hg w25 hbox hb; have n0_ := A_ (Kd.R_below (Kd.R_elderB (pr_ HO_5.out) gb342 (Nat.le_of_eq hg.symm)) hb); have n1_ := A_ (Kd.N_below (Kd.N_elderB (by (with_reducible repeat (first | apply Kd.N_alloc | apply Kd.N_drewN | apply Kd.N_drew)); exact HO_6.out) gb342 (Nat.le_of_eq hg.symm)) hb); have n2_ := A_ (Kd.V_below (Kd.V_elderB (by (with_reducible repeat (first | apply Kd.V_alloc | apply Kd.V_drewN | apply Kd.V_drew)); exact HL340_0.out) gb342 (Nat.le_of_eq hg.symm)) hb); have n3_ := A_ (Kd.C_below (by repeat (first | (with_reducible exact HR340_0.out) | (with_reducible refine ca_ ?_ _) | (with_reducible refine cn_ ?_ _) | (with_reducible refine cd_ ?_) | exact HR340_0.out)) hb); have n4_ := A_ (below_step bw_ hb); have n5_ := A_ (hbox); have n6_ := A_ (gz_ (w := w) hg); have n7_ := A_ (gz_ (w := w) hg); replace HO_5 := n0_; replace HO_6 := n1_; replace HL340_0 := n2_; replace HR340_0 := n3_; replace HB := n4_; have BK342 := n5_; have GW342 := n6_; have GE342 := n7_; clear n0_ n1_ n2_ n3_ n4_ n5_ n6_ n7_; clear hb hbox hg; have hcz26_0 : w25.cell? ⟨gb342, 0, none⟩ = some (.int .i64 0) := e_ BK342 0; have hcz26_1 : w25.cell? ⟨gb342, 1, none⟩ = some (.int .i64 0) := e_ BK342 1; have hcz26_2 : w25.cell? ⟨gb342, 2, none⟩ = some (.int .i64 0) := e_ BK342 2; have hcz26_3 : w25.cell? ⟨gb342, 3, none⟩ = some (.int .i64 0) := e_ BK342 3; have hcz26_4 : w25.cell? ⟨gb342, 4, none⟩ = some (.int .i64 0) := e_ BK342 4; have hcz26_5 : w25.cell? ⟨gb342, 5, none⟩ = some (.string (⟨#[]⟩ : ByteArray)) := e_ BK342 5; obtain ⟨hfz26_0, hfz26_1, hfz26_2, hfz26_3, hfz26_4, hfz26_5⟩ := z6_ BK342) | ((with_reducible refine gate_store (t := 38) (p := 10) rfl ?_); refine store_event (t := 38) (p := 10) (v := ?vo_w27) (w1 := ((((((w25.setCell ⟨gb342, 0, none⟩ (.int .i64 ((rd_T38 (rd_L3 x6_2 t339) 0).f0))).setCell ⟨gb342, 1, none⟩ (.int .i64 ((rd_T38 (rd_L3 x6_2 t339) 0).f1))).setCell ⟨gb342, 2, none⟩ (.int .i64 ((rd_T38 (rd_L3 x6_2 t339) 0).f2))).setCell ⟨gb342, 3, none⟩ (.int .i64 ((rd_T38 (rd_L3 x6_2 t339) 0).f3))).setCell ⟨gb342, 4, none⟩ (.int .i64 ((rd_T38 (rd_L3 x6_2 t339) 0).f4))).setCell ⟨gb342, 5, none⟩ (.string ((rd_T38 (rd_L3 x6_2 t339) 0).f5)))) ?hg ?ho ?hn ?hr ?_; (case ho => rfl); (case hg => rfl); (case hn => rfl); (case hr => first | (go_simp; done) | (go_simp; rfl)); intro w27 hw; have n0_ : Aside0 (Kd.R k38 38 w27 w.heap.size (fun k_ => k_ ≠ gb342) u5 x5_2) := ⟨(by rw [hw]; exact (by (with_reducible repeat (first | apply ra_ | apply rn_ | apply rd_)); exact Kd.R_mono (f6_ (g := gb342) (Kd.R_mono HO_5.out (fun k_ hk => (⟨hk, hk.2⟩ : _ ∧ k_ ≠ gb342))) (fun _ hk => hk.2) (.int .i64 ((rd_T38 (rd_L3 x6_2 t339) 0).f0)) (.int .i64 ((rd_T38 (rd_L3 x6_2 t339) 0).f1)) (.int .i64 ((rd_T38 (rd_L3 x6_2 t339) 0).f2)) (.int .i64 ((rd_T38 (rd_L3 x6_2 t339) 0).f3)) (.int .i64 ((rd_T38 (rd_L3 x6_2 t339) 0).f4)) (.string ((rd_T38 (rd_L3 x6_2 t339) 0).f5))) (fun _ hk => hk.1.2)))⟩; have n1_ : Aside0 (Kd.N (Kd.slice 38 k38) 23 w27 w.heap.size (fun k_ => some k_ ≠ (u5 : Value).ownBlock ∧ k_ ≠ gb342) (.slice (some ad340) x6_2.length co16) x6_2) := ⟨(by rw [hw]; exact (by (with_reducible repeat (first | apply Kd.N_alloc | apply Kd.N_drewN | apply Kd.N_drew)); exact Kd.N_mono (Kd.N_far (p := ⟨gb342, 5, none⟩) (Kd.N_far (p := ⟨gb342, 4, none⟩) (Kd.N_far (p := ⟨gb342, 3, none⟩) (Kd.N_far (p := ⟨gb342, 2, none⟩) (Kd.N_far (p := ⟨gb342, 1, none⟩) (Kd.N_far (p := ⟨gb342, 0, none⟩) (Kd.N_mono HO_6.out (fun k_ hk => (⟨hk, hk.2⟩ : _ ∧ k_ ≠ gb342))) (fun _ hk => hk.2) (.int .i64 ((rd_T38 (rd_L3 x6_2 t339) 0).f0))) (fun _ hk => hk.2) (.int .i64 ((rd_T38 (rd_L3 x6_2 t339) 0).f1))) (fun _ hk => hk.2) (.int .i64 ((rd_T38 (rd_L3 x6_2 t339) 0).f2))) (fun _ hk => hk.2) (.int .i64 ((rd_T38 (rd_L3 x6_2 t339) 0).f3))) (fun _ hk => hk.2) (.int .i64 ((rd_T38 (rd_L3 x6_2 t339) 0).f4))) (fun _ hk => hk.2) (.string ((rd_T38 (rd_L3 x6_2 t339) 0).f5))) (fun _ hk => ⟨hk.1.1, hk.1.2⟩)))⟩; have n2_ : Aside0 (Kd.V k38 38 w27 w.heap.size (fun k_ => some k_ ≠ (u5 : Value).ownBlock ∧ some k_ ≠ (.slice (some ad340) x6_2.length co16 : Value).ownBlock ∧ k_ ≠ gb342) (.slice (some ad341) (rd_L3 x6_2 t339).length c340_0) (rd_L3 x6_2 t339)) := ⟨(by rw [hw]; exact (by (with_reducible repeat (first | apply Kd.V_alloc | apply Kd.V_drewN | apply Kd.V_drew)); exact Kd.V_mono (Kd.V_far (p := ⟨gb342, 5, none⟩) (Kd.V_far (p := ⟨gb342, 4, none⟩) (Kd.V_far (p := ⟨gb342, 3, none⟩) (Kd.V_far (p := ⟨gb342, 2, none⟩) (Kd.V_far (p := ⟨gb342, 1, none⟩) (Kd.V_far (p := ⟨gb342, 0, none⟩) (Kd.V_mono HL340_0.out (fun k_ hk => (⟨hk, hk.2⟩ : _ ∧ k_ ≠ gb342))) (fun _ hk => hk.2) (.int .i64 ((rd_T38 (rd_L3 x6_2 t339) 0).f0))) (fun _ hk => hk.2) (.int .i64 ((rd_T38 (rd_L3 x6_2 t339) 0).f1))) (fun _ hk => hk.2) (.int .i64 ((rd_T38 (rd_L3 x6_2 t339) 0).f2))) (fun _ hk => hk.2) (.int .i64 ((rd_T38 (rd_L3 x6_2 t339) 0).f3))) (fun _ hk => hk.2) (.int .i64 ((rd_T38 (rd_L3 x6_2 t339) 0).f4))) (fun _ hk => hk.2) (.string ((rd_T38 (rd_L3 x6_2 t339) 0).f5))) (fun _ hk => ⟨hk.1.1.1, ⟨hk.1.1.2, hk.1.2⟩⟩)))⟩; have n3_ : Aside0 (w27.heap[gb342]? = some (.cells #[.int .i64 ((rd_T38 (rd_L3 x6_2 t339) 0).f0), .int .i64 ((rd_T38 (rd_L3 x6_2 t339) 0).f1), .int .i64 ((rd_T38 (rd_L3 x6_2 t339) 0).f2), .int .i64 ((rd_T38 (rd_L3 x6_2 t339) 0).f3), .int .i64 ((rd_T38 (rd_L3 x6_2 t339) 0).f4), .string ((rd_T38 (rd_L3 x6_2 t339) 0).f5)] 38 (0, 0))) := ⟨(by rw [hw]; exact (by exact pk_ (b6_ BK342.out)))⟩; have n4_ : Aside0 (Below w.heap.size w w27) := ⟨(by rw [hw]; exact bw_)⟩; clear hw; replace HO_5 := n0_; replace HO_6 := n1_; replace HL340_0 := n2_; replace BK342 := n3_; replace HB := n4_; clear n0_ n1_ n2_ n3_ n4_; have hcz28_0 : w27.cell? ⟨gb342, 0, none⟩ = some (.int .i64 ((rd_T38 (rd_L3 x6_2 t339) 0).f0)) := e_ BK342 0; have hcz28_1 : w27.cell? ⟨gb342, 1, none⟩ = some (.int .i64 ((rd_T38 (rd_L3 x6_2 t339) 0).f1)) := e_ BK342 1; have hcz28_2 : w27.cell? ⟨gb342, 2, none⟩ = some (.int .i64 ((rd_T38 (rd_L3 x6_2 t339) 0).f2)) := e_ BK342 2; have hcz28_3 : w27.cell? ⟨gb342, 3, none⟩ = some (.int .i64 ((rd_T38 (rd_L3 x6_2 t339) 0).f3)) := e_ BK342 3; have hcz28_4 : w27.cell? ⟨gb342, 4, none⟩ = some (.int .i64 ((rd_T38 (rd_L3 x6_2 t339) 0).f4)) := e_ BK342 4; have hcz28_5 : w27.cell? ⟨gb342, 5, none⟩ = some (.string ((rd_T38 (rd_L3 x6_2 t339) 0).f5)) := e_ BK342 5; obtain ⟨hfz28_0, hfz28_1, hfz28_2, hfz28_3, hfz28_4, hfz28_5⟩ := z6_ BK342; have p24 : 0 ≤ (t339 : Int) := of_decide_eq_true (by first | (with_reducible assumption) | assumption); have q24 : (t339 : Int) < ((x6_2.length : Int) : Int) := of_decide_eq_true (by first | (with_reducible assumption) | assumption); obtain ⟨go24, co24, eo24, gb24, gl24, cl24, HG24⟩ := Kd.N_form HO_6.out (by omega); (first | cases eo24 | (injection eo24 with ea_ en_ ec_; (first | subst ea_ | (injection ea_ with ea_; subst ea_)); subst ec_; clear en_)); have GB24 := A_ gb24; have GG24 := A_ HG24; clear gb24 gl24 HG24; (first | simp only [add_plain] at hx340_0 | skip); obtain ⟨ce24, hcl24, hM24, hcc24, hfr24⟩ := Kd.N_elem HO_6.out [] (t339 : Int) p24 q24; obtain ⟨ua24_0, uc24_0, rfl, ul24_0, ge24_0⟩ := Kd.FK_slice_open hM24; have hx24_0 := hcc24 0 _ rfl; have hf24_0 := hfr24 0; (try simp only [show ((Kd.slice 38 k38)).sz = 1 from rfl, Nat.mul_one, Nat.add_zero] at hx24_0); (try simp only [show ((Kd.slice 38 k38)).sz = 1 from rfl, Nat.mul_one, Nat.add_zero] at hf24_0); clear hcl24 hcc24 hfr24 hM24; replace p24 := eq_true p24; replace q24 := eq_true q24; have HX29 := A_ (show Kd.N (Kd.slice 38 k38) 23 w27 w.heap.size (fun k_ => some k_ ≠ (u5 : Value).ownBlock ∧ k_ ≠ gb342) (.slice (some ⟨go24, 0, none⟩) x6_2.length co16) x6_2 from (by (with_reducible repeat (first | apply Kd.N_alloc | apply Kd.N_drewN | apply Kd.N_drew)); exact HO_6.out)); obtain ⟨ce29, hcl29, hM29, hcc29, hfr29⟩ := Kd.N_elem HX29.out [] (t339 : Int) (of_decide_eq_true (by first | (with_reducible assumption) | assumption)) (by have h_ : (t339 : Int) < ((x6_2.length : Int) : Int) := of_decide_eq_true (by first | (with_reducible assumption) | assumption); first | exact h_ | (have e_ := (Kd.N_reads' HO_6.out).1; omega) | simpa using h_); obtain ⟨ua29_0, uc29_0, rfl, ul29_0, ge29_0⟩ := Kd.FK_slice_open hM29; have HP29 := Kd.N_seg HX29.out (t339 : Int) (of_decide_eq_true (by first | (with_reducible assumption) | assumption)) (by have h_ : (t339 : Int) < ((x6_2.length : Int) : Int) := of_decide_eq_true (by first | (with_reducible assumption) | assumption); first | exact h_ | (have e_ := (Kd.N_reads' HO_6.out).1; omega) | simpa using h_) (seg := [.slice none 0 0]) (j := 0) hcl29 hcc29 (show 1 ≤ 1 from by decide) (x' := ([] : List (S38))) (Kd.FK_slice_mk (Nat.le_refl _) (Kd.F_nil _ _ _)) (fun _ hk => hk); have hx29_0 := hcc29 0 _ rfl; (try simp only [show ((Kd.slice 38 k38)).sz = 1 from rfl, Nat.mul_one, Nat.add_zero] at hx29_0); have hf29_0 := hfr29 0; (try simp only [show ((Kd.slice 38 k38)).sz = 1 from rfl, Nat.mul_one, Nat.add_zero] at hf29_0); clear hcl29 hcc29 hfr29 hM29; (try simp only [show ((Kd.slice 38 k38)).sz = 1 from rfl, Nat.mul_one, Nat.add_zero] at HP29); (try simp only [show ((Kd.slice 38 k38)).sz = 1 from rfl, Nat.mul_one, Nat.add_zero] at HP29)) | ((with_reducible refine gate_store (t := 23) (p := 48) rfl ?_); refine store_event (t := 23) (p := 48) (v := ?vo_w30) (w1 := (w27.setCell ⟨go24, (t339 : Int).toNat, none⟩ (.slice none 0 0))) ?hg ?ho ?hn ?hr ?_; (case ho => rfl); (case hg => rfl); (case hn => rfl); (case hr => first | (go_simp; done) | (go_simp; rfl)); intro w30 hw; have hg : w27.grownBy w30 (some go24) := (by rw [hw]; exact HP29.2); have hp_ : Kd.N (Kd.slice 38 k38) 23 w30 w.heap.size (fun k_ => some k_ ≠ (u5 : Value).ownBlock ∧ k_ ≠ gb342) (.slice (some ⟨go24, 0, none⟩) x6_2.length co16) y343 := (by rw [hw, Ny343.out]; exact HP29.1); clear HP29; have n0_ := A_ (Kd.R_over' (v := (.slice (some ⟨go24, 0, none⟩) x6_2.length co16)) (pr_ HO_5.out) (Kd.N_typed HO_6.out) (by decide) hg); have n1_ := A_ (hp_); have n2_ := A_ (Kd.V_afterv (v := (.slice (some ⟨go24, 0, none⟩) x6_2.length co16)) (v1 := (.slice (some ⟨go24, 0, none⟩) x6_2.length co16)) (ok := (fun k_ => some k_ ≠ (u5 : Value).ownBlock ∧ k_ ≠ gb342)) (by (with_reducible repeat (first | apply Kd.V_alloc | apply Kd.V_drewN | apply Kd.V_drew)); exact Kd.V_mono HL340_0.out (fun _ hk => ⟨⟨hk.1, hk.2.2⟩, hk.2.1⟩)) hg (.inl rfl)); have n3_ := A_ (blk_grown (g := gb342) (o := .cells #[.int .i64 ((rd_T38 (rd_L3 x6_2 t339) 0).f0), .int .i64 ((rd_T38 (rd_L3 x6_2 t339) 0).f1), .int .i64 ((rd_T38 (rd_L3 x6_2 t339) 0).f2), .int .i64 ((rd_T38 (rd_L3 x6_2 t339) 0).f3), .int .i64 ((rd_T38 (rd_L3 x6_2 t339) 0).f4), .string ((rd_T38 (rd_L3 x6_2 t339) 0).f5)] 38 (0, 0)) (by (with_reducible repeat (first | refine bn_ ?_ _ | refine bd_ ?_ | refine ba_ ?_ _)); exact BK342.out) hg (Kd.N_ne HO_6.out BK342.out (by decide))); have n4_ := A_ ((by rw [hw]; exact ws_ (HB.out) GB24.out : Below w.heap.size w w30)); replace HO_5 := n0_; replace HO_6 := n1_; replace HL340_0 := n2_; replace BK342 := n3_; replace HB := n4_; clear n0_ n1_ n2_ n3_ n4_; clear hg hw hp_))
           go_roundg kj14
           case measure => have := HK1.out; have := HK2.out; have := HJ14.out; omega
           case rel => exact ⟨(x1_2), (x5_2), (y343), (by first | rfl | (simp; done) | (simp [*]; done)), H', ⟨by have := HK1.out; have := HK2.out; have := HJ14.out; omega⟩, ⟨by (with_reducible repeat (first | apply ra_ | apply rn_ | apply rd_)); exact Kd.R_mono HO_5.out (fun _ hk => trivial)⟩, ⟨by (with_reducible repeat (first | apply Kd.N_alloc | apply Kd.N_drewN | apply Kd.N_drew)); exact Kd.N_mono HO_6.out (fun _ hk => hk.1)⟩, ⟨by repeat (first | (with_reducible first | exact HB.out | apply wa_ | apply wn_ | apply wd_ | refine ws_ ?_ GE342.out) | exact HB.out)⟩⟩
         · rw [if_neg c23] at H
           have c23b0 : decide (x1_2 < ((rd_T38 (rd_L3 x6_2 t339) 0).f4)) = false := decide_eq_false c23
           clear c23
           by_cases c31 : 1 ≤ ((rd_L3 x6_2 t339).length : Int)
           rotate_left
           · rw [if_neg c31] at H
             exact absurd H (by simp)
           rw [if_pos c31] at H
           have c31b0 := eq_true c31
           have c31b1 : decide (1 ≤ ((rd_L3 x6_2 t339).length : Int)) = true := decide_eq_true c31
           clear c31
           obtain ⟨y345, hy345⟩ : ∃ y_ : List (S38), y_ = ((rd_L3 x6_2 t339).drop 1) := ⟨_, rfl⟩
           replace H : (if x5_2.length < 2513169434916 then (hopperref12_Template.l1 kj14 (wrap64 (x1_2 - ((rd_T38 (rd_L3 x6_2 t339) 0).f4))) (x5_2 ++ [(⟨(rd_T38 (rd_L3 x6_2 t339) 0).f0, (rd_T38 (rd_L3 x6_2 t339) 0).f1, (rd_T38 (rd_L3 x6_2 t339) 0).f2, (rd_T38 (rd_L3 x6_2 t339) 0).f3, (rd_T38 (rd_L3 x6_2 t339) 0).f4, (rd_T38 (rd_L3 x6_2 t339) 0).f5⟩ : S38)]) (x6_2.set (t339 : Int).toNat y345)) else (none)) = some r := by first | (rw [hy345]; with_reducible exact H) | (have H2_ := (Option.bind_some _ _).symm.trans H; rw [hy345]; with_reducible exact H2_) | (have H2_ := (Option.bind_some _ _).symm.trans H; with_reducible exact H2_) | with_reducible exact H | (rw [hy345]; exact H) | exact H
           have Ny345 := A_ hy345
           clear hy345
           obtain ⟨y350, hy350⟩ : ∃ y_ : List (List (S38)), y_ = (x6_2.set (t339 : Int).toNat y345) := ⟨_, rfl⟩
           replace H : (if x5_2.length < 2513169434916 then (hopperref12_Template.l1 kj14 (wrap64 (x1_2 - ((rd_T38 (rd_L3 x6_2 t339) 0).f4))) (x5_2 ++ [(⟨(rd_T38 (rd_L3 x6_2 t339) 0).f0, (rd_T38 (rd_L3 x6_2 t339) 0).f1, (rd_T38 (rd_L3 x6_2 t339) 0).f2, (rd_T38 (rd_L3 x6_2 t339) 0).f3, (rd_T38 (rd_L3 x6_2 t339) 0).f4, (rd_T38 (rd_L3 x6_2 t339) 0).f5⟩ : S38)]) y350) else (none)) = some r := by first | (rw [hy350]; with_reducible exact H) | (have H2_ := (Option.bind_some _ _).symm.trans H; rw [hy350]; with_reducible exact H2_) | (have H2_ := (Option.bind_some _ _).symm.trans H; with_reducible exact H2_) | with_reducible exact H | (rw [hy350]; exact H) | exact H
           have Ny350 := A_ hy350
           clear hy350
           by_cases c33 : x5_2.length < 2513169434916
           rotate_left
           · rw [if_neg c33] at H
             exact absurd H (by simp)
           rw [if_pos c33] at H
           have LMc33 := A_ c33
           clear c33
           obtain ⟨y351, hy351⟩ : ∃ y_ : List (S38), y_ = (x5_2 ++ [(⟨(rd_T38 (rd_L3 x6_2 t339) 0).f0, (rd_T38 (rd_L3 x6_2 t339) 0).f1, (rd_T38 (rd_L3 x6_2 t339) 0).f2, (rd_T38 (rd_L3 x6_2 t339) 0).f3, (rd_T38 (rd_L3 x6_2 t339) 0).f4, (rd_T38 (rd_L3 x6_2 t339) 0).f5⟩ : S38)]) := ⟨_, rfl⟩
           replace H : (hopperref12_Template.l1 kj14 (wrap64 (x1_2 - ((rd_T38 (rd_L3 x6_2 t339) 0).f4))) y351 y350) = some r := by first | (rw [hy351]; with_reducible exact H) | (have H2_ := (Option.bind_some _ _).symm.trans H; rw [hy351]; with_reducible exact H2_) | (have H2_ := (Option.bind_some _ _).symm.trans H; with_reducible exact H2_) | with_reducible exact H | (rw [hy351]; exact H) | exact H
           have Ny351 := A_ hy351
           clear hy351
           have H' := A_ H
           clear H
           have p340 : 0 ≤ (t339 : Int) := of_decide_eq_true (by first | (with_reducible assumption) | assumption)
           have q340 : t339 < (x6_2.length : Int) := of_decide_eq_true (by first | (with_reducible assumption) | assumption)
           obtain ⟨ad340, A340_0, c340_0, e340, hx340_0, hl340_0, hi340_0⟩ := at_L3 (Kd.N_reads' HO_6.out).2.2 t339 p340 q340
           cases e340
           obtain ⟨ce340, hce340, hMe340, hcc340⟩ := Kd.N_get HO_6.out [] t339 p340 (by first | exact q340 | exact of_decide_eq_true (by first | (with_reducible assumption) | assumption) | (have e_ := (Kd.N_reads' HO_6.out).1; omega))
           obtain ⟨ua340_0, uc340_0, rfl, ul340_0, ge340_0⟩ := Kd.FK_slice_open hMe340
           have hv340_0 := hcc340 0 _ rfl
           rw [Nat.add_zero, show ((Kd.slice 38 k38)).sz = 1 from rfl, Nat.mul_one] at hv340_0
           replace hv340_0 := Option.some.inj (hv340_0.symm.trans hx340_0)
           injection hv340_0 with hva_ hvn_ hvc_
           rw [hva_] at ge340_0
           rw [hvc_] at ul340_0
           have HL340_0 := A_ (show Kd.V k38 38 _ w.heap.size _ _ (rd_L3 x6_2 t339) from Kd.V_mk ul340_0 ge340_0)
           clear hva_ hvn_ hvc_ ge340_0 ul340_0; clear hcc340 hce340
           have HR340_0 := A_ hi340_0
           have HC340_0 := A_ hl340_0
           clear hi340_0 hl340_0
           replace p340 := eq_true p340
           replace q340 := eq_true q340
           have p341 : 0 ≤ (0 : Int) := (by omega)
           have q341 : 0 < ((rd_L3 x6_2 t339).length : Int) := of_decide_eq_true (by first | (with_reducible assumption) | assumption)
           obtain ⟨ad341, e341, hx341_0, hx341_1, hx341_2, hx341_3, hx341_4, hx341_5⟩ := at_T38 (by repeat (first | (with_reducible exact HR340_0.out) | (with_reducible refine ca_ ?_ _) | (with_reducible refine cn_ ?_ _) | (with_reducible refine cd_ ?_) | exact HR340_0.out)) 0 p341 q341
           cases e341
           have qi341 : (0 < (rd_L3 x6_2 t339).length) = True := eq_true (by omega)
           (try rw [show ((0 : Int)).toNat = 0 from rfl] at hx341_0)
           (try rw [show 0 * 6 = 0 from rfl] at hx341_0)
           (try rw [Addr.add_zero'] at hx341_0)
           (try rw [show ((0 : Int)).toNat = 0 from rfl] at hx341_1)
           (try rw [show 0 * 6 = 0 from rfl] at hx341_1)
           (try rw [Addr.add_zero'] at hx341_1)
           (try rw [show ((0 : Int)).toNat = 0 from rfl] at hx341_2)
           (try rw [show 0 * 6 = 0 from rfl] at hx341_2)
           (try rw [Addr.add_zero'] at hx341_2)
           (try rw [show ((0 : Int)).toNat = 0 from rfl] at hx341_3)
           (try rw [show 0 * 6 = 0 from rfl] at hx341_3)
           (try rw [Addr.add_zero'] at hx341_3)
           (try rw [show ((0 : Int)).toNat = 0 from rfl] at hx341_4)
           (try rw [show 0 * 6 = 0 from rfl] at hx341_4)
           (try rw [Addr.add_zero'] at hx341_4)
           (try rw [show ((0 : Int)).toNat = 0 from rfl] at hx341_5)
           (try rw [show 0 * 6 = 0 from rfl] at hx341_5)
           (try rw [Addr.add_zero'] at hx341_5)
           replace p341 := eq_true p341
           replace q341 := eq_true q341
           go_wp2_with (first | ((with_reducible refine gate_dst (N := 10) rfl ?_); refine box_event ?hg (N := 10) ?hd (cs := #[.int .i64 0, .int .i64 0, .int .i64 0, .int .i64 0, .int .i64 0, .string (⟨#[]⟩ : ByteArray)]) (t := 38) ?hr ?_; (case hd => rfl); (case hg => rfl); (case hr => first | (go_simp; done) | (go_simp; rfl)); intro gb342 hg w34 hbox hb; have n0_ := A_ (Kd.R_below (Kd.R_elderB (pr_ HO_5.out) gb342 (Nat.le_of_eq hg.symm)) hb); have n1_ := A_ (Kd.N_below (Kd.N_elderB (by (with_reducible repeat (first | apply Kd.N_alloc | apply Kd.N_drewN | apply Kd.N_drew)); exact HO_6.out) gb342 (Nat.le_of_eq hg.symm)) hb); have n2_ := A_ (Kd.V_below (Kd.V_elderB (by (with_reducible repeat (first | apply Kd.V_alloc | apply Kd.V_drewN | apply Kd.V_drew)); exact HL340_0.out) gb342 (Nat.le_of_eq hg.symm)) hb); have n3_ := A_ (Kd.C_below (by repeat (first | (with_reducible exact HR340_0.out) | (with_reducible refine ca_ ?_ _) | (with_reducible refine cn_ ?_ _) | (with_reducible refine cd_ ?_) | exact HR340_0.out)) hb); have n4_ := A_ (below_step bw_ hb); have n5_ := A_ (hbox); have n6_ := A_ (gz_ (w := w) hg); have n7_ := A_ (gz_ (w := w) hg); replace HO_5 := n0_; replace HO_6 := n1_; replace HL340_0 := n2_; replace HR340_0 := n3_; replace HB := n4_; have BK342 := n5_; have GW342 := n6_; have GE342 := n7_; clear n0_ n1_ n2_ n3_ n4_ n5_ n6_ n7_; clear hb hbox hg; have hcz35_0 : w34.cell? ⟨gb342, 0, none⟩ = some (.int .i64 0) := e_ BK342 0; have hcz35_1 : w34.cell? ⟨gb342, 1, none⟩ = some (.int .i64 0) := e_ BK342 1; have hcz35_2 : w34.cell? ⟨gb342, 2, none⟩ = some (.int .i64 0) := e_ BK342 2; have hcz35_3 : w34.cell? ⟨gb342, 3, none⟩ = some (.int .i64 0) := e_ BK342 3; have hcz35_4 : w34.cell? ⟨gb342, 4, none⟩ = some (.int .i64 0) := e_ BK342 4; have hcz35_5 : w34.cell? ⟨gb342, 5, none⟩ = some (.string (⟨#[]⟩ : ByteArray)) := e_ BK342 5; obtain ⟨hfz35_0, hfz35_1, hfz35_2, hfz35_3, hfz35_4, hfz35_5⟩ := z6_ BK342) | ((with_reducible refine gate_store (t := 38) (p := 10) rfl ?_); refine store_event (t := 38) (p := 10) (v := ?vo_w36) (w1 := ((((((w34.setCell ⟨gb342, 0, none⟩ (.int .i64 ((rd_T38 (rd_L3 x6_2 t339) 0).f0))).setCell ⟨gb342, 1, none⟩ (.int .i64 ((rd_T38 (rd_L3 x6_2 t339) 0).f1))).setCell ⟨gb342, 2, none⟩ (.int .i64 ((rd_T38 (rd_L3 x6_2 t339) 0).f2))).setCell ⟨gb342, 3, none⟩ (.int .i64 ((rd_T38 (rd_L3 x6_2 t339) 0).f3))).setCell ⟨gb342, 4, none⟩ (.int .i64 ((rd_T38 (rd_L3 x6_2 t339) 0).f4))).setCell ⟨gb342, 5, none⟩ (.string ((rd_T38 (rd_L3 x6_2 t339) 0).f5)))) ?hg ?ho ?hn ?hr ?_; (case ho => rfl); (case hg => rfl); (case hn => rfl); (case hr => first | (go_simp; done) | (go_simp; rfl)); intro w36 hw; have n0_ : Aside0 (Kd.R k38 38 w36 w.heap.size (fun k_ => k_ ≠ gb342) u5 x5_2) := ⟨(by rw [hw]; exact (by (with_reducible repeat (first | apply ra_ | apply rn_ | apply rd_)); exact Kd.R_mono (f6_ (g := gb342) (Kd.R_mono HO_5.out (fun k_ hk => (⟨hk, hk.2⟩ : _ ∧ k_ ≠ gb342))) (fun _ hk => hk.2) (.int .i64 ((rd_T38 (rd_L3 x6_2 t339) 0).f0)) (.int .i64 ((rd_T38 (rd_L3 x6_2 t339) 0).f1)) (.int .i64 ((rd_T38 (rd_L3 x6_2 t339) 0).f2)) (.int .i64 ((rd_T38 (rd_L3 x6_2 t339) 0).f3)) (.int .i64 ((rd_T38 (rd_L3 x6_2 t339) 0).f4)) (.string ((rd_T38 (rd_L3 x6_2 t339) 0).f5))) (fun _ hk => hk.1.2)))⟩; have n1_ : Aside0 (Kd.N (Kd.slice 38 k38) 23 w36 w.heap.size (fun k_ => some k_ ≠ (u5 : Value).ownBlock ∧ k_ ≠ gb342) (.slice (some ad340) x6_2.length co16) x6_2) := ⟨(by rw [hw]; exact (by (with_reducible repeat (first | apply Kd.N_alloc | apply Kd.N_drewN | apply Kd.N_drew)); exact Kd.N_mono (Kd.N_far (p := ⟨gb342, 5, none⟩) (Kd.N_far (p := ⟨gb342, 4, none⟩) (Kd.N_far (p := ⟨gb342, 3, none⟩) (Kd.N_far (p := ⟨gb342, 2, none⟩) (Kd.N_far (p := ⟨gb342, 1, none⟩) (Kd.N_far (p := ⟨gb342, 0, none⟩) (Kd.N_mono HO_6.out (fun k_ hk => (⟨hk, hk.2⟩ : _ ∧ k_ ≠ gb342))) (fun _ hk => hk.2) (.int .i64 ((rd_T38 (rd_L3 x6_2 t339) 0).f0))) (fun _ hk => hk.2) (.int .i64 ((rd_T38 (rd_L3 x6_2 t339) 0).f1))) (fun _ hk => hk.2) (.int .i64 ((rd_T38 (rd_L3 x6_2 t339) 0).f2))) (fun _ hk => hk.2) (.int .i64 ((rd_T38 (rd_L3 x6_2 t339) 0).f3))) (fun _ hk => hk.2) (.int .i64 ((rd_T38 (rd_L3 x6_2 t339) 0).f4))) (fun _ hk => hk.2) (.string ((rd_T38 (rd_L3 x6_2 t339) 0).f5))) (fun _ hk => ⟨hk.1.1, hk.1.2⟩)))⟩; have n2_ : Aside0 (Kd.V k38 38 w36 w.heap.size (fun k_ => some k_ ≠ (u5 : Value).ownBlock ∧ some k_ ≠ (.slice (some ad340) x6_2.length co16 : Value).ownBlock ∧ k_ ≠ gb342) (.slice (some ad341) (rd_L3 x6_2 t339).length c340_0) (rd_L3 x6_2 t339)) := ⟨(by rw [hw]; exact (by (with_reducible repeat (first | apply Kd.V_alloc | apply Kd.V_drewN | apply Kd.V_drew)); exact Kd.V_mono (Kd.V_far (p := ⟨gb342, 5, none⟩) (Kd.V_far (p := ⟨gb342, 4, none⟩) (Kd.V_far (p := ⟨gb342, 3, none⟩) (Kd.V_far (p := ⟨gb342, 2, none⟩) (Kd.V_far (p := ⟨gb342, 1, none⟩) (Kd.V_far (p := ⟨gb342, 0, none⟩) (Kd.V_mono HL340_0.out (fun k_ hk => (⟨hk, hk.2⟩ : _ ∧ k_ ≠ gb342))) (fun _ hk => hk.2) (.int .i64 ((rd_T38 (rd_L3 x6_2 t339) 0).f0))) (fun _ hk => hk.2) (.int .i64 ((rd_T38 (rd_L3 x6_2 t339) 0).f1))) (fun _ hk => hk.2) (.int .i64 ((rd_T38 (rd_L3 x6_2 t339) 0).f2))) (fun _ hk => hk.2) (.int .i64 ((rd_T38 (rd_L3 x6_2 t339) 0).f3))) (fun _ hk => hk.2) (.int .i64 ((rd_T38 (rd_L3 x6_2 t339) 0).f4))) (fun _ hk => hk.2) (.string ((rd_T38 (rd_L3 x6_2 t339) 0).f5))) (fun _ hk => ⟨hk.1.1.1, ⟨hk.1.1.2, hk.1.2⟩⟩)))⟩; have n3_ : Aside0 (w36.heap[gb342]? = some (.cells #[.int .i64 ((rd_T38 (rd_L3 x6_2 t339) 0).f0), .int .i64 ((rd_T38 (rd_L3 x6_2 t339) 0).f1), .int .i64 ((rd_T38 (rd_L3 x6_2 t339) 0).f2), .int .i64 ((rd_T38 (rd_L3 x6_2 t339) 0).f3), .int .i64 ((rd_T38 (rd_L3 x6_2 t339) 0).f4), .string ((rd_T38 (rd_L3 x6_2 t339) 0).f5)] 38 (0, 0))) := ⟨(by rw [hw]; exact (by exact pk_ (b6_ BK342.out)))⟩; have n4_ : Aside0 (Below w.heap.size w w36) := ⟨(by rw [hw]; exact bw_)⟩; clear hw; replace HO_5 := n0_; replace HO_6 := n1_; replace HL340_0 := n2_; replace BK342 := n3_; replace HB := n4_; clear n0_ n1_ n2_ n3_ n4_; have hcz37_0 : w36.cell? ⟨gb342, 0, none⟩ = some (.int .i64 ((rd_T38 (rd_L3 x6_2 t339) 0).f0)) := e_ BK342 0; have hcz37_1 : w36.cell? ⟨gb342, 1, none⟩ = some (.int .i64 ((rd_T38 (rd_L3 x6_2 t339) 0).f1)) := e_ BK342 1; have hcz37_2 : w36.cell? ⟨gb342, 2, none⟩ = some (.int .i64 ((rd_T38 (rd_L3 x6_2 t339) 0).f2)) := e_ BK342 2; have hcz37_3 : w36.cell? ⟨gb342, 3, none⟩ = some (.int .i64 ((rd_T38 (rd_L3 x6_2 t339) 0).f3)) := e_ BK342 3; have hcz37_4 : w36.cell? ⟨gb342, 4, none⟩ = some (.int .i64 ((rd_T38 (rd_L3 x6_2 t339) 0).f4)) := e_ BK342 4; have hcz37_5 : w36.cell? ⟨gb342, 5, none⟩ = some (.string ((rd_T38 (rd_L3 x6_2 t339) 0).f5)) := e_ BK342 5; obtain ⟨hfz37_0, hfz37_1, hfz37_2, hfz37_3, hfz37_4, hfz37_5⟩ := z6_ BK342; have p344 : 0 ≤ (t339 : Int) := of_decide_eq_true (by first | (with_reducible assumption) | assumption); have q344 : t339 < (x6_2.length : Int) := of_decide_eq_true (by first | (with_reducible assumption) | assumption); obtain ⟨ad344, A344_0, c344_0, e344, hx344_0, hl344_0, hi344_0⟩ := at_L3 (Kd.N_reads' HO_6.out).2.2 t339 p344 q344; obtain rfl : ad340 = ad344 := (by injection e344); obtain ⟨ce344, hce344, hMe344, hcc344⟩ := Kd.N_get HO_6.out [] t339 p344 (by first | exact q344 | exact of_decide_eq_true (by first | (with_reducible assumption) | assumption) | (have e_ := (Kd.N_reads' HO_6.out).1; omega)); obtain ⟨ua344_0, uc344_0, rfl, ul344_0, ge344_0⟩ := Kd.FK_slice_open hMe344; have hv344_0 := hcc344 0 _ rfl; rw [Nat.add_zero, show ((Kd.slice 38 k38)).sz = 1 from rfl, Nat.mul_one] at hv344_0; replace hv344_0 := Option.some.inj (hv344_0.symm.trans hx344_0); injection hv344_0 with hva_ hvn_ hvc_; rw [hva_] at ge344_0; rw [hvc_] at ul344_0; have HL344_0 := A_ (show Kd.V k38 38 _ w.heap.size _ _ (rd_L3 x6_2 t339) from Kd.V_mk ul344_0 ge344_0); clear hva_ hvn_ hvc_ ge344_0 ul344_0; clear hcc344 hce344; have HR344_0 := A_ hi344_0; have HC344_0 := A_ hl344_0; clear hi344_0 hl344_0; replace p344 := eq_true p344; replace q344 := eq_true q344; have q38 : (1 : Int) ≤ (((rd_L3 x6_2 t339).length : Int) : Int) := of_decide_eq_true (by first | (with_reducible assumption) | assumption); obtain ⟨i038, hi038, _, hsz38, _⟩ := info_parts info38; have hroom38 : (rd_L3 x6_2 t339).length ≤ c344_0 := HC344_0.out; have hC38 : Kd.F k38 _ _ A344_0 (rd_L3 x6_2 t339).length (rd_L3 x6_2 t339) := (Kd.V_at (base := w.heap.size) HL344_0.out).2.2; have hcut38 := cut_from (P := Try.prog) 23 38 .i64 Try.underlying23 hi038 6 hsz38 A344_0 (rd_L3 x6_2 t339).length c344_0 1 (by omega) q38; have hr38 := Kd.F_cut (m := (1 : Int).toNat) (c := c344_0) hC38 (by omega) hroom38; obtain ⟨A38, hA38⟩ : ∃ A1, A1 = (if c344_0 = (1 : Int).toNat then A344_0 else (A344_0 : Option Addr).map (·.add ((1 : Int).toNat * 6))) := ⟨_, rfl⟩; obtain ⟨c38, hc38⟩ : ∃ c1, c1 = c344_0 - (1 : Int).toNat := ⟨_, rfl⟩; have hy38 : y345.length = (rd_L3 x6_2 t339).length - (1 : Int).toNat := (by rw [Ny345.out, List.length_drop] <;> omega); rw [show (rd_L3 x6_2 t339).drop (1 : Int).toNat = y345 from Ny345.out.symm] at hr38; replace hr38 : Kd.F k38 _ _ A38 y345.length y345 := (by rw [hA38]; exact hr38); rw [← hy38, ← hA38, ← hc38] at hcut38; have HO349 := A_ (show Kd.V k38 38 _ w.heap.size _ (.slice A38 y345.length c38) y345 from Kd.V_mk (by rw [hy38, hc38]; exact Nat.sub_le_sub_right hroom38 _) hr38); have HC349 := A_ (show y345.length ≤ c38 from by rw [hy38, hc38]; exact Nat.sub_le_sub_right hroom38 _); clear hr38 hC38 hroom38 hi038 hsz38 hc38; have KY38 := A_ hy38; have KA38 := A_ hA38; clear hy38 hA38; replace q38 := eq_true q38; have p32 : 0 ≤ (t339 : Int) := of_decide_eq_true (by first | (with_reducible assumption) | assumption); have q32 : (t339 : Int) < ((x6_2.length : Int) : Int) := of_decide_eq_true (by first | (with_reducible assumption) | assumption); obtain ⟨go32, co32, eo32, gb32, gl32, cl32, HG32⟩ := Kd.N_form HO_6.out (by omega); (first | cases eo32 | (injection eo32 with ea_ en_ ec_; (first | subst ea_ | (injection ea_ with ea_; subst ea_)); subst ec_; clear en_)); have GB32 := A_ gb32; have GG32 := A_ HG32; clear gb32 gl32 HG32; (first | simp only [add_plain] at hx340_0 | skip); (first | simp only [add_plain] at hx344_0 | skip); obtain ⟨ce32, hcl32, hM32, hcc32, hfr32⟩ := Kd.N_elem HO_6.out [] (t339 : Int) p32 q32; obtain ⟨ua32_0, uc32_0, rfl, ul32_0, ge32_0⟩ := Kd.FK_slice_open hM32; have hx32_0 := hcc32 0 _ rfl; have hf32_0 := hfr32 0; (try simp only [show ((Kd.slice 38 k38)).sz = 1 from rfl, Nat.mul_one, Nat.add_zero] at hx32_0); (try simp only [show ((Kd.slice 38 k38)).sz = 1 from rfl, Nat.mul_one, Nat.add_zero] at hf32_0); clear hcl32 hcc32 hfr32 hM32; replace p32 := eq_true p32; replace q32 := eq_true q32; have HX39 := A_ (show Kd.N (Kd.slice 38 k38) 23 w36 w.heap.size (fun k_ => some k_ ≠ (u5 : Value).ownBlock ∧ k_ ≠ gb342) (.slice (some ⟨go32, 0, none⟩) x6_2.length co16) x6_2 from (by (with_reducible repeat (first | apply Kd.N_alloc | apply Kd.N_drewN | apply Kd.N_drew)); exact HO_6.out)); obtain ⟨ce39, hcl39, hM39, hcc39, hfr39⟩ := Kd.N_elem HX39.out [] (t339 : Int) (of_decide_eq_true (by first | (with_reducible assumption) | assumption)) (by have h_ : (t339 : Int) < ((x6_2.length : Int) : Int) := of_decide_eq_true (by first | (with_reducible assumption) | assumption); first | exact h_ | (have e_ := (Kd.N_reads' HO_6.out).1; omega) | simpa using h_); obtain ⟨ua39_0, uc39_0, rfl, ul39_0, ge39_0⟩ := Kd.FK_slice_open hM39; have HP39 := Kd.N_seg HX39.out (t339 : Int) (of_decide_eq_true (by first | (with_reducible assumption) | assumption)) (by have h_ : (t339 : Int) < ((x6_2.length : Int) : Int) := of_decide_eq_true (by first | (with_reducible assumption) | assumption); first | exact h_ | (have e_ := (Kd.N_reads' HO_6.out).1; omega) | simpa using h_) (seg := [.slice A38 y345.length c38]) (j := 0) hcl39 hcc39 (show 1 ≤ 1 from by decide) (x' := y345) (Kd.FK_slice_mk (Kd.V_reads' (Kd.V_mono (ok' := (fun k_ => ((fun k_ => some k_ ≠ (u5 : Value).ownBlock ∧ k_ ≠ gb342)) k_ ∧ k_ ≠ go32)) (HO349.out) (fun k_ hk => ⟨⟨hk.1.1, hk.1.2⟩, fun e_ => (hk.2) (by rw [e_]; rfl)⟩))).2.1 (Kd.V_F (Kd.V_mono (ok' := (fun k_ => ((fun k_ => some k_ ≠ (u5 : Value).ownBlock ∧ k_ ≠ gb342)) k_ ∧ k_ ≠ go32)) (HO349.out) (fun k_ hk => ⟨⟨hk.1.1, hk.1.2⟩, fun e_ => (hk.2) (by rw [e_]; rfl)⟩)))) (fun _ hk => hk); have hx39_0 := hcc39 0 _ rfl; (try simp only [show ((Kd.slice 38 k38)).sz = 1 from rfl, Nat.mul_one, Nat.add_zero] at hx39_0); have hf39_0 := hfr39 0; (try simp only [show ((Kd.slice 38 k38)).sz = 1 from rfl, Nat.mul_one, Nat.add_zero] at hf39_0); clear hcl39 hcc39 hfr39 hM39; (try simp only [show ((Kd.slice 38 k38)).sz = 1 from rfl, Nat.mul_one, Nat.add_zero] at HP39); (try simp only [show ((Kd.slice 38 k38)).sz = 1 from rfl, Nat.mul_one, Nat.add_zero] at HP39)) | ((with_reducible refine gate_store (t := 23) (p := 56) rfl ?_); refine store_event (t := 23) (p := 56) (v := ?vo_w40) (w1 := (w36.setCell ⟨go32, (t339 : Int).toNat, none⟩ (.slice A38 y345.length c38))) ?hg ?ho ?hn ?hr ?_; (case ho => rfl); (case hg => rfl); (case hn => rfl); (case hr => first | (go_simp; done) | (go_simp; rfl)); intro w40 hw; have hg : w36.grownBy w40 (some go32) := (by rw [hw]; exact HP39.2); have hp_ : Kd.N (Kd.slice 38 k38) 23 w40 w.heap.size (fun k_ => some k_ ≠ (u5 : Value).ownBlock ∧ k_ ≠ gb342) (.slice (some ⟨go32, 0, none⟩) x6_2.length co16) y350 := (by rw [hw, Ny350.out]; exact HP39.1); clear HP39; have n0_ := A_ (Kd.R_over' (v := (.slice (some ⟨go32, 0, none⟩) x6_2.length co16)) (pr_ HO_5.out) (Kd.N_typed HO_6.out) (by decide) hg); have n1_ := A_ (hp_); have n2_ := A_ (Kd.V_afterv (v := (.slice (some ⟨go32, 0, none⟩) x6_2.length co16)) (v1 := (.slice (some ⟨go32, 0, none⟩) x6_2.length co16)) (ok := (fun k_ => some k_ ≠ (u5 : Value).ownBlock ∧ k_ ≠ gb342)) (by (with_reducible repeat (first | apply Kd.V_alloc | apply Kd.V_drewN | apply Kd.V_drew)); exact Kd.V_mono HL340_0.out (fun _ hk => ⟨⟨hk.1, hk.2.2⟩, hk.2.1⟩)) hg (.inl rfl)); have n3_ := A_ (blk_grown (g := gb342) (o := .cells #[.int .i64 ((rd_T38 (rd_L3 x6_2 t339) 0).f0), .int .i64 ((rd_T38 (rd_L3 x6_2 t339) 0).f1), .int .i64 ((rd_T38 (rd_L3 x6_2 t339) 0).f2), .int .i64 ((rd_T38 (rd_L3 x6_2 t339) 0).f3), .int .i64 ((rd_T38 (rd_L3 x6_2 t339) 0).f4), .string ((rd_T38 (rd_L3 x6_2 t339) 0).f5)] 38 (0, 0)) (by (with_reducible repeat (first | refine bn_ ?_ _ | refine bd_ ?_ | refine ba_ ?_ _)); exact BK342.out) hg (Kd.N_ne HO_6.out BK342.out (by decide))); have n4_ := A_ (Kd.V_afterv (v := (.slice (some ⟨go32, 0, none⟩) x6_2.length co16)) (v1 := (.slice (some ⟨go32, 0, none⟩) x6_2.length co16)) (ok := (fun k_ => some k_ ≠ (u5 : Value).ownBlock ∧ k_ ≠ gb342)) (by (with_reducible repeat (first | apply Kd.V_alloc | apply Kd.V_drewN | apply Kd.V_drew)); exact HL344_0.out) hg (.inl rfl)); have n5_ := A_ (Kd.V_afterv (v := (.slice (some ⟨go32, 0, none⟩) x6_2.length co16)) (v1 := (.slice (some ⟨go32, 0, none⟩) x6_2.length co16)) (ok := (fun k_ => some k_ ≠ (u5 : Value).ownBlock ∧ k_ ≠ gb342)) (pv_ HO349.out) hg (.inl rfl)); have n6_ := A_ ((by rw [hw]; exact ws_ (HB.out) GB32.out : Below w.heap.size w w40)); replace HO_5 := n0_; replace HO_6 := n1_; replace HL340_0 := n2_; replace BK342 := n3_; replace HL344_0 := n4_; replace HO349 := n5_; replace HB := n6_; clear n0_ n1_ n2_ n3_ n4_ n5_ n6_; clear hg hw hp_; have hcz41_0 : w40.cell? ⟨gb342, 0, none⟩ = some (.int .i64 ((rd_T38 (rd_L3 x6_2 t339) 0).f0)) := e_ BK342 0; have hcz41_1 : w40.cell? ⟨gb342, 1, none⟩ = some (.int .i64 ((rd_T38 (rd_L3 x6_2 t339) 0).f1)) := e_ BK342 1; have hcz41_2 : w40.cell? ⟨gb342, 2, none⟩ = some (.int .i64 ((rd_T38 (rd_L3 x6_2 t339) 0).f2)) := e_ BK342 2; have hcz41_3 : w40.cell? ⟨gb342, 3, none⟩ = some (.int .i64 ((rd_T38 (rd_L3 x6_2 t339) 0).f3)) := e_ BK342 3; have hcz41_4 : w40.cell? ⟨gb342, 4, none⟩ = some (.int .i64 ((rd_T38 (rd_L3 x6_2 t339) 0).f4)) := e_ BK342 4; have hcz41_5 : w40.cell? ⟨gb342, 5, none⟩ = some (.string ((rd_T38 (rd_L3 x6_2 t339) 0).f5)) := e_ BK342 5; obtain ⟨hfz41_0, hfz41_1, hfz41_2, hfz41_3, hfz41_4, hfz41_5⟩ := z6_ BK342) | ((with_reducible refine gate_builtin (b := .append) (xs := #[.tmp 61, .tmp 63]) rfl ?_); at_builtin; refine Kd.R_append k38 (w0 := w) w.heap.size rfl (.tmp 61) (.tmp 63) 23 38 (.agg #[(.int .i64 0), (.int .i64 0), (.int .i64 0), (.int .i64 0), (.int .i64 0), (.string ⟨#[]⟩)]) 56 rfl Try.underlying23 info38 rfl (by decide) (by omega) u5 x5_2 (⟨(rd_T38 (rd_L3 x6_2 t339) 0).f0, (rd_T38 (rd_L3 x6_2 t339) 0).f1, (rd_T38 (rd_L3 x6_2 t339) 0).f2, (rd_T38 (rd_L3 x6_2 t339) 0).f3, (rd_T38 (rd_L3 x6_2 t339) 0).f4, (rd_T38 (rd_L3 x6_2 t339) 0).f5⟩ : S38) [.int .i64 ((rd_T38 (rd_L3 x6_2 t339) 0).f0), .int .i64 ((rd_T38 (rd_L3 x6_2 t339) 0).f1), .int .i64 ((rd_T38 (rd_L3 x6_2 t339) 0).f2), .int .i64 ((rd_T38 (rd_L3 x6_2 t339) 0).f3), .int .i64 ((rd_T38 (rd_L3 x6_2 t339) 0).f4), .string ((rd_T38 (rd_L3 x6_2 t339) 0).f5)] (fun k_ => k_ ≠ gb342) (fun _ => False) rfl rfl ?aP (fun _ hk => hk.elim) ?aF ?aO ?aB ?aS ?aL ?_; (case aP => exact k38_mkM _ _ _ (⟨(rd_T38 (rd_L3 x6_2 t339) 0).f0, (rd_T38 (rd_L3 x6_2 t339) 0).f1, (rd_T38 (rd_L3 x6_2 t339) 0).f2, (rd_T38 (rd_L3 x6_2 t339) 0).f3, (rd_T38 (rd_L3 x6_2 t339) 0).f4, (rd_T38 (rd_L3 x6_2 t339) 0).f5⟩ : S38)); (case aB => exact bw_); (case aF => exact (fun k_ hk => Kd.freshB (g := gb342) (o := .cells #[.int .i64 ((rd_T38 (rd_L3 x6_2 t339) 0).f0), .int .i64 ((rd_T38 (rd_L3 x6_2 t339) 0).f1), .int .i64 ((rd_T38 (rd_L3 x6_2 t339) 0).f2), .int .i64 ((rd_T38 (rd_L3 x6_2 t339) 0).f3), .int .i64 ((rd_T38 (rd_L3 x6_2 t339) 0).f4), .string ((rd_T38 (rd_L3 x6_2 t339) 0).f5)] 38 (0, 0)) (by (with_reducible repeat (first | refine bn_ ?_ _ | refine bd_ ?_ | refine ba_ ?_ _)); exact BK342.out) k_ hk)); (case aO => exact (pr_ HO_5.out)); (case aS => exact (below_size bw_)); (case aL => have := LMc33.out; omega); intro v352 w42 ho hb hg hat; rw [← Ny351.out] at ho; replace HO_6 := A_ (Kd.N_afterv (ok := (fun k_ => k_ ≠ gb342)) (by (with_reducible repeat (first | apply Kd.N_alloc | apply Kd.N_drewN | apply Kd.N_drew)); exact Kd.N_mono HO_6.out (fun _ hk => ⟨hk.2, hk.1⟩)) hg hat); replace HL340_0 := A_ (Kd.V_afterv (ok := (fun k_ => some k_ ≠ (.slice (some ⟨go32, 0, none⟩) x6_2.length co16 : Value).ownBlock ∧ k_ ≠ gb342)) (by (with_reducible repeat (first | apply Kd.V_alloc | apply Kd.V_drewN | apply Kd.V_drew)); exact Kd.V_mono HL340_0.out (fun _ hk => ⟨⟨hk.2, hk.1.2⟩, hk.1.1⟩)) hg hat); replace BK342 := A_ (blk_grown (g := gb342) (o := .cells #[.int .i64 ((rd_T38 (rd_L3 x6_2 t339) 0).f0), .int .i64 ((rd_T38 (rd_L3 x6_2 t339) 0).f1), .int .i64 ((rd_T38 (rd_L3 x6_2 t339) 0).f2), .int .i64 ((rd_T38 (rd_L3 x6_2 t339) 0).f3), .int .i64 ((rd_T38 (rd_L3 x6_2 t339) 0).f4), .string ((rd_T38 (rd_L3 x6_2 t339) 0).f5)] 38 (0, 0)) (by (with_reducible repeat (first | refine bn_ ?_ _ | refine bd_ ?_ | refine ba_ ?_ _)); exact BK342.out) hg (Kd.R_away HO_5.out (fun _ hk => hk))); replace HL344_0 := A_ (Kd.V_afterv (ok := (fun k_ => some k_ ≠ (.slice (some ⟨go32, 0, none⟩) x6_2.length co16 : Value).ownBlock ∧ k_ ≠ gb342)) (by (with_reducible repeat (first | apply Kd.V_alloc | apply Kd.V_drewN | apply Kd.V_drew)); exact Kd.V_mono HL344_0.out (fun _ hk => ⟨⟨hk.2, hk.1.2⟩, hk.1.1⟩)) hg hat); replace HO349 := A_ (Kd.V_afterv (ok := (fun k_ => some k_ ≠ (.slice (some ⟨go32, 0, none⟩) x6_2.length co16 : Value).ownBlock ∧ k_ ≠ gb342)) (by (with_reducible repeat (first | apply Kd.V_alloc | apply Kd.V_drewN | apply Kd.V_drew)); exact Kd.V_mono HO349.out (fun _ hk => ⟨⟨hk.2, hk.1.2⟩, hk.1.1⟩)) hg hat); replace HB := A_ (hb); have HO353 := A_ (ho); clear HO_5; clear ho hb hg hat))
           go_roundg kj14
           case measure => have := HK1.out; have := HK2.out; have := HJ14.out; omega
           case rel => exact ⟨(wrap64 (x1_2 - ((rd_T38 (rd_L3 x6_2 t339) 0).f4))), (y351), (y350), (by first | rfl | (simp; done) | (simp [*]; done)), H', ⟨by have := HK1.out; have := HK2.out; have := HJ14.out; omega⟩, ⟨by (with_reducible repeat (first | apply ra_ | apply rn_ | apply rd_)); exact Kd.R_mono HO353.out (fun _ hk => trivial)⟩, ⟨by (with_reducible repeat (first | apply Kd.N_alloc | apply Kd.N_drewN | apply Kd.N_drew)); exact Kd.N_mono HO_6.out (fun _ hk => hk.2)⟩, ⟨by repeat (first | (with_reducible first | exact HB.out | apply wa_ | apply wn_ | apply wd_ | refine ws_ ?_ GE342.out) | exact HB.out)⟩⟩
/-! ### hopperref12_of: function 35 -/
def hopperref12_of.l0 : Nat → List (S38) → Int → List (S38) → Int → Option ((List (S38)))
 | 0, _, _, _, _ => none
 | k + 1, x0, x1, x5, x6 => if x6 < (x0.length : Int) then (if 0 ≤ x6 then (if ((rd_T38 x0 x6).f0) = x1 then (if x5.length < 2513169434916 then (hopperref12_of.l0 k x0 x1 (x5 ++ [(⟨(rd_T38 x0 x6).f0, (rd_T38 x0 x6).f1, (rd_T38 x0 x6).f2, (rd_T38 x0 x6).f3, (rd_T38 x0 x6).f4, (rd_T38 x0 x6).f5⟩ : S38)]) (wrap64 (x6 + 1))) else (none)) else (hopperref12_of.l0 k x0 x1 x5 (wrap64 (x6 + 1)))) else (none)) else (some x5)
def hopperref12_of.f (k : Nat) (l0 : List (S38)) (a1 : Int) : Option ((List (S38))) := hopperref12_of.l0 k l0 a1 ([] : List (S38)) 0
theorem hopperref12_of.mono_l : ∀ k, (∀ y0 y1 y2 y3, LeO (hopperref12_of.l0 k y0 y1 y2 y3) (hopperref12_of.l0 (k + 1) y0 y1 y2 y3))
 | 0 => fun _ _ _ _ r h => by simp [hopperref12_of.l0] at h
 | k + 1 => by
  have ih0 := hopperref12_of.mono_l k
  · intro y0 y1 y2 y3
    unfold hopperref12_of.l0
    repeat' first
    | (with_reducible exact ih0 _ _ _ _)
    | (with_reducible exact LeO.refl _)
    | (with_reducible exact LeO.none _)
    | (with_reducible refine LeO.ite ?_ ?_)
    | (with_reducible refine LeO.bind ?_ (fun _ => ?_))
    | exact ih0 _ _ _ _
    | exact LeO.none _
    | refine LeO.ite ?_ ?_
    | refine LeO.bind ?_ (fun _ => ?_)
theorem hopperref12_of.mono : ∀ a0 a1 k, LeO (hopperref12_of.f k a0 a1) (hopperref12_of.f (k + 1) a0 a1) := by
 intro a0 a1 k
 have ih0 := hopperref12_of.mono_l k
 unfold hopperref12_of.f
 repeat' first
  | (with_reducible exact ih0 _ _ _ _)
  | (with_reducible exact LeO.refl _)
  | (with_reducible exact LeO.none _)
  | (with_reducible refine LeO.ite ?_ ?_)
  | (with_reducible refine LeO.bind ?_ (fun _ => ?_))
  | exact ih0 _ _ _ _
  | exact LeO.none _
  | refine LeO.ite ?_ ?_
  | refine LeO.bind ?_ (fun _ => ?_)
set_option maxHeartbeats 8000000 in
set_option maxRecDepth 100000 in
theorem hopperref12_of.calls (k : Nat) (A0 : Option Addr) (c0 : Nat) (l0 : List (S38)) (a1 : Int) (r : List (S38)) (w : World) (hr0 : Kd.C k38 w A0 l0.length l0) (hc0 : l0.length ≤ c0) (h : hopperref12_of.f k l0 a1 = some r) :
 Calls Try.prog 35 #[.slice A0 l0.length c0, .int .i64 a1] w fun e w' => ∃ v0_ : Value, e = .returned (v0_) ∧ Kd.R k38 38 w' w.heap.size (fun _ => True) v0_ r ∧ Below w.heap.size w w' := by
 have hu38 := Try.underlying38
 have HR0 := A_ hr0
 have HC0 := A_ hc0
 clear hr0 hc0; have HB := A_ (Below.refl w.heap.size w)
 have H : (hopperref12_of.l0 k l0 a1 ([] : List (S38)) 0) = some r := h
 clear h
 have H' := A_ H
 clear H
 go_enter Try.func35, Try.ntmps35
 go_wp2
 go_loopg [5, 6] k (fun kq v5 v6 w' => ∃ (x5_1 : List (S38)) (x6_1 : Int), v6 = .int .i64 x6_1 ∧ Aside0 (hopperref12_of.l0 kq l0 a1 x5_1 x6_1 = some r) ∧ Aside0 (kq ≤ k) ∧ Aside0 (Kd.R k38 38 w' w.heap.size (fun _ => True) v5 x5_1) ∧ Aside0 (Below w.heap.size w w'))
 case atStart => exact ⟨(([] : List (S38))), (0), (by first | rfl | (simp; done) | (simp [*]; done)), H', ⟨Nat.le_refl _⟩, ⟨by first | exact Kd.R_nil _ _ _ _ _ | exact Kd.N_nil _ _ _ _ _ | exact Kd.V_nil _ _ _ _ _ | exact Kd.Q_nil _ _ _ _ _ | exact Kd.S_nil _ _ _ _ _⟩, ⟨by repeat (first | (with_reducible first | exact HB.out | apply wa_ | apply wn_ | apply wd_) | exact HB.out)⟩⟩
 case round =>
  clear H'; (try clear p2)
  obtain ⟨x5_1, x6_1, rfl, HA, HK1, HO_5, HB⟩ := hrel
  cases gk with
  | zero => exact absurd HA.out (by simp [hopperref12_of.l0])
  | succ k1 =>
   have H := HA.out
   clear HA
   simp only [hopperref12_of.l0] at H
   by_cases c3 : x6_1 < (l0.length : Int)
   rotate_left
   · rw [if_neg c3] at H
     have c3b0 : decide (x6_1 < (l0.length : Int)) = false := decide_eq_false c3
     clear c3
     obtain rfl := Option.some.inj H
     go_wp2
     go_ret
     exact ⟨_, by first | rfl | (simp [errW_none, errW_some] <;> rfl) | (simp [*, errW_none, errW_some] <;> rfl), by (with_reducible repeat (first | apply ra_ | apply rn_ | apply rd_)); exact HO_5.out, by repeat (first | (with_reducible first | exact HB.out | apply wa_ | apply wn_ | apply wd_) | exact HB.out)⟩

   rw [if_pos c3] at H
   have c3b0 : decide (x6_1 < (l0.length : Int)) = true := decide_eq_true c3
   clear c3
   by_cases c4 : 0 ≤ x6_1
   rotate_left
   · rw [if_neg c4] at H
     exact absurd H (by simp)
   rw [if_pos c4] at H
   have c4b0 : decide (0 ≤ x6_1) = true := decide_eq_true c4
   clear c4
   by_cases c5 : ((rd_T38 l0 x6_1).f0) = a1
   · rw [if_pos c5] at H
     have c5b0 : (((rd_T38 l0 x6_1).f0) == a1) = true := beq_iff_eq.mpr c5
     have c5b1 : (((rd_T38 l0 x6_1).f0) != a1) = false := bne_eq_false_iff_eq.mpr c5
     clear c5
     by_cases c6 : x5_1.length < 2513169434916
     rotate_left
     · rw [if_neg c6] at H
       exact absurd H (by simp)
     rw [if_pos c6] at H
     have LMc6 := A_ c6
     clear c6
     obtain ⟨y356, hy356⟩ : ∃ y_ : List (S38), y_ = (x5_1 ++ [(⟨(rd_T38 l0 x6_1).f0, (rd_T38 l0 x6_1).f1, (rd_T38 l0 x6_1).f2, (rd_T38 l0 x6_1).f3, (rd_T38 l0 x6_1).f4, (rd_T38 l0 x6_1).f5⟩ : S38)]) := ⟨_, rfl⟩
     replace H : (hopperref12_of.l0 k1 l0 a1 y356 (wrap64 (x6_1 + 1))) = some r := by first | (rw [hy356]; with_reducible exact H) | (have H2_ := (Option.bind_some _ _).symm.trans H; rw [hy356]; with_reducible exact H2_) | (have H2_ := (Option.bind_some _ _).symm.trans H; with_reducible exact H2_) | with_reducible exact H | (rw [hy356]; exact H) | exact H
     have Ny356 := A_ hy356
     clear hy356
     have H' := A_ H
     clear H
     have p354 : 0 ≤ (x6_1 : Int) := of_decide_eq_true (by first | (with_reducible assumption) | assumption)
     have q354 : x6_1 < (l0.length : Int) := of_decide_eq_true (by first | (with_reducible assumption) | assumption)
     obtain ⟨ad354, e354, hx354_0, hx354_1, hx354_2, hx354_3, hx354_4, hx354_5⟩ := at_T38 HR0.out x6_1 p354 q354
     cases e354
     replace hx354_0 := on_ HB.out hx354_0
     replace hx354_1 := on_ HB.out hx354_1
     replace hx354_2 := on_ HB.out hx354_2
     replace hx354_3 := on_ HB.out hx354_3
     replace hx354_4 := on_ HB.out hx354_4
     replace hx354_5 := on_ HB.out hx354_5
     replace p354 := eq_true p354
     replace q354 := eq_true q354
     have p355 : 0 ≤ (x6_1 : Int) := of_decide_eq_true (by first | (with_reducible assumption) | assumption)
     have q355 : x6_1 < (l0.length : Int) := of_decide_eq_true (by first | (with_reducible assumption) | assumption)
     obtain ⟨ad355, e355, hx355_0, hx355_1, hx355_2, hx355_3, hx355_4, hx355_5⟩ := at_T38 HR0.out x6_1 p355 q355
     obtain rfl : ad354 = ad355 := (by injection e355)
     replace hx355_0 := on_ HB.out hx355_0
     replace hx355_1 := on_ HB.out hx355_1
     replace hx355_2 := on_ HB.out hx355_2
     replace hx355_3 := on_ HB.out hx355_3
     replace hx355_4 := on_ HB.out hx355_4
     replace hx355_5 := on_ HB.out hx355_5
     replace p355 := eq_true p355
     replace q355 := eq_true q355
     go_wp2_with (first | ((with_reducible refine gate_builtin (b := .append) (xs := #[.tmp 20, .tmp 25]) rfl ?_); at_builtin; refine Kd.R_append k38 (w0 := w) w.heap.size rfl (.tmp 20) (.tmp 25) 23 38 (.agg #[(.int .i64 0), (.int .i64 0), (.int .i64 0), (.int .i64 0), (.int .i64 0), (.string ⟨#[]⟩)]) 56 rfl Try.underlying23 info38 rfl (by decide) (by omega) u5 x5_1 (⟨(rd_T38 l0 x6_1).f0, (rd_T38 l0 x6_1).f1, (rd_T38 l0 x6_1).f2, (rd_T38 l0 x6_1).f3, (rd_T38 l0 x6_1).f4, (rd_T38 l0 x6_1).f5⟩ : S38) [.int .i64 ((rd_T38 l0 x6_1).f0), .int .i64 ((rd_T38 l0 x6_1).f1), .int .i64 ((rd_T38 l0 x6_1).f2), .int .i64 ((rd_T38 l0 x6_1).f3), .int .i64 ((rd_T38 l0 x6_1).f4), .string ((rd_T38 l0 x6_1).f5)] (fun _ => True) (fun _ => False) rfl rfl ?aP (fun _ hk => hk.elim) ?aF ?aO ?aB ?aS ?aL ?_; (case aP => exact k38_mkM _ _ _ (⟨(rd_T38 l0 x6_1).f0, (rd_T38 l0 x6_1).f1, (rd_T38 l0 x6_1).f2, (rd_T38 l0 x6_1).f3, (rd_T38 l0 x6_1).f4, (rd_T38 l0 x6_1).f5⟩ : S38)); (case aB => exact bw_); (case aF => exact (fun _ _ => trivial)); (case aO => exact (pr_ HO_5.out)); (case aS => exact (below_size bw_)); (case aL => have := LMc6.out; omega); intro v357 w7 ho hb hg hat; rw [← Ny356.out] at ho; replace HB := A_ (hb); have HO358 := A_ (ho); clear HO_5; clear ho hb hg hat))
     go_roundg k1
     case measure => have := HK1.out; omega
     case rel => exact ⟨(y356), (wrap64 (x6_1 + 1)), (by first | rfl | (simp; done) | (simp [*]; done)), H', ⟨by have := HK1.out; omega⟩, ⟨by (with_reducible repeat (first | apply ra_ | apply rn_ | apply rd_)); exact HO358.out⟩, ⟨by repeat (first | (with_reducible first | exact HB.out | apply wa_ | apply wn_ | apply wd_) | exact HB.out)⟩⟩
   · rw [if_neg c5] at H
     have c5b0 : (((rd_T38 l0 x6_1).f0) == a1) = false := beq_eq_false_iff_ne.mpr c5
     have c5b1 : (((rd_T38 l0 x6_1).f0) != a1) = true := bne_iff_ne.mpr c5
     have H' := A_ H
     clear H
     have p354 : 0 ≤ (x6_1 : Int) := of_decide_eq_true (by first | (with_reducible assumption) | assumption)
     have q354 : x6_1 < (l0.length : Int) := of_decide_eq_true (by first | (with_reducible assumption) | assumption)
     obtain ⟨ad354, e354, hx354_0, hx354_1, hx354_2, hx354_3, hx354_4, hx354_5⟩ := at_T38 HR0.out x6_1 p354 q354
     cases e354
     replace hx354_0 := on_ HB.out hx354_0
     replace hx354_1 := on_ HB.out hx354_1
     replace hx354_2 := on_ HB.out hx354_2
     replace hx354_3 := on_ HB.out hx354_3
     replace hx354_4 := on_ HB.out hx354_4
     replace hx354_5 := on_ HB.out hx354_5
     replace p354 := eq_true p354
     replace q354 := eq_true q354
     go_wp2
     go_roundg k1
     case measure => have := HK1.out; omega
     case rel => exact ⟨(x5_1), (wrap64 (x6_1 + 1)), (by first | rfl | (simp; done) | (simp [*]; done)), H', ⟨by have := HK1.out; omega⟩, ⟨by (with_reducible repeat (first | apply ra_ | apply rn_ | apply rd_)); exact HO_5.out⟩, ⟨by repeat (first | (with_reducible first | exact HB.out | apply wa_ | apply wn_ | apply wd_) | exact HB.out)⟩⟩
end Go.Proofs.Ytahopljippfadaa.D
