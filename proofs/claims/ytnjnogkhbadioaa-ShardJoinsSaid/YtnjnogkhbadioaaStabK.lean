/- The walk of the stable sort at elements of k cells, over any program that bears these bodies: blocks of 20 by insertion, then merges; each key's elements keep their order, and the row rises. -/
import Derived.Test.YtnjnogkhbadioaaSymK
namespace Go.Proofs.Ytnjnogkhbadioaa.SymK
set_option linter.unusedSimpArgs false
set_option linter.unusedVariables false
open Go.Shelf Go.RowKit Go.Lib Go.Sort Go.Proofs Go.Proofs.Ytnjnogkhbadioaa.StableK
variable {P : Program} {α : Type} [Inhabited α] {k : Nat} {key : α → Int}
theorem runs_at {d : Array α} {s t a0 a b n : Nat} (h : Runs key s a0 n d) (ha : a = t * s) (h0 : a0 ≤ a) (hb : b ≤ a + s) (hn : b ≤ n) : Srt key a b d := fun i j h1 h2 h3 => h i j (by omega) h2 (by omega) (by
  rw [div_at (t := t) (by omega) (by omega), div_at (t := t) (by omega) (by omega)])
/-- What is asked of the insertion sort. -/
def Ins (P : Program) (key : α → Int) (enc : α → List Value) (k g : Nat) (cb : Array Value) (blk off cap : Nat) (d0 : Array α) (w0 : World) : Prop := ∀ (a b : Nat) (d : Array α) (w : World), d0.size = d.size → SWK enc k w0 blk off d w → a ≤ b → b ≤ d.size →
  Calls P 59 #[.slice (some ⟨blk, off, none⟩) d.size cap, .int .i64 a, .int .i64 b, .func (.func g) #[] cb] w fun e w' => e = .returned (.tuple #[]) ∧ ∃ d', Step key a b d d' ∧ Srt key a b d' ∧ SWK enc k w0 blk off d' w'
set_option maxHeartbeats 8000000 in
set_option maxRecDepth 1000000 in
theorem stable (L : SF P k) (fst_ : P.funcs[46]? = some Try.f46) (ei : ∀ args w, (callFunc 59 args).run P w = .ok (.enter 59 args) w) (enc : α → List Value) (cf : α → α → Int) (hcf : ∀ x y, cf x y < 0 ↔ key x < key y) (g : Nat) (cb : Array Value) (blk off cap : Nat) (d0 : Array α) (w0 : World)
    (eg : ∀ args w, (callFunc g args).run P w = .ok (.enter g args) w) (hcmp : CmpLays P g cb enc k cf blk off d0.size w0) (R : RowK enc k w0 blk off d0) (hsz : d0.size < 2305843009213693952) (hins : Ins P key enc k g cb blk off cap d0 w0) (d : Array α) (w : World) (hs : d0.size = d.size) (S : SWK enc k w0 blk off d w) :
    Calls P 46 #[.slice (some ⟨blk, off, none⟩) d.size cap, .int .i64 d.size, .func (.func g) #[] cb] w fun e w' => e = .returned (.tuple #[]) ∧ ∃ d', Step key 0 d.size d d' ∧ Srt key 0 d.size d' ∧ SWK enc k w0 blk off d' w' := by
  have mixed := L.mixed; have tn := L.tn; have an := L.an; have zn := L.zn; have vn := L.vn; have ti := L.ti; have ai := L.ai; have zi := L.zi; have vi := L.vi; have tb := L.tb; have ab := L.ab; have zb := L.zb; have vb := L.vb; have ts := L.ts; have as_ := L.as_; have zs := L.zs; have vs := L.vs; have tf := L.tf; have af := L.af; have zf := L.zf; have vf := L.vf; have tu := L.tu; have au := L.au; have zu := L.zu; have vu := L.vu; have aE := L.aE; have zE := L.zE
  have SM : Hid _ := symMerge L enc key cf hcf g cb blk off cap d0 w0 eg hcmp R (by omega)
  have HI : Hid _ := hins
  have e60 : ∀ args w, (callFunc 60 args).run P w = .ok (.enter 60 args) w := enters_of L.fsy (by kernel_rfl) rfl
  have S0 : Aside (SWK enc k w0 blk off d w) := S
  rw [hs] at hsz
  obtain ⟨n, hn⟩ : ∃ n, n = d.size := ⟨_, rfl⟩
  have HN : Hid (n = d.size) := hn
  have HD0 : Hid (d0.size = n) := by rw [hn]; exact hs
  rw [← hn] at hsz ⊢
  have ST0 : Hid (Step key 0 n d d) := Step.refl 0 n d (Nat.zero_le _) (Nat.le_of_eq hn)
  clear S hins hs hn
  go_enter fst_, Try.ntmps46
  go_wp2
  go_loopg [7, 8] n (fun kx s7 s8 wr => ∃ (A B t : Nat) (dk : Array α), s7 = .int .i64 A ∧ s8 = .int .i64 B ∧ Hid (A = t * 20) ∧ B ≤ A + 20 ∧ A + 20 ≤ B ∧ A ≤ n ∧ n - A ≤ kx ∧ Hid (dk.size = n) ∧ Aside (SWK enc k w0 blk off dk wr) ∧ Hid (Step key 0 n d dk) ∧ Hid (Runs key 20 0 A dk))
  case atStart => exact ⟨0, 20, 0, d, rfl, rfl, (show 0 = 0 * 20 from rfl), by omega, by omega, Nat.zero_le _, by omega, HN.out.symm, S0, ST0, Runs.none d 20 0⟩
  case round =>
    clear S0
    obtain ⟨A, B, t, dk, rfl, rfl, HA, hB1, hB2, hAn, hkx, HK, S1, ST, RU⟩ := hrel
    by_cases hle : B ≤ n
    · have hlez : (B : Int) ≤ (n : Int) := by omega
      have hcall := HI.out A B dk wr (HD0.out.trans HK.out.symm) S1 (by omega) (by rw [HK.out]; exact hle)
      rw [HK.out] at hcall
      clear S1
      go_wp2_with (go_at_fn 59; refine hcall.mono ?_; rintro e w1 ⟨rfl, d1, T1, R1, S2⟩)
      go_roundg (n - B)
      case measure => omega
      case rel =>
        have e1 : B = (t + 1) * 20 := by have := HA.out; omega
        have HT1 : Step key (t * 20) B dk d1 := HA.out ▸ T1
        refine ⟨B, B + 20, t + 1, d1, rfl, by first | rfl | go_num, e1, by omega, by omega, hle, Nat.le_refl _, (show _ = _ from T1.1.trans HK.out), S2, ST.out.trans (T1.mono (Nat.zero_le _) hle (by rw [HK.out]; exact Nat.le_refl _)), ?_⟩
        exact Runs.next (t := t) (HA.out ▸ RU.out) (by omega) HT1 (HA.out ▸ R1) (by have := HA.out; omega)
    · have hlez : ¬ (B : Int) ≤ (n : Int) := by omega
      have hcall := HI.out A n dk wr (HD0.out.trans HK.out.symm) S1 hAn (by rw [HK.out]; exact Nat.le_refl _)
      rw [HK.out] at hcall
      clear S1
      go_wp2_with (go_at_fn 59; refine hcall.mono ?_; rintro e w1 ⟨rfl, d1, T1, R1, S2⟩)
      have RU1 : Hid (Runs key 20 0 n d1) := Runs.next (t := t) (HA.out ▸ RU.out) (by omega) (HA.out ▸ T1) (HA.out ▸ R1) (by have := HA.out; omega)
      have ST1 : Hid (Step key 0 n d d1) := ST.out.trans (T1.mono (Nat.zero_le _) (Nat.le_refl _) (by rw [HK.out]; exact Nat.le_refl _))
      have HK1 : Hid (d1.size = n) := T1.1.trans HK.out
      clear T1 R1 RU ST HK hcall hlez hle
      go_loopg [6, 7, 8, 9] n (fun kx s6 _ _ _ wr => ∃ (s : Nat) (dk : Array α), s6 = .int .i64 s ∧ 0 < s ∧ s ≤ n + n + 20 ∧ n - s ≤ kx ∧ Hid (dk.size = n) ∧ Aside (SWK enc k w0 blk off dk wr) ∧ Hid (Step key 0 n d dk) ∧ Hid (Runs key s 0 n dk))
      case atStart => exact ⟨20, d1, rfl, by omega, by omega, by omega, HK1, S2, ST1, RU1⟩
      case round =>
        clear S2 HK1 ST1 RU1
        obtain ⟨s, dk, rfl, hs0, hs2, hkx2, HK, S1, ST, RU⟩ := hrel
        by_cases hlt : s < n
        · have hltz : (s : Int) < (n : Int) := by omega
          go_wp2
          go_loopg [7, 8] n (fun kx s7 s8 wr => ∃ (A B t : Nat) (dj : Array α), s7 = .int .i64 A ∧ s8 = .int .i64 B ∧ Hid (A = t * (2 * s)) ∧ B ≤ A + 2 * s ∧ A + 2 * s ≤ B ∧ A ≤ n ∧ n - A ≤ kx ∧ Hid (dj.size = n) ∧ Aside (SWK enc k w0 blk off dj wr) ∧ Hid (Step key 0 n d dj) ∧ Hid (Runs key (2 * s) 0 A dj) ∧ Hid (Runs key s A n dj))
          case atStart => exact ⟨0, 2 * s, 0, dk, rfl, by first | rfl | go_num, (show 0 = 0 * (2 * s) by rw [Nat.zero_mul]), by omega, by omega, Nat.zero_le _, by omega, HK, S1, ST, Runs.none dk _ 0, RU⟩
          case round =>
            clear S1 HK ST RU
            obtain ⟨A, B, t, dj, rfl, rfl, HA, hB1, hB2, hAn, hkx3, HK, S1, ST, RU, RV⟩ := hrel
            have HT2 : Hid (A = 2 * t * s) := by show _ = _; rw [HA.out, ← Nat.mul_assoc, Nat.mul_comm t 2]
            have HT3 : Hid (A + s = (2 * t + 1) * s) := by show _ = _; rw [HT2.out, Nat.add_mul, Nat.one_mul]
            by_cases hle : B ≤ n
            · have hlez : (B : Int) ≤ (n : Int) := by omega
              have hcall := SM.out (B - A) A (A + s) B dj wr (Nat.le_refl _) (HD0.out.trans HK.out.symm) S1 (by omega) (by omega) (by rw [HK.out]; exact hle) (runs_at RV.out HT2.out (Nat.le_refl _) (Nat.le_refl _) (by omega)) (runs_at RV.out HT3.out (by omega) (by omega) hle)
              rw [HK.out, show ((A + s : Nat) : Int) = (A : Int) + (s : Int) by omega] at hcall
              clear S1
              go_wp2_with (go_at_fn 60; refine hcall.mono ?_; rintro e w1 ⟨rfl, d2, T1, R1, S2⟩)
              go_roundg (n - B)
              case measure => omega
              case rel =>
                have e0 : B = A + 2 * s := by omega
                have e1 : B = (t + 1) * (2 * s) := by rw [e0, HA.out, Nat.add_mul, Nat.one_mul]
                refine ⟨B, B + 2 * s, t + 1, d2, rfl, by first | rfl | go_num, e1, by omega, by omega, hle, Nat.le_refl _, (show _ = _ from T1.1.trans HK.out), S2, ST.out.trans (T1.mono (Nat.zero_le _) hle (by rw [HK.out]; exact Nat.le_refl _)), ?_, RV.out.rest (t := 2 * t + 2) T1 (by omega) (by rw [e0, HT2.out, Nat.add_mul])⟩
                exact Runs.next (t := t) (HA.out ▸ RU.out) (by omega) (HA.out ▸ T1) (HA.out ▸ R1) (by rw [← HA.out]; omega)
            · have hlez : ¬ (B : Int) ≤ (n : Int) := by omega
              by_cases hm : A + s < n
              · have hmz : (A : Int) + (s : Int) < (n : Int) := by omega
                have hcall := SM.out (n - A) A (A + s) n dj wr (Nat.le_refl _) (HD0.out.trans HK.out.symm) S1 (by omega) hm (by rw [HK.out]; exact Nat.le_refl _) (runs_at RV.out HT2.out (Nat.le_refl _) (Nat.le_refl _) (by omega)) (runs_at RV.out HT3.out (by omega) (by omega) (Nat.le_refl _))
                rw [HK.out, show ((A + s : Nat) : Int) = (A : Int) + (s : Int) by omega] at hcall
                clear S1
                go_wp2_with (go_at_fn 60; refine hcall.mono ?_; rintro e w1 ⟨rfl, d2, T1, R1, S2⟩)
                go_roundg (n - 2 * s)
                case measure => omega
                case rel =>
                  refine ⟨2 * s, d2, by first | rfl | go_num | (congr 1; omega), by omega, by omega, Nat.le_refl _, (show _ = _ from T1.1.trans HK.out), S2, ST.out.trans (T1.mono (Nat.zero_le _) (Nat.le_refl _) (by rw [HK.out]; exact Nat.le_refl _)), ?_⟩
                  exact Runs.next (t := t) (HA.out ▸ RU.out) (by omega) (HA.out ▸ T1) (HA.out ▸ R1) (by rw [← HA.out]; omega)
              · have hmz : ¬ (A : Int) + (s : Int) < (n : Int) := by omega
                go_wp2
                go_roundg (n - 2 * s)
                case measure => omega
                case rel =>
                  refine ⟨2 * s, dj, by first | rfl | go_num | (congr 1; omega), by omega, by omega, Nat.le_refl _, HK, S1, ST, ?_⟩
                  exact Runs.next (t := t) (b := n) (HA.out ▸ RU.out) (by omega) (HA.out ▸ Step.refl A n dj hAn (by rw [HK.out]; exact Nat.le_refl _)) (HA.out ▸ runs_at RV.out HT2.out (Nat.le_refl _) (by omega) (Nat.le_refl _)) (by rw [← HA.out]; omega)
        · have hltz : ¬ (s : Int) < (n : Int) := by omega
          go_wp2
          go_end0
          exact ⟨rfl, dk, ST.out, RU.out.whole (by omega), S1⟩
end Go.Proofs.Ytnjnogkhbadioaa.SymK
