/- The walks of the stable sort's parts (an exchange of two ranges, a rotation, the merge of two sorted parts) at elements of k cells, over any program that bears these bodies; each asks that 'cmp' says which key is less. -/
import Derived.Test.YtnjnogkhbadioaaStableK
import Derived.Test.YtnjnogkhbadioaaProg
import Derived.Sort.WalkB2
import Derived.Sort.WalkB12
import Derived.Deep.LoopGhost
import Derived.Deep.Cut
import Derived.Shelf.SlCmpFuncs.BinarySearchFunc
namespace Go.Proofs.Ytnjnogkhbadioaa.SymK
set_option linter.unusedSimpArgs false
set_option linter.unusedVariables false
open Go.Shelf Go.RowKit Go.Lib Go.Sort Go.Proofs Go.Proofs.Ytnjnogkhbadioaa.StableK
/-- What the walks ask of a program. -/
structure SF (P : Program) (k : Nat) : Prop where
  mixed : P.follows .mixedOrders = true
  tn : P.underlying 0 = some (TypeDesc.tuple #[])
  an : ∀ w, (isAgg 0).run P w = .ok false w
  zn : ∀ w, (Go.sizeOf 0).run P w = .ok 1 w
  vn : ∀ w, (zeroValue 0).run P w = .ok (Value.tuple #[]) w
  ti : P.underlying 3 = some (TypeDesc.int IntKind.i64)
  ai : ∀ w, (isAgg 3).run P w = .ok false w
  zi : ∀ w, (Go.sizeOf 3).run P w = .ok 1 w
  vi : ∀ w, (zeroValue 3).run P w = .ok (Value.int IntKind.i64 0) w
  tb : P.underlying 4 = some (TypeDesc.bool)
  ab : ∀ w, (isAgg 4).run P w = .ok false w
  zb : ∀ w, (Go.sizeOf 4).run P w = .ok 1 w
  vb : ∀ w, (zeroValue 4).run P w = .ok (Value.bool false) w
  ts : P.underlying 24 = some (TypeDesc.slice 46)
  as_ : ∀ w, (isAgg 24).run P w = .ok false w
  zs : ∀ w, (Go.sizeOf 24).run P w = .ok 1 w
  vs : ∀ w, (zeroValue 24).run P w = .ok (Value.slice none 0 0) w
  tf : P.underlying 60 = some (TypeDesc.func #[46, 46] #[3] false)
  af : ∀ w, (isAgg 60).run P w = .ok false w
  zf : ∀ w, (Go.sizeOf 60).run P w = .ok 1 w
  vf : ∀ w, (zeroValue 60).run P w = .ok (Value.nilFunc) w
  tu : P.underlying 98 = some (TypeDesc.int IntKind.u64)
  au : ∀ w, (isAgg 98).run P w = .ok false w
  zu : ∀ w, (Go.sizeOf 98).run P w = .ok 1 w
  vu : ∀ w, (zeroValue 98).run P w = .ok (Value.int IntKind.u64 0) w
  aE : ∀ w, (isAgg 46).run P w = .ok true w
  zE : ∀ w, (Go.sizeOf 46).run P w = .ok k w
  fsw : P.funcs[83]? = some Try.f83
  fro : P.funcs[74]? = some Try.f74
  fsy : P.funcs[60]? = some Try.f60
variable {P : Program} {α : Type} {k : Nat}
theorem Sw_zero (Pl X M Y Q : List α) : Sw Pl X M Y Q 0 = Pl ++ (X ++ (M ++ (Y ++ Q))) := by simp [Sw]
theorem Sw_full (Pl X M Y Q : List α) (n : Nat) (hX : X.length = n) (hY : Y.length = n) : Sw Pl X M Y Q n = Pl ++ (Y ++ (M ++ (X ++ Q))) := by
  unfold Sw
  rw [List.take_of_length_le (by omega), List.take_of_length_le (by omega), List.drop_eq_nil_of_le (by omega), List.drop_eq_nil_of_le (by omega)]
  simp
/-- Where the rotation stands. -/
def Ro (Rr : List α) (m i j : Nat) (l : List α) : Prop := ∃ Pl A B Q, l = Pl ++ (A ++ (B ++ Q)) ∧ Pl.length + i = m ∧ A.length = i ∧ B.length = j ∧ Rr = Pl ++ (B ++ (A ++ Q))
theorem Ro.len {Rr l : List α} {m i j : Nat} (h : Ro Rr m i j l) : i ≤ m ∧ m + j ≤ l.length := by
  obtain ⟨Pl, A, B, Q, rfl, h2, h3, h4, _⟩ := h
  simp only [List.length_append]
  omega
theorem Ro.done {Rr l : List α} {m i : Nat} (h : Ro Rr m i i l) : ∃ Pl X Y Q, l = Sw Pl X [] Y Q 0 ∧ Pl.length = m - i ∧ X.length = i ∧ Y.length = i ∧ m = Pl.length + i + ([] : List α).length ∧ ∀ l', l' = Sw Pl X [] Y Q i → l' = Rr := by
  obtain ⟨Pl, A, B, Q, h1, h2, h3, h4, h5⟩ := h
  exact ⟨Pl, A, B, Q, by rw [Sw_zero, h1]; rfl, by omega, h3, h4, by rw [List.length_nil]; omega, fun l' e => by rw [e, Sw_full _ _ _ _ _ _ h3 h4, h5]; rfl⟩
theorem Ro.left {Rr l : List α} {m i j : Nat} (h : Ro Rr m i j l) (hij : j < i) : ∃ Pl X M Y Q, l = Sw Pl X M Y Q 0 ∧ Pl.length = m - i ∧ X.length = j ∧ Y.length = j ∧ m = Pl.length + j + M.length ∧ ∀ l', l' = Sw Pl X M Y Q j → Ro Rr m (i - j) j l' := by
  obtain ⟨Pl, A, B, Q, h1, h2, h3, h4, h5⟩ := h
  have l1 : (A.take j).length = j := by rw [List.length_take]; omega
  have l2 : (A.drop j).length = i - j := by rw [List.length_drop]; omega
  refine ⟨Pl, A.take j, A.drop j, B, Q, ?_, by omega, l1, h4, by omega, fun l' e => ⟨Pl ++ B, A.drop j, A.take j, Q, ?_, by rw [List.length_append]; omega, l2, l1, ?_⟩⟩
  · rw [Sw_zero, h1, ← List.append_assoc (A.take j), List.take_append_drop]
  · rw [e, Sw_full _ _ _ _ _ _ l1 h4]; simp
  · rw [h5, ← List.append_assoc (A.take j), List.take_append_drop]; simp
theorem Ro.right {Rr l : List α} {m i j : Nat} (h : Ro Rr m i j l) (hij : i < j) : ∃ Pl X M Y Q, l = Sw Pl X M Y Q 0 ∧ Pl.length = m - i ∧ X.length = i ∧ Y.length = i ∧ m + j - i = Pl.length + i + M.length ∧ ∀ l', l' = Sw Pl X M Y Q i → Ro Rr m i (j - i) l' := by
  obtain ⟨Pl, A, B, Q, h1, h2, h3, h4, h5⟩ := h
  have l1 : (B.take (j - i)).length = j - i := by rw [List.length_take]; omega
  have l2 : (B.drop (j - i)).length = i := by rw [List.length_drop]; omega
  refine ⟨Pl, A, B.take (j - i), B.drop (j - i), Q, ?_, by omega, h3, l2, by omega, fun l' e => ⟨Pl, B.drop (j - i), B.take (j - i), A ++ Q, ?_, h2, l2, l1, ?_⟩⟩
  · rw [Sw_zero, h1, ← List.append_assoc (B.take (j - i)), List.take_append_drop]
  · rw [e, Sw_full _ _ _ _ _ _ h3 l2]
  · rw [h5, ← List.append_assoc (B.take (j - i)), List.take_append_drop]
variable [Inhabited α]
set_option maxHeartbeats 4000000 in
set_option maxRecDepth 1000000 in
/-- An exchange of two ranges. -/
theorem swapRange (L : SF P k) (enc : α → List Value) (g : Nat) (cb : Array Value) (blk off cap a b n : Nat) (d0 d : Array α) (w0 w : World) (R : RowK enc k w0 blk off d0) (hs : d0.size = d.size) (S : SWK enc k w0 blk off d w) (hsz : d.size < 4611686018427387904)
    (Pl X M Y Q : List α) (hd : d.toList = Sw Pl X M Y Q 0) (hX : X.length = n) (hY : Y.length = n) (ha : a = Pl.length) (hb : b = Pl.length + n + M.length) :
    Calls P 83 #[.slice (some ⟨blk, off, none⟩) d.size cap, .int .i64 a, .int .i64 b, .int .i64 n, .func (.func g) #[] cb] w fun e w' => e = .returned (.tuple #[]) ∧ ∃ d', d'.size = d.size ∧ d'.toList = Sw Pl X M Y Q n ∧ SWK enc k w0 blk off d' w' := by
  have mixed := L.mixed; have tn := L.tn; have an := L.an; have zn := L.zn; have vn := L.vn; have ti := L.ti; have ai := L.ai; have zi := L.zi; have vi := L.vi; have tb := L.tb; have ab := L.ab; have zb := L.zb; have vb := L.vb; have ts := L.ts; have as_ := L.as_; have zs := L.zs; have vs := L.vs; have tf := L.tf; have af := L.af; have zf := L.zf; have vf := L.vf; have tu := L.tu; have au := L.au; have zu := L.zu; have vu := L.vu; have aE := L.aE; have zE := L.zE
  have hlen : a + n ≤ d.size ∧ b + n ≤ d.size := by
    have := congrArg List.length hd
    simp only [Sw, List.length_append, Array.length_toList, List.length_take, List.length_drop] at this
    omega
  have HD : Hid (d.toList = Sw Pl X M Y Q 0) := hd
  have HB : Hid (b = Pl.length + n + M.length ∧ a = Pl.length ∧ X.length = n ∧ Y.length = n) := ⟨hb, ha, hX, hY⟩
  have S0 : Aside (SWK enc k w0 blk off d w) := S
  obtain ⟨hla, hlb⟩ := hlen
  clear S hd ha hb hX hY
  go_enter L.fsw, Try.ntmps83
  go_wp2
  go_loopg [10] n (fun kx s10 wr => ∃ (i : Nat) (dk : Array α), s10 = .int .i64 i ∧ i ≤ n ∧ n - i ≤ kx ∧ dk.size = d.size ∧ Aside (SWK enc k w0 blk off dk wr) ∧ Hid (dk.toList = Sw Pl X M Y Q i))
  case atStart => exact ⟨0, d, rfl, Nat.zero_le _, Nat.le_refl _, rfl, S0, HD⟩
  case round =>
    clear S0 HD
    obtain ⟨i, dk, rfl, hin, hkx, hds, S1, HE⟩ := hrel
    by_cases hlt : i < n
    · have hltz : (i : Int) < (n : Int) := by omega
      go_wp2_with fail
      have ea1 : ((a : Int) + (i : Int)).toNat = a + i := by omega
      have pa1 : (0 : Int) ≤ (a : Int) + (i : Int) := by omega
      have ba1 : (a : Int) + (i : Int) < (d.size : Int) := by omega
      have ra1 : IntKind.i64.wrap ((a : Int) + (i : Int)) = (a : Int) + (i : Int) := by rw [IntKind.wrap_i64]; omega
      have ec1 : ((b : Int) + (i : Int)).toNat = b + i := by omega
      have pc1 : (0 : Int) ≤ (b : Int) + (i : Int) := by omega
      have bc1 : (b : Int) + (i : Int) < (d.size : Int) := by omega
      have rc1 : IntKind.i64.wrap ((b : Int) + (i : Int)) = (b : Int) + (i : Int) := by rw [IntKind.wrap_i64]; omega
      have S2 : Aside (SWK enc k w0 blk off (swp dk (a + i) (b + i)) ((wr.drew.setCells blk (off + (a + i) * k) (enc dk[b + i]!)).setCells blk (off + (b + i) * k) (enc dk[a + i]!))) := S1.out.swapped R (a + i) (b + i) (by omega) (by omega)
      have l1a := S1.out.ld1 R (by omega) P (a + i) (by omega)
      have l1b := S1.out.ld1 R (by omega) P (b + i) (by omega)
      have s1a := S1.out.st1 R (by omega) P (a + i) (by omega) dk[b + i]!
      have s1b := S1.out.st2 R (by omega) P (a + i) (b + i) (by omega) (by omega) dk[b + i]! dk[a + i]!
      have n1a : (enc dk[a + i]!).length = k := R.hk _
      have n1b : (enc dk[b + i]!).length = k := R.hk _
      generalize enc dk[a + i]! = cI1 at S2 l1a s1b n1a
      generalize enc dk[b + i]! = cJ1 at S2 l1b s1a s1b n1b
      clear S1
      go_wp2_with fail
      go_big_region_o
      clear l1a l1b s1a s1b
      generalize (wr.drew.setCells blk (off + (a + i) * k) cJ1).setCells blk (off + (b + i) * k) cI1 = w2 at S2 ⊢
      go_wp2
      go_roundg (n - (i + 1))
      case measure => omega
      case rel =>
        exact ⟨i + 1, swp dk (a + i) (b + i), by first | rfl | go_num, by omega, Nat.le_refl _, by rw [size_swp]; exact hds, S2, Sw.step Pl X M Y Q i n a b dk HE.out HB.out.2.2.1 HB.out.2.2.2 hlt HB.out.2.1 HB.out.1⟩
    · obtain rfl : i = n := by omega
      have hltz : ¬ (i : Int) < (i : Int) := by omega
      go_wp2
      go_end0
      exact ⟨rfl, dk, hds, HE.out, S1.out⟩
set_option maxHeartbeats 4000000 in
set_option maxRecDepth 1000000 in
/-- A rotation. -/
theorem rotate (L : SF P k) (enc : α → List Value) (g : Nat) (cb : Array Value) (blk off cap a m b : Nat) (d0 d : Array α) (w0 w : World) (R : RowK enc k w0 blk off d0) (hs : d0.size = d.size) (S : SWK enc k w0 blk off d w) (hsz : d.size < 4611686018427387904) (ham : a < m) (hmb : m < b) (hb : b ≤ d.size) :
    Calls P 74 #[.slice (some ⟨blk, off, none⟩) d.size cap, .int .i64 a, .int .i64 m, .int .i64 b, .func (.func g) #[] cb] w fun e w' => e = .returned (.tuple #[]) ∧ ∃ d', Rot d d' a m b ∧ SWK enc k w0 blk off d' w' := by
  have mixed := L.mixed; have tn := L.tn; have an := L.an; have zn := L.zn; have vn := L.vn; have ti := L.ti; have ai := L.ai; have zi := L.zi; have vi := L.vi; have tb := L.tb; have ab := L.ab; have zb := L.zb; have vb := L.vb; have ts := L.ts; have as_ := L.as_; have zs := L.zs; have vs := L.vs; have tf := L.tf; have af := L.af; have zf := L.zf; have vf := L.vf; have tu := L.tu; have au := L.au; have zu := L.zu; have vu := L.vu; have aE := L.aE; have zE := L.zE
  obtain ⟨Rr, hRr⟩ : ∃ Rr, Ro Rr m (m - a) (b - m) d.toList ∧ ∀ d' : Array α, d'.toList = Rr → Rot d d' a m b := by
    obtain ⟨P1, C1, Q1, e1, e2, e3⟩ := cut3 d a b (by omega) hb
    have l1 : (C1.take (m - a)).length = m - a := by rw [List.length_take]; omega
    have l2 : (C1.drop (m - a)).length = b - m := by rw [List.length_drop]; omega
    have e4 : d.toList = P1 ++ (C1.take (m - a) ++ (C1.drop (m - a) ++ Q1)) := by rw [e1, ← List.append_assoc (C1.take (m - a)), List.take_append_drop]
    exact ⟨P1 ++ (C1.drop (m - a) ++ (C1.take (m - a) ++ Q1)), ⟨P1, _, _, Q1, e4, by omega, l1, l2, rfl⟩, fun d' h => ⟨P1, _, _, Q1, e4, h, e2, by omega, by omega⟩⟩
  have e83 : ∀ args w, (callFunc 83 args).run P w = .ok (.enter 83 args) w := enters_of L.fsw (by kernel_rfl) rfl
  have HR : Hid (∀ d' : Array α, d'.toList = Rr → Rot d d' a m b) := hRr.2
  have H0 : Hid (Ro Rr m (m - a) (b - m) d.toList) := hRr.1
  have S0 : Aside (SWK enc k w0 blk off d w) := S
  have eia : ((m : Int) - (a : Int)) = ((m - a : Nat) : Int) := by omega
  have eib : ((b : Int) - (m : Int)) = ((b - m : Nat) : Int) := by omega
  clear S hRr
  go_enter L.fro, Try.ntmps74
  go_wp2
  go_loopg [10, 11] (b - a) (fun kx s10 s11 wr => ∃ (i j : Nat) (dk : Array α), s10 = .int .i64 i ∧ s11 = .int .i64 j ∧ 0 < i ∧ 0 < j ∧ i + j ≤ kx ∧ i + j ≤ b - a ∧ dk.size = d.size ∧ Aside (SWK enc k w0 blk off dk wr) ∧ Hid (Ro Rr m i j dk.toList))
  case atStart => exact ⟨m - a, b - m, d, by first | rfl | rw [eia], by first | rfl | rw [eib], by omega, by omega, by omega, by omega, rfl, S0, H0⟩
  case round =>
    clear S0 H0 eia eib
    obtain ⟨i, j, dk, rfl, rfl, hi0, hj0, hkx, hij0, hds, S1, HE⟩ := hrel
    have hlen := HE.out.len
    rw [Array.length_toList, hds] at hlen
    rcases Nat.lt_trichotomy i j with hij | hij | hij
    · have hne : ((i : Int) != (j : Int)) = true := bne_iff_ne.2 (by omega)
      have hgt : ¬ (i : Int) > (j : Int) := by omega
      obtain ⟨Pl, X, M, Y, Q, q1, q2, q3, q4, q5, q6⟩ := HE.out.right hij
      have hcall := swapRange L enc g cb blk off cap (m - i) (m + j - i) i d0 dk w0 wr R (by omega) S1.out (by omega) Pl X M Y Q q1 q3 q4 q2.symm q5
      rw [hds, show ((m - i : Nat) : Int) = (m : Int) - (i : Int) by omega, show ((m + j - i : Nat) : Int) = (m : Int) + (j : Int) - (i : Int) by omega] at hcall
      have Q6 : Hid (∀ l', l' = Sw Pl X M Y Q i → Ro Rr m i (j - i) l') := q6
      clear S1 q1 q2 q3 q4 q5 q6
      go_wp2_with (go_at_fn 83; refine hcall.mono ?_; rintro e w1 ⟨rfl, dn, hdn, hln, S3⟩)
      go_roundg j
      case measure => omega
      case rel => exact ⟨i, j - i, dn, rfl, by first | rfl | (rw [show ((j - i : Nat) : Int) = (j : Int) - (i : Int) by omega]), hi0, by omega, by omega, by omega, by omega, S3, Q6.out _ hln⟩
    · subst hij
      have hne : ((i : Int) != (i : Int)) = false := by simp
      obtain ⟨Pl, X, Y, Q, q1, q2, q3, q4, q5, q6⟩ := HE.out.done
      have hcall := swapRange L enc g cb blk off cap (m - i) m i d0 dk w0 wr R (by omega) S1.out (by omega) Pl X [] Y Q q1 q3 q4 q2.symm q5
      rw [hds, show ((m - i : Nat) : Int) = (m : Int) - (i : Int) by omega] at hcall
      have Q6 : Hid (∀ l', l' = Sw Pl X [] Y Q i → l' = Rr) := q6
      clear S1 q1 q2 q3 q4 q5 q6
      go_wp2_with (go_at_fn 83; refine hcall.mono ?_; rintro e w1 ⟨rfl, dn, hdn, hln, S3⟩)
      go_end0
      exact ⟨rfl, dn, HR.out dn (Q6.out _ hln), S3⟩
    · have hne : ((i : Int) != (j : Int)) = true := bne_iff_ne.2 (by omega)
      have hgt : (i : Int) > (j : Int) := by omega
      obtain ⟨Pl, X, M, Y, Q, q1, q2, q3, q4, q5, q6⟩ := HE.out.left hij
      have hcall := swapRange L enc g cb blk off cap (m - i) m j d0 dk w0 wr R (by omega) S1.out (by omega) Pl X M Y Q q1 q3 q4 q2.symm q5
      rw [hds, show ((m - i : Nat) : Int) = (m : Int) - (i : Int) by omega] at hcall
      have Q6 : Hid (∀ l', l' = Sw Pl X M Y Q j → Ro Rr m (i - j) j l') := q6
      clear S1 q1 q2 q3 q4 q5 q6
      go_wp2_with (go_at_fn 83; refine hcall.mono ?_; rintro e w1 ⟨rfl, dn, hdn, hln, S3⟩)
      go_roundg i
      case measure => omega
      case rel => exact ⟨i - j, j, dn, by first | rfl | (rw [show ((i - j : Nat) : Int) = (i : Int) - (j : Int) by omega]), rfl, by omega, hj0, by omega, by omega, by omega, S3, Q6.out _ hln⟩
set_option maxHeartbeats 8000000 in
set_option maxRecDepth 1000000 in
/-- The merge of two sorted parts. -/
theorem symMerge (L : SF P k) (enc : α → List Value) (key : α → Int) (cf : α → α → Int) (hcf : ∀ x y, cf x y < 0 ↔ key x < key y) (g : Nat) (cb : Array Value) (blk off cap : Nat) (d0 : Array α) (w0 : World)
    (eg : ∀ args w, (callFunc g args).run P w = .ok (.enter g args) w) (hcmp : CmpLays P g cb enc k cf blk off d0.size w0) (R : RowK enc k w0 blk off d0) (hsz : d0.size < 4611686018427387904) : ∀ (N a m b : Nat) (d : Array α) (w : World), b - a ≤ N → d0.size = d.size → SWK enc k w0 blk off d w → a < m → m < b → b ≤ d.size → Srt key a m d → Srt key m b d →
    Calls P 60 #[.slice (some ⟨blk, off, none⟩) d.size cap, .int .i64 a, .int .i64 m, .int .i64 b, .func (.func g) #[] cb] w fun e w' => e = .returned (.tuple #[]) ∧ ∃ d', Step key a b d d' ∧ Srt key a b d' ∧ SWK enc k w0 blk off d' w' := by
  have mixed := L.mixed; have tn := L.tn; have an := L.an; have zn := L.zn; have vn := L.vn; have ti := L.ti; have ai := L.ai; have zi := L.zi; have vi := L.vi; have tb := L.tb; have ab := L.ab; have zb := L.zb; have vb := L.vb; have ts := L.ts; have as_ := L.as_; have zs := L.zs; have vs := L.vs; have tf := L.tf; have af := L.af; have zf := L.zf; have vf := L.vf; have tu := L.tu; have au := L.au; have zu := L.zu; have vu := L.vu; have aE := L.aE; have zE := L.zE
  have HC : Aside _ := hcmp
  have HK : Hid (∀ x y, cf x y < 0 ↔ key x < key y) := hcf
  have e74 : ∀ args w, (callFunc 74 args).run P w = .ok (.enter 74 args) w := enters_of L.fro (by kernel_rfl) rfl
  have e60 : ∀ args w, (callFunc 60 args).run P w = .ok (.enter 60 args) w := enters_of L.fsy (by kernel_rfl) rfl
  clear hcmp hcf
  intro N
  induction N with
  | zero => intro a m b d w hN; omega
  | succ N ih =>
  intro a m b d w hN hs S ham hmb hbd hsa hsb
  have IH : Hid _ := ih
  have S0 : Aside (SWK enc k w0 blk off d w) := S
  have HA : Hid (Srt key a m d) := hsa
  have HB : Hid (Srt key m b d) := hsb
  rw [hs] at hsz
  clear ih S hsa hsb
  by_cases c1 : m = a + 1
  · have hc1 : (((m : Int) - (a : Int)) == 1) = true := beq_iff_eq.2 (by omega)
    have CC : Hid _ := c1
    clear c1
    go_enter L.fsy, Try.ntmps60
    go_wp2
    go_loopg [10, 11, 12] b (fun kx s10 s11 _ wr => ∃ (i j : Nat), s10 = .int .i64 i ∧ s11 = .int .i64 j ∧ m ≤ i ∧ i ≤ j ∧ j ≤ b ∧ j - i ≤ kx ∧ Aside (SWK enc k w0 blk off d wr) ∧ Hid ((∀ h, m ≤ h → h < i → key d[h]! < key d[a]!) ∧ (∀ h, j ≤ h → h < b → key d[a]! ≤ key d[h]!)))
    case atStart => exact ⟨m, b, rfl, rfl, Nat.le_refl _, by omega, Nat.le_refl _, by omega, S0, (⟨fun h h1 h2 => by omega, fun h h1 h2 => by omega⟩ : (∀ h, m ≤ h → h < m → key d[h]! < key d[a]!) ∧ (∀ h, b ≤ h → h < b → key d[a]! ≤ key d[h]!))⟩
    case round =>
      clear S0
      obtain ⟨i, j, rfl, rfl, hmi, hij, hjb, hkx, S1, I⟩ := hrel
      by_cases hlt : i < j
      · have hltz : (i : Int) < (j : Int) := by omega
        go_upto_region 5 with (fail)
        obtain ⟨h, hh⟩ : ∃ h, h = (i + j) / 2 := ⟨_, rfl⟩
        have hh1 : i ≤ h := by omega
        have hh2 : h < j := by omega
        rw [show ((i : Int) + (j : Int)) / 2 = ((h : Nat) : Int) by omega]
        clear hh
        by_cases hL : cf d[h]! d[a]! < 0
        · have HL : Hid (key d[h]! < key d[a]!) := (HK.out _ _).1 hL
          have ea1 : ((h : Int)).toNat = h := by omega
          have pa1 : (0 : Int) ≤ (h : Int) := by omega
          have ba1 : (h : Int) < (d.size : Int) := by omega
          have ra1 : IntKind.i64.wrap ((h : Int)) = (h : Int) := by rw [IntKind.wrap_i64]; omega
          have ec1 : ((a : Int)).toNat = a := by omega
          have pc1 : (0 : Int) ≤ (a : Int) := by omega
          have bc1 : (a : Int) < (d.size : Int) := by omega
          have rc1 : IntKind.i64.wrap ((a : Int)) = (a : Int) := by rw [IntKind.wrap_i64]; omega
          obtain ⟨x1, hx1⟩ : ∃ x, x = d[h]! := ⟨_, rfl⟩
          obtain ⟨y1, hy1⟩ : ∃ x, x = d[a]! := ⟨_, rfl⟩
          have l1a := S1.out.ld R (by omega) P (h) (by omega)
          have l1b := S1.out.ld R (by omega) P (a) (by omega)
          rw [← hx1] at l1a
          rw [← hy1] at l1b
          have hc1 := S1.out.cmp HC.out (by omega) x1 y1
          have hv1 : cf x1 y1 < 0 := by rw [hx1, hy1]; exact hL
          have hd1 : decide (cf x1 y1 < 0) = true := decide_eq_true hv1
          clear hx1 hy1
          go_wp2_with fail
          go_quiet_grown (first | (go_at_fn g; refine Calls.grown_of (hc1 _ _)))
          have S2 : Aside (SWK enc k w0 blk off d (grow (wr.drewN nq) osq)) := S1.out.grown nq osq
          clear l1a l1b hc1 S1
          generalize grow (wr.drewN nq) osq = w2 at S2 ⊢
          clear nq osq
          go_wp2
          go_roundg (j - (h + 1))
          case measure => omega
          case rel =>
            refine ⟨h + 1, j, by first | rfl | go_num, rfl, by omega, by omega, hjb, Nat.le_refl _, S2, (⟨fun t h1 h2 => ?_, I.out.2⟩ : (∀ t, m ≤ t → t < h + 1 → key d[t]! < key d[a]!) ∧ (∀ t, j ≤ t → t < b → key d[a]! ≤ key d[t]!))⟩
            by_cases e : t = h
            · rw [e]; exact HL.out
            · exact Int.lt_of_le_of_lt (HB.out t h h1 (by omega) (by omega)) HL.out
        · have HL : Hid (key d[a]! ≤ key d[h]!) := Int.not_lt.1 fun q => hL ((HK.out _ _).2 q)
          have ea2 : ((h : Int)).toNat = h := by omega
          have pa2 : (0 : Int) ≤ (h : Int) := by omega
          have ba2 : (h : Int) < (d.size : Int) := by omega
          have ra2 : IntKind.i64.wrap ((h : Int)) = (h : Int) := by rw [IntKind.wrap_i64]; omega
          have ec2 : ((a : Int)).toNat = a := by omega
          have pc2 : (0 : Int) ≤ (a : Int) := by omega
          have bc2 : (a : Int) < (d.size : Int) := by omega
          have rc2 : IntKind.i64.wrap ((a : Int)) = (a : Int) := by rw [IntKind.wrap_i64]; omega
          obtain ⟨x2, hx2⟩ : ∃ x, x = d[h]! := ⟨_, rfl⟩
          obtain ⟨y2, hy2⟩ : ∃ x, x = d[a]! := ⟨_, rfl⟩
          have l2a := S1.out.ld R (by omega) P (h) (by omega)
          have l2b := S1.out.ld R (by omega) P (a) (by omega)
          rw [← hx2] at l2a
          rw [← hy2] at l2b
          have hc2 := S1.out.cmp HC.out (by omega) x2 y2
          have hv2 : ¬ cf x2 y2 < 0 := by rw [hx2, hy2]; exact hL
          have hd2 : decide (cf x2 y2 < 0) = false := decide_eq_false hv2
          clear hx2 hy2
          go_wp2_with fail
          go_quiet_grown (first | (go_at_fn g; refine Calls.grown_of (hc2 _ _)))
          have S2 : Aside (SWK enc k w0 blk off d (grow (wr.drewN nq) osq)) := S1.out.grown nq osq
          clear l2a l2b hc2 S1
          generalize grow (wr.drewN nq) osq = w2 at S2 ⊢
          clear nq osq
          go_wp2
          go_roundg (h - i)
          case measure => omega
          case rel =>
            refine ⟨i, h, rfl, rfl, hmi, by omega, by omega, Nat.le_refl _, S2, (⟨I.out.1, fun t h1 h2 => ?_⟩ : (∀ t, m ≤ t → t < i → key d[t]! < key d[a]!) ∧ (∀ t, h ≤ t → t < b → key d[a]! ≤ key d[t]!))⟩
            by_cases e : t = h
            · rw [e]; exact HL.out
            · exact Int.le_trans (HL.out) (HB.out h t (by omega) (by omega) h2)
      · obtain rfl : i = j := by omega
        have hltz : ¬ (i : Int) < (i : Int) := by omega
        go_wp2
        go_loopg [13] b (fun kx s13 wr => ∃ (q : Nat) (dk : Array α), s13 = .int .i64 q ∧ a ≤ q ∧ q ≤ i - 1 ∧ i - q ≤ kx ∧ dk.size = d.size ∧ Aside (SWK enc k w0 blk off dk wr) ∧ Hid (Up key d dk a q))
        case atStart => exact ⟨a, d, rfl, Nat.le_refl _, by omega, by omega, rfl, S1, Up.start d a (by omega)⟩
        case round =>
          clear S1
          obtain ⟨q, dk, rfl, haq, hqi, hkx2, hds, S1, U⟩ := hrel
          by_cases hlt2 : q < i - 1
          · have hltz2 : (q : Int) < (i : Int) - 1 := by omega
            go_wp2_with fail
            have ea5 : ((q : Int)).toNat = q := by omega
            have pa5 : (0 : Int) ≤ (q : Int) := by omega
            have ba5 : (q : Int) < (d.size : Int) := by omega
            have ra5 : IntKind.i64.wrap ((q : Int)) = (q : Int) := by rw [IntKind.wrap_i64]; omega
            have ec5 : ((q : Int) + 1).toNat = q + 1 := by omega
            have pc5 : (0 : Int) ≤ (q : Int) + 1 := by omega
            have bc5 : (q : Int) + 1 < (d.size : Int) := by omega
            have rc5 : IntKind.i64.wrap ((q : Int) + 1) = (q : Int) + 1 := by rw [IntKind.wrap_i64]; omega
            have S2 : Aside (SWK enc k w0 blk off (swp dk (q) (q + 1)) ((wr.drew.setCells blk (off + (q) * k) (enc dk[q + 1]!)).setCells blk (off + (q + 1) * k) (enc dk[q]!))) := S1.out.swapped R (q) (q + 1) (by omega) (by omega)
            have l5a := S1.out.ld1 R (by omega) P (q) (by omega)
            have l5b := S1.out.ld1 R (by omega) P (q + 1) (by omega)
            have s5a := S1.out.st1 R (by omega) P (q) (by omega) dk[q + 1]!
            have s5b := S1.out.st2 R (by omega) P (q) (q + 1) (by omega) (by omega) dk[q + 1]! dk[q]!
            have n5a : (enc dk[q]!).length = k := R.hk _
            have n5b : (enc dk[q + 1]!).length = k := R.hk _
            generalize enc dk[q]! = cI5 at S2 l5a s5b n5a
            generalize enc dk[q + 1]! = cJ5 at S2 l5b s5a s5b n5b
            clear S1
            go_wp2_with fail
            go_big_region_o
            clear l5a l5b s5a s5b
            generalize (wr.drew.setCells blk (off + (q) * k) cJ5).setCells blk (off + (q + 1) * k) cI5 = w2 at S2 ⊢
            go_wp2
            go_roundg (i - (q + 1))
            case measure => omega
            case rel => exact ⟨q + 1, swp dk q (q + 1), by first | rfl | go_num, by omega, by omega, Nat.le_refl _, by rw [size_swp]; exact hds, S2, U.out.step (by omega) (I.out.1 _ (by have := CC.out; omega) (by omega))⟩
          · obtain rfl : q = i - 1 := by omega
            have hltz2 : ¬ ((i - 1 : Nat) : Int) < (i : Int) - 1 := by omega
            go_wp2
            (try simp only [Exit.inBlock, Exit.then]); refine bodyPost_ret (results_none rfl _ _ _) rfl ?_
            exact ⟨rfl, dk, (Up.done CC.out hbd hmi hjb HB.out I.out.1 I.out.2 U.out).1, (Up.done CC.out hbd hmi hjb HB.out I.out.1 I.out.2 U.out).2, S1.out⟩
  have hc1 : (((m : Int) - (a : Int)) == 1) = false := beq_eq_false_iff_ne.2 (by omega)
  by_cases c2 : b = m + 1
  · have hc2 : (((b : Int) - (m : Int)) == 1) = true := beq_iff_eq.2 (by omega)
    have CC : Hid _ := c2
    clear c2
    go_enter L.fsy, Try.ntmps60
    go_wp2
    go_loopg [14, 15, 16] b (fun kx s14 s15 _ wr => ∃ (i j : Nat), s14 = .int .i64 i ∧ s15 = .int .i64 j ∧ a ≤ i ∧ i ≤ j ∧ j ≤ m ∧ j - i ≤ kx ∧ Aside (SWK enc k w0 blk off d wr) ∧ Hid ((∀ h, a ≤ h → h < i → key d[h]! ≤ key d[m]!) ∧ (∀ h, j ≤ h → h < m → key d[m]! < key d[h]!)))
    case atStart => exact ⟨a, m, rfl, rfl, Nat.le_refl _, by omega, Nat.le_refl _, by omega, S0, (⟨fun h h1 h2 => by omega, fun h h1 h2 => by omega⟩ : (∀ h, a ≤ h → h < a → key d[h]! ≤ key d[m]!) ∧ (∀ h, m ≤ h → h < m → key d[m]! < key d[h]!))⟩
    case round =>
      clear S0
      obtain ⟨i, j, rfl, rfl, hai, hij, hjm, hkx, S1, I⟩ := hrel
      by_cases hlt : i < j
      · have hltz : (i : Int) < (j : Int) := by omega
        go_upto_region 17 with (fail)
        obtain ⟨h, hh⟩ : ∃ h, h = (i + j) / 2 := ⟨_, rfl⟩
        have hh1 : i ≤ h := by omega
        have hh2 : h < j := by omega
        rw [show ((i : Int) + (j : Int)) / 2 = ((h : Nat) : Int) by omega]
        clear hh
        by_cases hL : cf d[m]! d[h]! < 0
        · have HL : Hid (key d[m]! < key d[h]!) := (HK.out _ _).1 hL
          have ea3 : ((m : Int)).toNat = m := by omega
          have pa3 : (0 : Int) ≤ (m : Int) := by omega
          have ba3 : (m : Int) < (d.size : Int) := by omega
          have ra3 : IntKind.i64.wrap ((m : Int)) = (m : Int) := by rw [IntKind.wrap_i64]; omega
          have ec3 : ((h : Int)).toNat = h := by omega
          have pc3 : (0 : Int) ≤ (h : Int) := by omega
          have bc3 : (h : Int) < (d.size : Int) := by omega
          have rc3 : IntKind.i64.wrap ((h : Int)) = (h : Int) := by rw [IntKind.wrap_i64]; omega
          obtain ⟨x3, hx3⟩ : ∃ x, x = d[m]! := ⟨_, rfl⟩
          obtain ⟨y3, hy3⟩ : ∃ x, x = d[h]! := ⟨_, rfl⟩
          have l3a := S1.out.ld R (by omega) P (m) (by omega)
          have l3b := S1.out.ld R (by omega) P (h) (by omega)
          rw [← hx3] at l3a
          rw [← hy3] at l3b
          have hc3 := S1.out.cmp HC.out (by omega) x3 y3
          have hv3 : cf x3 y3 < 0 := by rw [hx3, hy3]; exact hL
          have hd3 : decide (cf x3 y3 < 0) = true := decide_eq_true hv3
          clear hx3 hy3
          go_wp2_with fail
          go_quiet_grown (first | (go_at_fn g; refine Calls.grown_of (hc3 _ _)))
          have S2 : Aside (SWK enc k w0 blk off d (grow (wr.drewN nq) osq)) := S1.out.grown nq osq
          clear l3a l3b hc3 S1
          generalize grow (wr.drewN nq) osq = w2 at S2 ⊢
          clear nq osq
          go_wp2
          go_roundg (h - i)
          case measure => omega
          case rel =>
            refine ⟨i, h, rfl, rfl, hai, by omega, by omega, Nat.le_refl _, S2, (⟨I.out.1, fun t h1 h2 => ?_⟩ : (∀ t, a ≤ t → t < i → key d[t]! ≤ key d[m]!) ∧ (∀ t, h ≤ t → t < m → key d[m]! < key d[t]!))⟩
            by_cases e : t = h
            · rw [e]; exact HL.out
            · exact Int.lt_of_lt_of_le HL.out (HA.out h t (by omega) (by omega) h2)
        · have HL : Hid (key d[h]! ≤ key d[m]!) := Int.not_lt.1 fun q => hL ((HK.out _ _).2 q)
          have ea4 : ((m : Int)).toNat = m := by omega
          have pa4 : (0 : Int) ≤ (m : Int) := by omega
          have ba4 : (m : Int) < (d.size : Int) := by omega
          have ra4 : IntKind.i64.wrap ((m : Int)) = (m : Int) := by rw [IntKind.wrap_i64]; omega
          have ec4 : ((h : Int)).toNat = h := by omega
          have pc4 : (0 : Int) ≤ (h : Int) := by omega
          have bc4 : (h : Int) < (d.size : Int) := by omega
          have rc4 : IntKind.i64.wrap ((h : Int)) = (h : Int) := by rw [IntKind.wrap_i64]; omega
          obtain ⟨x4, hx4⟩ : ∃ x, x = d[m]! := ⟨_, rfl⟩
          obtain ⟨y4, hy4⟩ : ∃ x, x = d[h]! := ⟨_, rfl⟩
          have l4a := S1.out.ld R (by omega) P (m) (by omega)
          have l4b := S1.out.ld R (by omega) P (h) (by omega)
          rw [← hx4] at l4a
          rw [← hy4] at l4b
          have hc4 := S1.out.cmp HC.out (by omega) x4 y4
          have hv4 : ¬ cf x4 y4 < 0 := by rw [hx4, hy4]; exact hL
          have hd4 : decide (cf x4 y4 < 0) = false := decide_eq_false hv4
          clear hx4 hy4
          go_wp2_with fail
          go_quiet_grown (first | (go_at_fn g; refine Calls.grown_of (hc4 _ _)))
          have S2 : Aside (SWK enc k w0 blk off d (grow (wr.drewN nq) osq)) := S1.out.grown nq osq
          clear l4a l4b hc4 S1
          generalize grow (wr.drewN nq) osq = w2 at S2 ⊢
          clear nq osq
          go_wp2
          go_roundg (j - (h + 1))
          case measure => omega
          case rel =>
            refine ⟨h + 1, j, by first | rfl | go_num, rfl, by omega, by omega, hjm, Nat.le_refl _, S2, (⟨fun t h1 h2 => ?_, I.out.2⟩ : (∀ t, a ≤ t → t < h + 1 → key d[t]! ≤ key d[m]!) ∧ (∀ t, j ≤ t → t < m → key d[m]! < key d[t]!))⟩
            by_cases e : t = h
            · rw [e]; exact HL.out
            · exact Int.le_trans (HA.out t h h1 (by omega) (by omega)) (HL.out)
      · obtain rfl : i = j := by omega
        have hltz : ¬ (i : Int) < (i : Int) := by omega
        go_wp2
        go_loopg [17] b (fun kx s17 wr => ∃ (q : Nat) (dk : Array α), s17 = .int .i64 q ∧ i ≤ q ∧ q ≤ m ∧ q - i ≤ kx ∧ dk.size = d.size ∧ Aside (SWK enc k w0 blk off dk wr) ∧ Hid (Dn key d dk m q))
        case atStart => exact ⟨m, d, rfl, by omega, Nat.le_refl _, by omega, rfl, S1, Dn.start d m (by omega)⟩
        case round =>
          clear S1
          obtain ⟨q, dk, rfl, hiq, hqm, hkx2, hds, S1, U⟩ := hrel
          by_cases hlt2 : i < q
          · obtain ⟨p, rfl⟩ : ∃ p, q = p + 1 := ⟨q - 1, by omega⟩
            have hltz2 : (p : Int) + 1 > (i : Int) := by omega
            go_wp2_with fail
            have ea6 : ((p : Int) + 1).toNat = p + 1 := by omega
            have pa6 : (0 : Int) ≤ (p : Int) + 1 := by omega
            have ba6 : (p : Int) + 1 < (d.size : Int) := by omega
            have ra6 : IntKind.i64.wrap ((p : Int) + 1) = (p : Int) + 1 := by rw [IntKind.wrap_i64]; omega
            have ec6 : ((p : Int)).toNat = p := by omega
            have pc6 : (0 : Int) ≤ (p : Int) := by omega
            have bc6 : (p : Int) < (d.size : Int) := by omega
            have rc6 : IntKind.i64.wrap ((p : Int)) = (p : Int) := by rw [IntKind.wrap_i64]; omega
            have S2 : Aside (SWK enc k w0 blk off (swp dk (p + 1) (p)) ((wr.drew.setCells blk (off + (p + 1) * k) (enc dk[p]!)).setCells blk (off + (p) * k) (enc dk[p + 1]!))) := S1.out.swapped R (p + 1) (p) (by omega) (by omega)
            have l6a := S1.out.ld1 R (by omega) P (p + 1) (by omega)
            have l6b := S1.out.ld1 R (by omega) P (p) (by omega)
            have s6a := S1.out.st1 R (by omega) P (p + 1) (by omega) dk[p]!
            have s6b := S1.out.st2 R (by omega) P (p + 1) (p) (by omega) (by omega) dk[p]! dk[p + 1]!
            have n6a : (enc dk[p + 1]!).length = k := R.hk _
            have n6b : (enc dk[p]!).length = k := R.hk _
            generalize enc dk[p + 1]! = cI6 at S2 l6a s6b n6a
            generalize enc dk[p]! = cJ6 at S2 l6b s6a s6b n6b
            clear S1
            go_wp2_with fail
            go_big_region_o
            clear l6a l6b s6a s6b
            generalize (wr.drew.setCells blk (off + (p + 1) * k) cJ6).setCells blk (off + (p) * k) cI6 = w2 at S2 ⊢
            go_wp2
            go_roundg (p - i)
            case measure => omega
            case rel => exact ⟨p, swp dk (p + 1) p, by first | rfl | go_num, by omega, by omega, Nat.le_refl _, by rw [size_swp]; exact hds, S2, U.out.step (by omega) (I.out.2 _ (by omega) (by omega))⟩
          · obtain rfl : q = i := by omega
            have hltz2 : ¬ (q : Int) > (q : Int) := by omega
            go_wp2
            (try simp only [Exit.inBlock, Exit.then]); refine bodyPost_ret (results_none rfl _ _ _) rfl ?_
            exact ⟨rfl, dk, (Dn.done CC.out hbd hai hqm HA.out I.out.1 I.out.2 U.out).1, (Dn.done CC.out hbd hai hqm HA.out I.out.1 I.out.2 U.out).2, S1.out⟩
  have hc2 : (((b : Int) - (m : Int)) == 1) = false := beq_eq_false_iff_ne.2 (by omega)
  have HC1 : Hid (a + 1 < m) := by show a + 1 < m; omega
  have HC2 : Hid (m + 1 < b) := by show m + 1 < b; omega
  clear c1 c2
  go_enter L.fsy, Try.ntmps60
  go_upto_region 25 with (fail)
  obtain ⟨mid, hmid⟩ : ∃ mid, mid = (a + b) / 2 := ⟨_, rfl⟩
  have HM : Hid (mid = (a + b) / 2) := hmid
  have hma : a ≤ mid := by omega
  have hmb2 : mid < b := by omega
  have hmm : a + b ≤ mid + mid + 1 := by omega
  have hmn : mid + mid ≤ a + b := by omega
  rw [show ((a : Int) + (b : Int)) / 2 = ((mid : Nat) : Int) by omega]
  clear hmid hc1 hc2
  obtain ⟨s0, hs0⟩ : ∃ s0, s0 = if m > mid then mid + m - b else a := ⟨_, rfl⟩
  obtain ⟨r0, hr0⟩ : ∃ r0, r0 = if m > mid then mid else m := ⟨_, rfl⟩
  have HS0 : Hid (s0 = if m > mid then mid + m - b else a) := hs0
  have HR0 : Hid (r0 = if m > mid then mid else m) := hr0
  have hb1 : a ≤ s0 ∧ s0 ≤ r0 ∧ r0 ≤ m ∧ mid + m - 1 < b + s0 ∧ m + r0 ≤ mid + m - 1 + 1 ∧ r0 ≤ mid ∧ mid + m ≤ b + s0 := by
    by_cases c3 : m > mid
    · rw [if_pos c3] at hs0 hr0; omega
    · rw [if_neg c3] at hs0 hr0; omega
  obtain ⟨b1, b2, b3, b4, b5, b6, b7⟩ := hb1
  by_cases c3 : m > mid
  all_goals
    first
      | (have z3 : (m : Int) > (mid : Int) := by omega
         rw [if_pos c3] at hs0 hr0
         go_upto_region 32 with (fail)
         rw [show (mid : Int) + (m : Int) - (b : Int) = ((s0 : Nat) : Int) by omega]
         have HSX : Hid _ := hs0
         have HRX : Hid _ := hr0
         clear z3 hs0 hr0)
      | (have z3 : ¬ (m : Int) > (mid : Int) := by omega
         rw [if_neg c3] at hs0 hr0
         go_upto_region 32 with (fail)
         have HSX : Hid _ := hs0
         have HRX : Hid _ := hr0
         clear z3 hs0 hr0)
    go_wp2
    obtain ⟨pp, hpp⟩ : ∃ pp, pp = mid + m - 1 := ⟨_, rfl⟩
    have HPP : Hid (pp = mid + m - 1) := hpp
    have hp1 : pp + 1 ≤ mid + m := by omega
    have hp2 : mid + m ≤ pp + 1 := by omega
    rw [show (mid : Int) + (m : Int) - 1 = ((pp : Nat) : Int) by omega]
    clear hpp
    go_loopg [20, 21, 23] b (fun kx s20 s21 _ wr => ∃ (s r : Nat), s20 = .int .i64 s ∧ s21 = .int .i64 r ∧ s ≤ r ∧ r - s ≤ kx ∧ s0 ≤ s ∧ r ≤ r0 ∧ Aside (SWK enc k w0 blk off d wr) ∧ Hid (Bin key d pp s0 r0 s r))
    case atStart => exact ⟨s0, r0, by first | rfl | rw [HSX.out], by first | rfl | rw [HRX.out], b2, by omega, Nat.le_refl _, Nat.le_refl _, S0, (⟨Nat.le_refl _, b2, Nat.le_refl _, fun c h1 h2 => by omega, fun c h1 h2 => by omega⟩ : Bin key d pp s0 r0 s0 r0)⟩
    case round =>
      clear S0
      obtain ⟨s, r, rfl, rfl, hsr, hkx, hs1, hr1, S1, I⟩ := hrel
      by_cases hlt : s < r
      · have hltz : (s : Int) < (r : Int) := by omega
        go_upto_region 35 with (fail)
        obtain ⟨h, hh⟩ : ∃ h, h = (s + r) / 2 := ⟨_, rfl⟩
        have hh1 : s ≤ h := by omega
        have hh2 : h < r := by omega
        rw [show ((s : Int) + (r : Int)) / 2 = ((h : Nat) : Int) by omega]
        clear hh
        have hhp : h ≤ pp := by omega
        have hhp2 : (h : Int) ≤ (pp : Int) := by omega
        by_cases hL : cf d[pp - h]! d[h]! < 0
        · have HL : Hid (key d[pp - h]! < key d[h]!) := (HK.out _ _).1 hL
          have ea7 : ((pp : Int) - (h : Int)).toNat = pp - h := by omega
          have pa7 : (0 : Int) ≤ (pp : Int) - (h : Int) := by omega
          have ba7 : (pp : Int) - (h : Int) < (d.size : Int) := by omega
          have ra7 : IntKind.i64.wrap ((pp : Int) - (h : Int)) = (pp : Int) - (h : Int) := by rw [IntKind.wrap_i64]; omega
          have ec7 : ((h : Int)).toNat = h := by omega
          have pc7 : (0 : Int) ≤ (h : Int) := by omega
          have bc7 : (h : Int) < (d.size : Int) := by omega
          have rc7 : IntKind.i64.wrap ((h : Int)) = (h : Int) := by rw [IntKind.wrap_i64]; omega
          obtain ⟨x7, hx7⟩ : ∃ x, x = d[pp - h]! := ⟨_, rfl⟩
          obtain ⟨y7, hy7⟩ : ∃ x, x = d[h]! := ⟨_, rfl⟩
          have l7a := S1.out.ld R (by omega) P (pp - h) (by omega)
          have l7b := S1.out.ld R (by omega) P (h) (by omega)
          rw [← hx7] at l7a
          rw [← hy7] at l7b
          have hc7 := S1.out.cmp HC.out (by omega) x7 y7
          have hv7 : cf x7 y7 < 0 := by rw [hx7, hy7]; exact hL
          have hd7 : decide (cf x7 y7 < 0) = true := decide_eq_true hv7
          clear hx7 hy7
          go_wp2_with fail
          go_quiet_grown (first | (go_at_fn g; refine Calls.grown_of (hc7 _ _)))
          have S2 : Aside (SWK enc k w0 blk off d (grow (wr.drewN nq) osq)) := S1.out.grown nq osq
          clear l7a l7b hc7 S1
          generalize grow (wr.drewN nq) osq = w2 at S2 ⊢
          clear nq osq
          go_wp2
          go_roundg (h - s)
          case measure => omega
          case rel => exact ⟨s, h, rfl, rfl, hh1, Nat.le_refl _, hs1, by omega, S2, I.out.left HA.out HB.out b1 b3 (by omega) (by omega) h hh1 hh2 HL.out⟩
        · have HL : Hid (¬ key d[pp - h]! < key d[h]!) := fun q => hL ((HK.out _ _).2 q)
          have ea8 : ((pp : Int) - (h : Int)).toNat = pp - h := by omega
          have pa8 : (0 : Int) ≤ (pp : Int) - (h : Int) := by omega
          have ba8 : (pp : Int) - (h : Int) < (d.size : Int) := by omega
          have ra8 : IntKind.i64.wrap ((pp : Int) - (h : Int)) = (pp : Int) - (h : Int) := by rw [IntKind.wrap_i64]; omega
          have ec8 : ((h : Int)).toNat = h := by omega
          have pc8 : (0 : Int) ≤ (h : Int) := by omega
          have bc8 : (h : Int) < (d.size : Int) := by omega
          have rc8 : IntKind.i64.wrap ((h : Int)) = (h : Int) := by rw [IntKind.wrap_i64]; omega
          obtain ⟨x8, hx8⟩ : ∃ x, x = d[pp - h]! := ⟨_, rfl⟩
          obtain ⟨y8, hy8⟩ : ∃ x, x = d[h]! := ⟨_, rfl⟩
          have l8a := S1.out.ld R (by omega) P (pp - h) (by omega)
          have l8b := S1.out.ld R (by omega) P (h) (by omega)
          rw [← hx8] at l8a
          rw [← hy8] at l8b
          have hc8 := S1.out.cmp HC.out (by omega) x8 y8
          have hv8 : ¬ cf x8 y8 < 0 := by rw [hx8, hy8]; exact hL
          have hd8 : decide (cf x8 y8 < 0) = false := decide_eq_false hv8
          clear hx8 hy8
          go_wp2_with fail
          go_quiet_grown (first | (go_at_fn g; refine Calls.grown_of (hc8 _ _)))
          have S2 : Aside (SWK enc k w0 blk off d (grow (wr.drewN nq) osq)) := S1.out.grown nq osq
          clear l8a l8b hc8 S1
          generalize grow (wr.drewN nq) osq = w2 at S2 ⊢
          clear nq osq
          go_wp2
          go_roundg (r - (h + 1))
          case measure => omega
          case rel => exact ⟨h + 1, r, by first | rfl | go_num, rfl, by omega, Nat.le_refl _, by omega, hr1, S2, I.out.right HA.out HB.out b1 b3 (by omega) (by omega) h hh1 hh2 (show ¬ _ from fun q => by have := HL.out; omega)⟩
      · obtain rfl : s = r := by omega
        have hltz : ¬ (s : Int) < (s : Int) := by omega
        go_upto_region 39 with (fail)
        obtain ⟨en, hen⟩ : ∃ en, en = mid + m - s := ⟨_, rfl⟩
        have hsm : s ≤ m ∧ s ≤ mid ∧ a ≤ s ∧ en ≤ b ∧ mid ≤ en ∧ m ≤ en ∧ en + s ≤ mid + m ∧ mid + m ≤ en + s := by omega
        rw [show (mid : Int) + (m : Int) - (s : Int) = ((en : Nat) : Int) by omega]
        have HEN : Hid (en = mid + m - s) := hen
        obtain ⟨q1, q2, q3, q4, q5, q6, q7, q8⟩ := hsm
        clear hen hltz hlt
        have HI : Hid (Bin key d (mid + m - 1) s0 r0 s s) := by rw [← HPP.out]; exact I.out
        rcases Nat.lt_or_ge s m with p1 | p1 <;> rcases Nat.lt_or_ge s mid with p2 | p2 <;> rcases Nat.lt_or_ge a s with p3 | p3 <;> rcases Nat.lt_or_ge en b with p4 | p4
        all_goals try (exfalso; omega)
        all_goals
          first | (have z1 : (s : Int) < (m : Int) := by omega) | (have z1 : ¬ (s : Int) < (m : Int) := by omega)
          first | (have z2 : (m : Int) < (en : Int) := by omega) | (have z2 : ¬ (m : Int) < (en : Int) := by omega)
          first | (have z3 : (a : Int) < (s : Int) := by omega) | (have z3 : ¬ (a : Int) < (s : Int) := by omega)
          first | (have z4 : (s : Int) < (mid : Int) := by omega) | (have z4 : ¬ (s : Int) < (mid : Int) := by omega)
          first | (have z5 : (mid : Int) < (en : Int) := by omega) | (have z5 : ¬ (mid : Int) < (en : Int) := by omega)
          first | (have z6 : (en : Int) < (b : Int) := by omega) | (have z6 : ¬ (en : Int) < (b : Int) := by omega)
          first
            | (have hq : s < m ∧ m < en := by omega
               have hcall := rotate L enc g cb blk off cap s m en d0 d w0 wr R (by omega) S1.out (by omega) hq.1 hq.2 (by omega)
               clear S1
               go_upto_region 41 with (go_at_fn 74; go_loud (refine hcall.mono ?_; rintro e w1 ⟨rfl, d1, hR, S2⟩)))
            | (have hq : s = m ∨ m = en := by omega
               go_upto_region 41 with (fail)
               obtain ⟨d1, hR, S2⟩ : ∃ d1, Rot d d1 s m en ∧ Aside (SWK enc k w0 blk off d1 wr) := ⟨d, Rot.idle d s m en q1 q6 (by omega) hq, S1⟩
               clear S1)
          have hd1 := hR.size
          have MM : Hid _ := merge_mid HA.out HB.out ham hmb hbd HM.out HS0.out HR0.out HI.out (by rw [← HEN.out]; exact hR)
          clear hR hq
          first
            | (have hq : a < s ∧ s < mid := by omega
               have hcall := IH.out a s mid d1 _ (by omega) (by omega) S2 hq.1 hq.2 (by omega) MM.out.2.1 MM.out.2.2.1
               rw [hd1] at hcall
               clear S2
               go_upto_region 43 with (go_at_fn 60; refine hcall.mono ?_; rintro e w2 ⟨rfl, d2, T2, R2, S3⟩))
            | (have hq : a = s ∨ s = mid := by omega
               go_upto_region 43 with (fail)
               obtain ⟨d2, T2, R2, S3⟩ : ∃ d2, Step key a mid d1 d2 ∧ Srt key a mid d2 ∧ Aside (SWK enc k w0 blk off d2 _) := ⟨d1, Step.refl a mid d1 hma (by omega), Srt.glue MM.out.2.1 MM.out.2.2.1 hq, S2⟩
               clear S2)
          have hd2 := T2.1
          have HT2 : Hid (Step key a mid d1 d2) := T2
          have HR2 : Hid (Srt key a mid d2) := R2
          clear T2 R2
          clear hq
          have hx : Hid (Srt key mid (mid + m - s) d2) := MM.out.2.2.2.1.of_step HT2.out (Or.inr (Nat.le_refl _))
          have hy : Hid (Srt key (mid + m - s) b d2) := MM.out.2.2.2.2.1.of_step HT2.out (Or.inr (by omega))
          rw [← HEN.out] at hx hy
          first
            | (have hq : mid < en ∧ en < b := by omega
               have hcall := IH.out mid en b d2 _ (by omega) (by omega) S3 hq.1 hq.2 (by omega) hx.out hy.out
               rw [hd2, hd1] at hcall
               clear S3
               go_wp2_with (go_at_fn 60; refine hcall.mono ?_; rintro e w3 ⟨rfl, d3, T3, R3, S4⟩))
            | (have hq : mid = en ∨ en = b := by omega
               go_wp2_with (fail)
               obtain ⟨d3, T3, R3, S4⟩ : ∃ d3, Step key mid b d2 d3 ∧ Srt key mid b d3 ∧ Aside (SWK enc k w0 blk off d3 _) := ⟨d2, Step.refl mid b d2 (by omega) (by omega), Srt.glue hx.out hy.out hq, S3⟩
               clear S3)
          go_end0
          have E := merge_end hma (by omega) hbd MM.out.1 MM.out.2.2.2.2.2.1 HT2.out HR2.out T3 R3
          exact ⟨rfl, d3, E.1, E.2, S4⟩
end Go.Proofs.Ytnjnogkhbadioaa.SymK
