/- A part of the proof of MachineCalculates: Be Bf Ae Cc Ca Cb Aw Cd Rw. No condition. -/
import Derived.Below
import Derived.Deep.Cut
import Derived.Deep.LoopGhost
import Derived.Lib.SlBytesRow
import Derived.OpenShut
import Derived.ProofKit
import Derived.ShutString
import Derived.WalkKit
import Derived.Test.YtefdnjhhaejgbaaG07
import Derived.Test.YtefdnjhhaejgbaaG06
import Derived.Test.YtefdnjhhaejgbaaG05
import Derived.Test.YtefdnjhhaejgbaaG04
import Derived.Test.YtefdnjhhaejgbaaG01
import Derived.Test.YtefdnjhhaejgbaaRows
namespace Go.Proofs.Ytefdnjhhaejgbaa
open Go.RowKit
set_option linter.unusedVariables false

/-- the code and the partners in memory -/
structure BdMem (B : Nat) (w : World) (codeA ptA : Option Addr) (cd : List RI) (pt : List Nat) : Prop where
  cd : RowB B w 5 codeA cd.length fun i j => (cd.getD i default).cell j
  pt : RowB B w 1 ptA pt.length fun i _ => .int .i64 (pt.getD i 0 : Nat)

theorem BdMem.below {B : Nat} {w w' : World} {codeA ptA : Option Addr} {cd : List RI} {pt : List Nat} (h : BdMem B w codeA ptA cd pt) (hb : Below B w w') : BdMem B w' codeA ptA cd pt := ⟨h.cd.below hb, h.pt.below hb⟩
theorem BdMem.mono {B B' : Nat} {w : World} {codeA ptA : Option Addr} {cd : List RI} {pt : List Nat} (h : BdMem B w codeA ptA cd pt) (hb : B ≤ B') : BdMem B' w codeA ptA cd pt := ⟨h.cd.mono hb, h.pt.mono hb⟩

def BoundIs (n : Nat) (codeC ptC : Nat) (codeA ptA : Option Addr) (cd : List RI) (pt : List Nat) : Prop :=
  ∀ (t : T) (k e : Nat) (wi : Bool) (d : Nat) (w : World), t.size < n → k + t.size ≤ cd.length → BdAt cd pt k e t → t.wf wi d → BdMem w.heap.size w codeA ptA cd pt →
    Calls Try.prog 33 #[.slice codeA cd.length codeC, .slice ptA pt.length ptC, .int .i64 (k : Int), .int .i64 ((k + t.size : Nat) : Int)] w fun e w' => e = .returned (.int .i64 (t.bd 0)) ∧ Below w.heap.size w w'

/-- the cells of an instruction -/
theorem BdMem.ins {B : Nat} {w : World} {codeA ptA : Option Addr} {cd : List RI} {pt : List Nat} (h : BdMem B w codeA ptA cd pt) {k : Nat} (hk : k < cd.length) {i : RI} (hi : cd.getD k default = i) :
    ∃ b off, codeA = some ⟨b, off, none⟩ ∧ b < B ∧ w.cell? ⟨b, off + k * 5, none⟩ = some (.int .i64 i.op) ∧ w.cell? ⟨b, off + k * 5 + 1, none⟩ = some (.int .i64 i.to) ∧ w.cell? ⟨b, off + k * 5 + 1 + 1, none⟩ = some (.int .i64 i.a) ∧
      w.cell? ⟨b, off + k * 5 + 1 + 1 + 1, none⟩ = some (.int .i64 i.b) ∧ w.cell? ⟨b, off + k * 5 + 1 + 1 + 1 + 1, none⟩ = some (.int .u32 i.arg) := by
  obtain ⟨b, off, h1, h2, h3⟩ := h.cd k hk
  simp only [hi] at h3
  exact ⟨b, off, h1, h2, h3 0 (by omega), h3 1 (by omega), h3 2 (by omega), h3 3 (by omega), h3 4 (by omega)⟩
theorem BdMem.ptc {B : Nat} {w : World} {codeA ptA : Option Addr} {cd : List RI} {pt : List Nat} (h : BdMem B w codeA ptA cd pt) {k : Nat} (hk : k < pt.length) {p : Nat} (hp : pt.getD k 0 = p) :
    ∃ b off, ptA = some ⟨b, off, none⟩ ∧ b < B ∧ w.cell? ⟨b, off + k, none⟩ = some (.int .i64 (p : Int)) := by
  obtain ⟨b, off, h1, h2, h3⟩ := h.pt k hk
  refine ⟨b, off, h1, h2, ?_⟩
  have := h3 0 (by omega)
  simp only [Nat.mul_one, Nat.add_zero, hp] at this
  exact this

theorem if_max (x y : Int) : (if x < y then y else x) = max x y := by omega
theorem if_min (x y : Int) : (if y < x then y else x) = min x y := by omega

theorem BoundIs.call {n codeC ptC : Nat} {codeA ptA : Option Addr} {cd : List RI} {pt : List Nat} (h : BoundIs n codeC ptC codeA ptA cd pt) {w0 : World} (hm : BdMem w0.heap.size w0 codeA ptA cd pt) {a : T} {k q e : Nat} {wi : Bool} {d : Nat} (hn : a.size < n) (hk : k + 1 + a.size ≤ cd.length)
    (hb : BdAt cd pt (k + 1) e a) (hw : a.wf wi d) (hq : q = k + 1 + a.size) (w : World) (hbw : Below w0.heap.size w0 w) :
    Calls Try.prog 33 #[.slice codeA cd.length codeC, .slice ptA pt.length ptC, .int .i64 ((k : Int) + 1), .int .i64 (q : Int)] w fun e w' => e = .returned (.int .i64 (a.bd 0)) ∧ Below w.heap.size w w' := by
  subst hq
  exact h a (k + 1) e wi d w hn hk hb hw ((hm.below hbw).mono hbw.size)

set_option maxRecDepth 100000 in
set_option maxHeartbeats 1000000 in
theorem bound_any (codeC ptC : Nat) (codeA ptA : Option Addr) (cd : List RI) (pt : List Nat) (hl : pt.length = cd.length) (hmax : cd.length ≤ 16384) (harg : ∀ i ∈ cd, 0 ≤ i.arg ∧ i.arg < 4294967296) : ∀ n, BoundIs n codeC ptC codeA ptA cd pt := by
  intro n
  induction n with
  | zero => intro t k e wi d w h; omega
  | succ n ih =>
    intro t k e wi d w htn hkn hbd hwf hmem
    have HI := Lib.hid ih
    have HM := Lib.hid hmem
    have HA := Lib.hid harg
    obtain ⟨res, hres⟩ : ∃ res, t.bd 0 = res := ⟨_, rfl⟩
    rw [hres]
    have hst : BdRel cd pt (k + t.size) res w (.int .i64 0) (.int .i64 (k : Int)) w := ⟨k, 0, t, e, wi, d, rfl, rfl, rfl, hbd, hwf, hres, by omega, by unfold BY; omega, Below.refl _ _⟩
    have HST := Lib.hid hst
    have HLL := Lib.hid hl
    obtain ⟨hi, hhi⟩ : ∃ hi, k + t.size = hi := ⟨_, rfl⟩
    rw [hhi] at HST hkn ⊢
    have htn' : ∀ r : T, ∀ k', k ≤ k' → k' + r.size = hi → r.size ≤ t.size := fun r k' h1 h2 => by omega
    clear ih hmem harg hbd hwf hst hl hres
    go_enter Try.func33, Try.ntmps33
    go_wp2_with fail
    go_loopw [9, 10] (fun n i wr => BdRel cd pt hi res w n i wr ∧ (k : Int) ≤ intOf i) (fun _ i _ => hi - (intOf i).toNat)
    case atStart => exact ⟨HST.out, by simp [intOf]⟩
    case round =>
      obtain ⟨⟨k', acc, r, e', wi', d', rfl, rfl, hsz, hbd, hwf, hres, ha0, ha1, hbel⟩, hkk⟩ := hrel
      have hkk' : k ≤ k' := by simp [intOf] at hkk; omega
      have hrt := htn' r k' hkk' hsz
      clear HST hkk
      have hmr := HM.out.below hbel
      have hba : acc ≤ 281474976710657 := ha1
      cases r with
      | nil =>
        simp only [T.size, Nat.add_zero] at hsz
        subst hsz
        simp only [T.bd] at hres
        subst hres
        have HB := Lib.hid hbel
        clear hbel hmr hbd hwf hrt
        go_wp2
        go_ret
        exact ⟨rfl, HB.out⟩
      | plain i r =>
        have hsz' : k' + (r.size + 1) = hi := hsz
        have hk' : k' < cd.length := by omega
        obtain ⟨b, off, rfl, hb, c0, c1, c2, c3, c4⟩ := hmr.ins hk' hbd.cd.head
        have hbw : b < wr.heap.size := Nat.lt_of_lt_of_le hb hbel.size
        have hkI : (0 : Int) ≤ (k' : Int) ∧ (k' : Int) < (cd.length : Int) ∧ (k' : Int) < (hi : Int) := by omega
        have q27 : (i.op == 27) = false := by simpa using hwf.1.1
        have q29 : (i.op == 29) = false := by simpa using hwf.1.2.2.1
        have HX := Lib.hid (show BdRel cd pt hi res w (.int .i64 (min (acc + 1) 281474976710657)) (.int .i64 ((k' : Int) + 1)) (wr.alloc (.cells #[.int .i64 i.op, .int .i64 i.to, .int .i64 i.a, .int .i64 i.b, .int .u32 i.arg] 61)) from
          ⟨k' + 1, _, r, e', wi', d', by simp, rfl, by omega, hbd.plainR, hwf.2.2, hres, by omega, by unfold BY; omega, hbel.alloc hbel.size _⟩)
        clear hbd hwf hres hbel hmr hrt hsz hsz'
        go_wp2
        go_roundw
        case rel => exact ⟨by rw [if_min]; exact HX.out, by simp [intOf]; omega⟩
        case measure => simp [intOf]; omega
      | ite i a j r =>
        have hsz' : k' + (a.size + r.size + 2) = hi := hsz
        have hk' : k' < cd.length := by omega
        obtain ⟨hba', hbr, hpk, hcj⟩ := hbd.iteA
        obtain ⟨q, hq⟩ : ∃ q, q = k' + 1 + a.size := ⟨_, rfl⟩
        have hqe : k' + a.size + 1 = q := by omega
        rw [hqe] at hpk hcj
        obtain ⟨b, off, rfl, hb, c0, c1, c2, c3, c4⟩ := hmr.ins hk' hbd.cd.head
        obtain ⟨b2, off2, rfl, hb2, p0⟩ := hmr.ptc (show k' < pt.length by rw [HLL.out]; omega) hpk
        have hqn : q < cd.length := by omega
        obtain ⟨b3, off3, hb3, _, j0, _⟩ := HM.out.ins hqn hcj
        simp only [Option.some.injEq, Addr.mk.injEq] at hb3
        obtain ⟨rfl, rfl, _⟩ := hb3
        have hbw : b < wr.heap.size := Nat.lt_of_lt_of_le hb hbel.size
        have hbw2 : b2 < wr.heap.size := Nat.lt_of_lt_of_le hb2 hbel.size
        have hkI : (0 : Int) ≤ (k' : Int) ∧ (k' : Int) < (cd.length : Int) ∧ (k' : Int) < (hi : Int) ∧ (k' : Int) < (pt.length : Int) := by rw [HLL.out]; omega
        have hqI : (0 : Int) ≤ (q : Int) ∧ (q : Int) < (cd.length : Int) := by omega
        have q27 : (i.op == 27) = true := by simpa using hwf.1
        have q28 : (j.op == 28) = false := by rw [hwf.2.1]; rfl
        have hra := T.bd_range True a 0 (flat_arg HA.out hba'.cd (by omega)) (by unfold BY; omega)
        have hCA := HI.out.call HM.out (w0 := w) (a := a) (k := k') (q := q) (by simp only [T.size] at hrt; omega) (by omega) hba' hwf.2.2.2.1 hq
        obtain ⟨xa, hxa⟩ : ∃ xa, a.bd 0 = xa := ⟨_, rfl⟩
        rw [hxa] at hCA hra
        simp only [T.bd, hxa] at hres
        have hra1 : 0 ≤ xa ∧ xa ≤ 281474976710657 := hra
        have hmx : max xa 0 = xa := by omega
        rw [hmx] at hres
        have HX := Lib.hid (show ∀ wz, Below w.heap.size w wz → BdRel cd pt hi res w (.int .i64 (min (acc + 1 + xa) 281474976710657)) (.int .i64 ((q : Int) + 1)) wz from fun wz hz =>
          ⟨q + 1, _, r, e', wi', d', by simp, rfl, by omega, by rw [show q + 1 = k' + a.size + 2 by omega]; exact hbr, hwf.2.2.2.2, hres, by omega, by unfold BY; omega, hz⟩)
        have HC := Lib.hid hCA
        have HB := Lib.hid hbel
        have HJ := Lib.hid j0
        have HBB := Lib.hid (And.intro hb hba')
        have hkq : k' < q ∧ q < hi := by omega
        clear hbd hwf hres hbel hmr hrt hsz hsz' hCA hpk hcj hxa hba' hbr hra j0 hqe hq hmx
        go_wp2_with fail
        refine (HC.out _ (HB.out.alloc HB.out.size _)).mono ?_
        rintro e X ⟨rfl, hbX⟩
        have hwX : Below w.heap.size w X := (HB.out.alloc HB.out.size _).trans (hbX.mono (by have := HB.out.size; simp; omega))
        have jX : X.cell? ⟨b, off + q * 5, none⟩ = some (.int .i64 j.op) := by rw [hwX.cell (p := ⟨b, off + q * 5, none⟩) HBB.out.1]; exact HJ.out
        have HWX := Lib.hid hwX
        clear hbX hwX
        go_wp2
        go_roundw
        case rel => exact ⟨by rw [if_min]; exact HX.out _ HWX.out, by simp [intOf]; omega⟩
        case measure => simp [intOf]; omega
      | ite2 i a x b3 j r =>
        have hsz' : k' + (a.size + b3.size + r.size + 3) = hi := hsz
        have hk' : k' < cd.length := by omega
        obtain ⟨hba', hbb', hbr, hpk, hpx, hcx⟩ := hbd.ite2A
        obtain ⟨q, hq⟩ : ∃ q, q = k' + 1 + a.size := ⟨_, rfl⟩
        obtain ⟨q2, hq2⟩ : ∃ q2, q2 = q + 1 + b3.size := ⟨_, rfl⟩
        have hqe : k' + a.size + 1 = q := by omega
        have hqe2 : k' + a.size + b3.size + 2 = q2 := by omega
        have hqe3 : k' + a.size + 2 = q + 1 := by omega
        rw [hqe] at hpk hpx hcx
        rw [hqe2] at hpx
        rw [hqe3] at hbb'
        obtain ⟨b, off, rfl, hb, c0, c1, c2, c3, c4⟩ := hmr.ins hk' hbd.cd.head
        obtain ⟨b2, off2, rfl, hb2, p0⟩ := hmr.ptc (show k' < pt.length by rw [HLL.out]; omega) hpk
        have hqn : q < cd.length := by omega
        obtain ⟨b4, off4, hb4, _, j0, _⟩ := HM.out.ins hqn hcx
        simp only [Option.some.injEq, Addr.mk.injEq] at hb4
        obtain ⟨rfl, rfl, _⟩ := hb4
        obtain ⟨b5, off5, hb5, _, p1⟩ := HM.out.ptc (show q < pt.length by rw [HLL.out]; omega) hpx
        simp only [Option.some.injEq, Addr.mk.injEq] at hb5
        obtain ⟨rfl, rfl, _⟩ := hb5
        have hbw : b < wr.heap.size := Nat.lt_of_lt_of_le hb hbel.size
        have hbw2 : b2 < wr.heap.size := Nat.lt_of_lt_of_le hb2 hbel.size
        have hkI : (0 : Int) ≤ (k' : Int) ∧ (k' : Int) < (cd.length : Int) ∧ (k' : Int) < (hi : Int) ∧ (k' : Int) < (pt.length : Int) := by rw [HLL.out]; omega
        have hqI : (0 : Int) ≤ (q : Int) ∧ (q : Int) < (cd.length : Int) ∧ (q : Int) < (pt.length : Int) := by rw [HLL.out]; omega
        have q27 : (i.op == 27) = true := by simpa using hwf.1
        have q28 : (x.op == 28) = true := by rw [hwf.2.1]; rfl
        have hra := T.bd_range True a 0 (flat_arg HA.out hba'.cd (by omega)) (by unfold BY; omega)
        have hrb := T.bd_range True b3 0 (flat_arg HA.out hbb'.cd (by omega)) (by unfold BY; omega)
        have hCA := HI.out.call HM.out (w0 := w) (a := a) (k := k') (q := q) (by simp only [T.size] at hrt; omega) (by omega) hba' hwf.2.2.2.2.1 hq
        have hCB := HI.out.call HM.out (w0 := w) (a := b3) (k := q) (q := q2) (by simp only [T.size] at hrt; omega) (by omega) hbb' hwf.2.2.2.2.2.1 hq2
        obtain ⟨xa, hxa⟩ : ∃ xa, a.bd 0 = xa := ⟨_, rfl⟩
        obtain ⟨xb, hxb⟩ : ∃ xb, b3.bd 0 = xb := ⟨_, rfl⟩
        rw [hxa] at hCA hra
        rw [hxb] at hCB hrb
        simp only [T.bd, hxa, hxb] at hres
        have hra1 : 0 ≤ xa ∧ xa ≤ 281474976710657 := hra
        have hrb1 : 0 ≤ xb ∧ xb ≤ 281474976710657 := hrb
        have HX := Lib.hid (show ∀ wz, Below w.heap.size w wz → BdRel cd pt hi res w (.int .i64 (min (acc + 1 + max xa xb) 281474976710657)) (.int .i64 ((q2 : Int) + 1)) wz from fun wz hz =>
          ⟨q2 + 1, _, r, e', wi', d', by simp, rfl, by omega, by rw [show q2 + 1 = k' + a.size + b3.size + 3 by omega]; exact hbr, hwf.2.2.2.2.2.2, hres, by omega, by unfold BY; omega, hz⟩)
        have HC := Lib.hid hCA
        have HC2 := Lib.hid hCB
        have HB := Lib.hid hbel
        have HJ := Lib.hid (And.intro j0 p1)
        have HBB := Lib.hid (And.intro hb hb2)
        have hkq : k' < q ∧ q < q2 ∧ q2 < hi := by omega
        clear hbd hwf hres hbel hmr hrt hsz hsz' hCA hCB hpk hpx hcx hxa hxb hba' hbb' hbr hra hrb j0 p1 hqe hqe2 hqe3 hq hq2
        go_wp2_with fail
        refine (HC.out _ (HB.out.alloc HB.out.size _)).mono ?_
        rintro e X ⟨rfl, hbX⟩
        have hwX : Below w.heap.size w X := (HB.out.alloc HB.out.size _).trans (hbX.mono (by have := HB.out.size; simp; omega))
        have jX : X.cell? ⟨b, off + q * 5, none⟩ = some (.int .i64 x.op) := by rw [hwX.cell (p := ⟨b, off + q * 5, none⟩) HBB.out.1]; exact HJ.out.1
        have pX : X.cell? ⟨b2, off2 + q, none⟩ = some (.int .i64 (q2 : Int)) := by rw [hwX.cell (p := ⟨b2, off2 + q, none⟩) HBB.out.2]; exact HJ.out.2
        have HWX := Lib.hid hwX
        clear hbX hwX
        go_wp2_with fail
        refine (HC2.out X HWX.out).mono ?_
        rintro e Y ⟨rfl, hbY⟩
        have hwY : Below w.heap.size w Y := HWX.out.trans (hbY.mono HWX.out.size)
        have pY : Y.cell? ⟨b2, off2 + q, none⟩ = some (.int .i64 (q2 : Int)) := by rw [hwY.cell (p := ⟨b2, off2 + q, none⟩) HBB.out.2]; exact HJ.out.2
        have HWY := Lib.hid hwY
        clear hbY hwY
        go_wp2
        go_roundw
        case rel => exact ⟨by rw [if_max, if_min]; exact HX.out _ HWY.out, by simp [intOf]; omega⟩
        case measure => simp [intOf]; omega
      | loop i a j r =>
        have hsz' : k' + (a.size + r.size + 2) = hi := hsz
        have hk' : k' < cd.length := by omega
        obtain ⟨hba', hbr, hpk⟩ := hbd.loopA
        obtain ⟨q, hq⟩ : ∃ q, q = k' + 1 + a.size := ⟨_, rfl⟩
        have hqe : k' + a.size + 1 = q := by omega
        rw [hqe] at hpk
        obtain ⟨b, off, rfl, hb, c0, c1, c2, c3, c4⟩ := hmr.ins hk' hbd.cd.head
        obtain ⟨b2, off2, rfl, hb2, p0⟩ := hmr.ptc (show k' < pt.length by rw [HLL.out]; omega) hpk
        have hbw : b < wr.heap.size := Nat.lt_of_lt_of_le hb hbel.size
        have hbw2 : b2 < wr.heap.size := Nat.lt_of_lt_of_le hb2 hbel.size
        have hkI : (0 : Int) ≤ (k' : Int) ∧ (k' : Int) < (cd.length : Int) ∧ (k' : Int) < (hi : Int) ∧ (k' : Int) < (pt.length : Int) := by rw [HLL.out]; omega
        have q27 : (i.op == 27) = false := by rw [hwf.1]; rfl
        have q29 : (i.op == 29) = true := by rw [hwf.1]; rfl
        have hai := HA.out i (by
          have := hbd.cd.head
          rw [← this, List.getD_eq_getElem?_getD, List.getElem?_eq_getElem hk']; exact List.getElem_mem hk')
        have hra := T.bd_range True a 0 (flat_arg HA.out hba'.cd (by omega)) (by unfold BY; omega)
        have hCA := HI.out.call HM.out (w0 := w) (a := a) (k := k') (q := q) (by simp only [T.size] at hrt; omega) (by omega) hba' hwf.2.2.2.1 hq
        obtain ⟨xa, hxa⟩ : ∃ xa, a.bd 0 = xa := ⟨_, rfl⟩
        rw [hxa] at hCA hra
        simp only [T.bd, hxa] at hres
        have hra1 : 0 ≤ xa ∧ xa ≤ 281474976710657 := hra
        have hkq : k' < q ∧ q < hi := by omega
        have HX := Lib.hid (show ∀ (m : Int) wz, min (if BY / (1 + xa) < i.arg then BY else acc + 1 + i.arg * (1 + xa)) BY = m → 0 ≤ m → m ≤ BY → Below w.heap.size w wz → BdRel cd pt hi res w (.int .i64 m) (.int .i64 ((q : Int) + 1)) wz from fun m wz hm h0 h1 hz =>
          ⟨q + 1, m, r, e', wi', d', by simp, rfl, by omega, by rw [show q + 1 = k' + a.size + 2 by omega]; exact hbr, hwf.2.2.2.2, by rw [← hm]; exact hres, h0, h1, hz⟩)
        have HC := Lib.hid hCA
        have HB := Lib.hid hbel
        have HJ := Lib.hid p0
        have HBB := Lib.hid (And.intro hb2 hbel)
        clear hbd hwf hres hbel hmr hrt hsz hsz' hCA hpk hxa hba' hbr hra hqe hq
        by_cases hgt : 281474976710657 / (1 + xa) < i.arg
        · go_wp2_with fail
          refine (HC.out _ (HB.out.alloc HB.out.size _)).mono ?_
          rintro e X ⟨rfl, hbX⟩
          have hwX : Below w.heap.size w X := (HB.out.alloc HB.out.size _).trans (hbX.mono (by have := HB.out.size; simp; omega))
          have hX4 : X.cell? ⟨wr.heap.size, 4, none⟩ = some (.int .u32 i.arg) := by
            rw [hbX.cell (p := ⟨wr.heap.size, 4, none⟩) (by simp)]
            simp [go_sem]
          have pX : X.cell? ⟨b2, off2 + k', none⟩ = some (.int .i64 (q : Int)) := by
            rw [hbX.cell (p := ⟨b2, off2 + k', none⟩) (by simp; omega), World.cell?_alloc_past _ _ _ hbw2]; exact HJ.out
          have HWX := Lib.hid hwX
          have hwl : wr.heap.size < X.heap.size := by have := hbX.size; simp at this; omega
          clear hbX hwX
          go_wp2
          go_roundw
          case rel => exact ⟨HX.out 281474976710657 X (by unfold BY; rw [if_pos hgt]; omega) (by omega) (by unfold BY; omega) HWX.out, by simp [intOf]; omega⟩
          case measure => simp [intOf]; omega
        · have hm1 : i.arg * (1 + xa) ≤ 281474976710657 := (Int.le_ediv_iff_mul_le (by omega)).1 (by omega)
          have hm0 : 0 ≤ i.arg * (1 + xa) := Int.mul_nonneg hai.1 (by omega)
          obtain ⟨mm, hmm⟩ : ∃ mm, i.arg * (1 + xa) = mm := ⟨_, rfl⟩
          rw [hmm] at hm0 hm1
          have HMM := Lib.hid hmm
          have hgt' : i.arg ≤ 281474976710657 / (1 + xa) := by omega
          go_wp2_with fail
          refine (HC.out _ (HB.out.alloc HB.out.size _)).mono ?_
          rintro e X ⟨rfl, hbX⟩
          have hwX : Below w.heap.size w X := (HB.out.alloc HB.out.size _).trans (hbX.mono (by have := HB.out.size; simp; omega))
          have hX4 : X.cell? ⟨wr.heap.size, 4, none⟩ = some (.int .u32 i.arg) := by
            rw [hbX.cell (p := ⟨wr.heap.size, 4, none⟩) (by simp)]
            simp [go_sem]
          have pX : X.cell? ⟨b2, off2 + k', none⟩ = some (.int .i64 (q : Int)) := by
            rw [hbX.cell (p := ⟨b2, off2 + k', none⟩) (by simp; omega), World.cell?_alloc_past _ _ _ hbw2]; exact HJ.out
          have HWX := Lib.hid hwX
          have hwl : wr.heap.size < X.heap.size := by have := hbX.size; simp at this; omega
          clear hbX hwX
          go_wp2
          go_roundw
          case rel => exact ⟨HX.out _ X (by unfold BY; rw [if_neg (by omega), HMM.out, if_min]) (by split <;> omega) (by unfold BY; split <;> omega) HWX.out, by simp [intOf]; omega⟩
          case measure => simp [intOf]; omega

/-- **BOUND OF CODE** -/
theorem bound_all (codeC ptC : Nat) (codeA ptA : Option Addr) (t : T) (w : World) (hw : t.wf false 8) (hmax : t.flat.length ≤ 16384) (harg : ∀ i ∈ t.flat, 0 ≤ i.arg ∧ i.arg < 4294967296) (hm : BdMem w.heap.size w codeA ptA t.flat (t.pt 0 0)) :
    Calls Try.prog 33 #[.slice codeA t.flat.length codeC, .slice ptA (t.pt 0 0).length ptC, .int .i64 0, .int .i64 (t.flat.length : Int)] w fun e w' => e = .returned (.int .i64 (t.bd 0)) ∧ Below w.heap.size w w' := by
  have h := bound_any codeC ptC codeA ptA t.flat (t.pt 0 0) (by rw [t.pt_length, t.flat_length]) hmax harg (t.size + 1) t 0 0 false 8 w (by omega) (by rw [t.flat_length]; omega) ⟨fun j hj => by simp, fun p h1 h2 => by simp [ptFn]⟩ hw hm
  rw [Nat.zero_add] at h
  rw [t.flat_length] at h ⊢
  exact h

end Go.Proofs.Ytefdnjhhaejgbaa

namespace Go.Proofs.Ytefdnjhhaejgbaa
open Go.RowKit
set_option linter.unusedVariables false

/-- the result of Bound; b: the bound of the tree -/
def boundRes (er b : Int) : Int × Int := if er ≠ 0 then (0, er) else if BY ≤ b then (0, 18) else (b, 0)

set_option maxRecDepth 100000 in
set_option maxHeartbeats 1000000 in
theorem Bound_any (arsA codeA : Option Addr) (arsC codeC : Nat) (ars : List Ar) (regs spills : Int) (cd : List RI) (t : T) (w : World) (hars : RowB w.heap.size w 2 arsA ars.length fun i j => (ars.getD i default).cell j)
    (hcd : RowB w.heap.size w 5 codeA cd.length fun i j => (cd.getD i default).cell j) (hA : ars.length ≤ 9223372036854775807) (hC : cd.length ≤ 9223372036854775807) (harg : ∀ i ∈ cd, 0 ≤ i.arg ∧ i.arg < 4294967296)
    (ht : (chkCode ars regs spills cd).2 = 0 → cd = t.flat ∧ t.wf false 8) :
    Calls Try.prog 13 #[.agg #[.slice arsA ars.length arsC, .int .i64 regs, .int .i64 spills, .slice codeA cd.length codeC]] w fun e w' =>
      e = .returned (.tuple #[.int .i64 (boundRes (chkCode ars regs spills cd).2 (t.bd 0)).1, .int .i64 (boundRes (chkCode ars regs spills cd).2 (t.bd 0)).2]) ∧ Below w.heap.size w w' := by
  have HARS := Lib.hid hars
  have HCD := Lib.hid hcd
  have HARG := Lib.hid harg
  have HT := Lib.hid ht
  clear hars hcd harg ht
  have hb : Below w.heap.size w (w.alloc (.cells #[.slice arsA ars.length arsC, .int .i64 regs, .int .i64 spills, .slice codeA cd.length codeC] 25)) := (Below.refl _ _).alloc (Nat.le_refl _) _
  have HB := Lib.hid (And.intro hb (heap_new1 w (.cells #[.slice arsA ars.length arsC, .int .i64 regs, .int .i64 spills, .slice codeA cd.length codeC] 25)))
  clear hb
  go_enter Try.func13, Try.ntmps13
  go_upto_region 1 with (fail)
  refine wp_gen (fun W => Below w.heap.size w W ∧ Blk W w.heap.size [.slice arsA ars.length arsC, .int .i64 regs, .int .i64 spills, .slice codeA cd.length codeC] 25) HB.out ?_
  rintro W ⟨hbW, hbk⟩
  clear HB
  have a0 : W.cell? ⟨w.heap.size, 0, none⟩ = some (.slice arsA ars.length arsC) := hbk.cell 0
  have a1 : W.cell? ⟨w.heap.size, 0 + 1, none⟩ = some (.int .i64 regs) := hbk.cell 1
  have a2 : W.cell? ⟨w.heap.size, 0 + 1 + 1, none⟩ = some (.int .i64 spills) := hbk.cell 2
  have a3 : W.cell? ⟨w.heap.size, 0 + 1 + 1 + 1, none⟩ = some (.slice codeA cd.length codeC) := hbk.cell 3
  have HCH := Lib.hid (Check_any arsA codeA arsC codeC ars regs spills cd W ((HARS.out.below hbW).mono hbW.size) ((HCD.out.below hbW).mono hbW.size) hA hC HARG.out)
  have hWl := hbk.lt
  have HW := Lib.hid (And.intro hbW hbk)
  clear hbW hbk
  obtain ⟨ce, hce⟩ : ∃ ce, chkCode ars regs spills cd = ce := ⟨_, rfl⟩
  have HCE := Lib.hid hce
  clear hce
  by_cases hz : ce.2 = 0
  · have G := chk_good (ars := ars) (regs := regs) (spills := spills) (cd := cd) (by rw [HCE.out]; exact hz)
    obtain ⟨hcdt, hwf⟩ := HT.out (by rw [HCE.out]; exact hz)
    have HZ := Lib.hid hz
    have HG := Lib.hid G
    have HWF := Lib.hid (And.intro hcdt hwf)
    have hrange := T.bd_range True t 0 (fun i hi => (HARG.out i (by rw [hcdt]; exact hi)).1) (by unfold BY; omega)
    obtain ⟨bd, hbd⟩ : ∃ bd, t.bd 0 = bd := ⟨_, rfl⟩
    have HBD := Lib.hid hbd
    rw [hbd] at hrange
    have hr1 : 0 ≤ bd ∧ bd ≤ 281474976710657 := hrange
    clear hz G hbd hcdt hwf hrange
    go_wp2_with fail
    refine HCH.out.mono ?_
    rintro e Y ⟨he, hbY⟩
    rw [HCE.out, HZ.out] at he
    subst he
    have y3 : Y.cell? ⟨w.heap.size, 3, none⟩ = some (.slice codeA cd.length codeC) := by rw [hbY.cell (p := ⟨w.heap.size, 3, none⟩) hWl]; exact a3
    have hYl : w.heap.size < Y.heap.size := by have := hbY.size; omega
    have hwY : Below w.heap.size w Y := HW.out.1.trans (hbY.mono HW.out.1.size)
    have HY := Lib.hid hwY
    clear hbY hwY a0 a1 a2 a3
    have HPA := Lib.hid (partners_any codeA codeC cd Y.drew ((HCD.out.below HY.out.drew).mono HY.out.drew.size) HG.out.hcd HG.out.hnest)
    have hcI : cd.length ≤ 16384 := HG.out.hcd
    go_wp2_with fail
    refine wp_region_keeps [0, 2, 5, 7] [(2, 0), (2, 2), (2, 5), (1, 1), (1, 3), (1, 6), (2, 7), (0, 4), (0, 8), (0, 9)] (by kernel_rfl) (by kernel_rfl) (fun c a d v w h => by cases d <;> exact h) ?_
    simp only [getPlan, List.filterMap_cons, List.filterMap_nil, List.getElem?_toArray, List.getElem?_cons_succ, List.getElem?_cons_zero, Option.map_some]
    repeat ((first | refine wpPlanK_pure (fun K hK => ?_) | refine wpPlanK_float (fun K hK => ?_)); go_simp; refine hK _ ?_; clear hK K)
    refine wpPlanK_keep ?_
    go_wp2_with fail
    refine HPA.out.mono ?_
    rintro e Z ⟨rfl, hpk, hbZ0⟩
    have hbZ : Below Y.heap.size Y Z := below_undrew hbZ0
    have BA : Calls Try.prog 33 #[.slice codeA cd.length codeC, .slice (some ⟨Y.heap.size, 0, none⟩) cd.length cd.length, .int .i64 0, .int .i64 (cd.length : Int)] Z fun e w' => e = .returned (.int .i64 bd) ∧ Below Z.heap.size Z w' := by
      obtain ⟨hcdt, hwf⟩ := HWF.out
      have hcdl : cd.length = t.flat.length := by rw [hcdt]
      have hpl : (t.pt 0 0).length = cd.length := by rw [t.pt_length, hcdl, t.flat_length]
      have hz : BdMem Z.heap.size Z codeA (some ⟨Y.heap.size, 0, none⟩) t.flat (t.pt 0 0) := by
        refine ⟨?_, fun i hi => ?_⟩
        · have := (HCD.out.below (HY.out.trans (hbZ.mono (by omega)))).mono (HY.out.trans (hbZ.mono (by omega))).size
          rw [hcdt] at this; exact this
        · refine ⟨Y.heap.size, 0, rfl, hpk.lt, fun j hj => ?_⟩
          have hj0 : j = 0 := by omega
          subst hj0
          have e1 : ptOf cd = t.pt 0 0 := by rw [hcdt]; exact ptOf_flat t hwf
          have := hpk.cell i
          rw [e1, natsV_get hi] at this
          simpa using this
      have h9 := bound_all codeC cd.length codeA (some ⟨Y.heap.size, 0, none⟩) t Z hwf (by omega) (fun i hi => HARG.out i (by rw [hcdt]; exact hi)) hz
      rw [hpl, ← hcdl, HBD.out] at h9
      exact h9
    have HBA := Lib.hid BA
    have HBZ := Lib.hid hbZ
    clear BA hpk hbZ0 hbZ
    go_wp2_with fail
    refine ⟨grew_below HBZ.out, ?_⟩
    refine wpPlanK_keep ?_
    go_wp2_with fail
    refine HBA.out.mono ?_
    rintro e V ⟨rfl, hbV⟩
    have hYV : Below Y.heap.size Y V := HBZ.out.trans (hbV.mono HBZ.out.size)
    have HYV := Lib.hid hYV
    clear hbV hYV
    go_wp2_with fail
    refine ⟨grew_below HYV.out, ?_⟩
    refine wpPlanK_keep ?_
    go_wp2_with fail
    refine ⟨grew_below HYV.out, ?_⟩
    refine wpPlanK_nil ?_
    by_cases hge : 281474976710657 ≤ bd
    · go_wp2
      go_ret2
      exact ⟨by rw [HCE.out, HBD.out, HZ.out]; simp [boundRes, BY, hge], HY.out.trans (HYV.out.mono (by omega))⟩
    · have hge2 : ¬ 281474976710657 ≤ bd := hge
      have HGE := Lib.hid hge2
      clear hge2
      go_wp2
      go_ret2
      exact ⟨by rw [HCE.out, HBD.out, HZ.out]; unfold boundRes BY; rw [if_neg (by simp), if_neg (by have := HGE.out; omega)]; rfl, HY.out.trans (HYV.out.mono (by omega))⟩
  · have hne : (ce.2 != 0) = true := by simpa using hz
    have HZ := Lib.hid hz
    clear hz
    go_wp2_with fail
    refine HCH.out.mono ?_
    rintro e Y ⟨he, hbY⟩
    rw [HCE.out] at he
    subst he
    have HY := Lib.hid hbY
    clear hbY
    go_wp2
    go_ret2
    exact ⟨by rw [HCE.out]; simp [boundRes, HZ.out], HW.out.1.trans (HY.out.mono HW.out.1.size)⟩
end Go.Proofs.Ytefdnjhhaejgbaa

namespace Go.Proofs.Ytefdnjhhaejgbaa
open Go.RowKit
set_option linter.unusedVariables false

def cd1 : List RI := [⟨0, 0, -1, -1, 3⟩, ⟨29, -1, 0, -1, 4⟩, ⟨34, -1, 0, -1, 0⟩, ⟨31, -1, -1, -1, 0⟩]
def cd1' : List RI := [⟨0, 0, -1, -1, 3⟩, ⟨29, -1, 0, -1, 2⟩, ⟨34, -1, 0, -1, 0⟩, ⟨31, -1, -1, -1, 0⟩]
def cd2 : List RI := [⟨0, 0, -1, -1, 1⟩, ⟨0, 1, -1, -1, 300⟩, ⟨4, -1, 0, 1, 0⟩]
def z16 : List Int := List.replicate 16 0

theorem chk1 : chkCode [] 1 0 cd1 = (0, 0) := by kernel_rfl
theorem chk1' : chkCode [] 1 0 cd1' = (0, 0) := by kernel_rfl
theorem chk2 : chkCode [⟨false, 2⟩] 2 0 cd2 = (0, 0) := by kernel_rfl
theorem run1 : machRun [] 1 0 cd1 [] z16 0 false 8 = .ok ⟨[3], [], [], z16, [], [3, 3, 3], 8, 4⟩ := by kernel_rfl
theorem run1' : machRun [] 1 0 cd1' [] z16 0 false 8 = .error 18 := by kernel_rfl
theorem run2 : machRun [⟨false, 2⟩] 2 0 cd2 [[0, 0]] z16 0 false 3 = .ok ⟨[1, 300], [], [[0, 44]], z16, [], [], 3, 3⟩ := by kernel_rfl
def t1 : T := .plain ⟨0, 0, -1, -1, 3⟩ (.loop ⟨29, -1, 0, -1, 4⟩ (.plain ⟨34, -1, 0, -1, 0⟩ .nil) ⟨31, -1, -1, -1, 0⟩ .nil)
theorem t1_flat : cd1 = t1.flat := rfl
theorem t1_wf : t1.wf false 8 := by simp [t1, T.wf]
theorem bound1 : boundRes (chkCode [] 1 0 cd1).2 (t1.bd 0) = (10, 0) := by kernel_rfl
end Go.Proofs.Ytefdnjhhaejgbaa

namespace Go.Proofs.Ytefdnjhhaejgbaa
open Go.RowKit
set_option linter.unusedVariables false

def cdC (o sec a : Int) : List RI := [⟨0, 0, -1, -1, a⟩, ⟨32, 1, -1, -1, 0⟩, ⟨o, 2, 0, sec, 0⟩, ⟨37, -1, 2, -1, 1⟩, ⟨0, 2, -1, -1, 7⟩, ⟨38, 3, -1, -1, 1⟩, ⟨36, 4, 3, -1, 0⟩, ⟨33, 3, -1, -1, 0⟩, ⟨4, -1, 3, 4, 0⟩, ⟨35, -1, 4, -1, 5⟩]
def secOf (o : Int) : Int := if o = 23 ∨ o = 26 then -1 else 1

theorem nestRun_step (i : RI) (l : List RI) (k : Nat) (o : List NB) (h : nestStep i.op o = some o) : nestRun (i :: l) k o = nestRun l (k + 1) o := by
  rw [nestRun, h]
theorem chkI_push (a : Int) (ha : u32 a) : chkI 5 2 1 ⟨0, 0, -1, -1, a⟩ = 0 := by
  unfold u32 at ha
  have : ¬ (4294967295 : Int) < a := by omega
  simp [chkI, isOp, rightReg, usesTo, usesA, usesB, mostArg, this]
theorem chkI_op : ∀ o : Fin 19, chkI 5 2 1 ⟨(8 + o.1 : Nat), 2, 0, secOf (8 + o.1 : Nat), 0⟩ = 0 := by decide

theorem chkC (o a : Int) (ho : 8 ≤ o ∧ o ≤ 26) (ha : u32 a) : chkCode [⟨true, 3⟩] 5 2 (cdC o (secOf o) a) = (0, 0) := by
  obtain ⟨n, rfl⟩ : ∃ n : Fin 19, o = ((8 + n.1 : Nat) : Int) := ⟨⟨(o - 8).toNat, by omega⟩, by simp; omega⟩
  have h1 := chkI_push a ha
  have h2 := chkI_op n
  have hall : chkAll 5 2 1 (cdC ((8 + n.1 : Nat) : Int) (secOf ((8 + n.1 : Nat) : Int)) a) 0 = none := by
    simp only [cdC, chkAll, h1, h2]
    simp only [ne_eq, not_true_eq_false, if_false]
    rfl
  have hns : ∀ x y : List NB, nestStep ((8 + n.1 : Nat) : Int) x = some x := fun x _ => by
    have h3 := n.2
    unfold nestStep
    rw [if_neg (by omega), if_neg (by omega), if_neg (by omega), if_neg (by omega), if_neg (by omega)]
  have hnest : nestRun (cdC ((8 + n.1 : Nat) : Int) (secOf ((8 + n.1 : Nat) : Int)) a) 0 [] = (10, false) := by
    unfold cdC
    rw [nestRun_step _ _ _ _ rfl, nestRun_step _ _ _ _ rfl, nestRun_step _ _ _ _ (hns [] [])]
    rfl
  unfold chkCode
  rw [if_neg (by simp)]
  simp only [chkArs]
  rw [if_neg (by decide)]
  simp only
  rw [if_neg (by decide), if_neg (by simp [cdC])]
  show (match chkAll 5 2 1 (cdC ((8 + n.1 : Nat) : Int) (secOf ((8 + n.1 : Nat) : Int)) a) 0 with | some r => r | none => _) = _
  rw [hall]
  simp only
  rw [hnest]
  rfl
theorem run_step {c : MC} {n : Nat} {s s' : PS} (hp : s.pc < c.cd.length) (h : mstep c s = .ok s') : mrun c (n + 1) s = mrun c n s' := by
  rw [mrun, if_pos hp, h]; rfl
theorem run_stop {c : MC} {n : Nat} {s : PS} {e : Int} (hp : s.pc < c.cd.length) (h : mstep c s = .error e) : mrun c (n + 1) s = .error e := by
  rw [mrun, if_pos hp, h]; rfl

def cC (o sec a b : Int) : MC := mkMC [⟨true, 3⟩] 5 2 (cdC o sec a) b true 10
def sC (o sec a b : Int) : PS := ⟨[a, b, 0, 0, 0], [0, 0], [[0, 0, 0]], z16, [], [], 2, 2⟩
/-- the value of the second register -/
def secV (o b : Int) : Int := if o = 23 ∨ o = 26 then 0 else b

theorem stepC (o a b : Int) (ho : 8 ≤ o ∧ o ≤ 26) : mstep (cC o (secOf o) a b) (sC o (secOf o) a b) =
    if arithErr o (secV o b) = 0 then .ok ⟨[a, b, arith o a (secV o b), 0, 0], [0, 0], [[0, 0, 0]], z16, [], [], 3, 3⟩ else .error (arithErr o (secV o b)) := by
  have hi : (cC o (secOf o) a b).cd.getD (sC o (secOf o) a b).pc default = ⟨o, 2, 0, secOf o, 0⟩ := rfl
  have hg : (sC o (secOf o) a b).get (secOf o) = secV o b := by
    unfold secOf secV
    split <;> rfl
  have ht : tick (cC o (secOf o) a b) (sC o (secOf o) a b) = .ok { sC o (secOf o) a b with steps := 3 } := rfl
  have hg' : ({ sC o (secOf o) a b with steps := 3 } : PS).get (secOf o) = secV o b := hg
  have ha : ({ sC o (secOf o) a b with steps := 3 } : PS).get 0 = a := rfl
  unfold mstep
  simp only [hi]
  rw [if_pos (by constructor <;> omega), ht]
  simp only [Except.bind]
  unfold effect
  simp only
  rw [if_neg (by omega), if_neg (by omega), if_neg (by omega), if_neg (by omega), if_neg (by omega), if_neg (by omega), if_neg (by omega), if_neg (by omega), if_neg (by omega), if_neg (by omega), if_neg (by omega), if_neg (by omega), if_neg (by omega), if_neg (by omega), if_neg (by omega)]
  rw [hg', ha]
  by_cases he : arithErr o (secV o b) = 0
  · rw [if_pos he, if_pos he]; rfl
  · rw [if_neg he, if_neg he]

theorem secV_err (o b : Int) : arithErr o (secV o b) = arithErr o b := by
  unfold secV
  split
  · rename_i h
    unfold arithErr
    rcases h with h | h <;> subst h <;> simp
  · rfl
theorem secV_arith (o a b : Int) : arith o a (secV o b) = arith o a b := by
  unfold secV
  split
  · rename_i h
    rcases h with h | h <;> subst h <;> simp [arith]
  · rfl

theorem mresC (o a b : Int) (ho : 8 ≤ o ∧ o ≤ 26) : mres (cC o (secOf o) a b) ((cC o (secOf o) a b).init [[0, 0, 0]] z16) =
    if arithErr o b = 0 then .ok ⟨[a, b, 7, 1, arith o a b], [0, arith o a b], [[0, arith o a b, 0]], z16.set 5 (arith o a b), [], [], 10, 10⟩ else .error (arithErr o b) := by
  obtain ⟨n, hn⟩ : ∃ n, rmu (cC o (secOf o) a b) ((cC o (secOf o) a b).init [[0, 0, 0]] z16) + 1 = n + 11 := ⟨_, rfl⟩
  unfold mres
  rw [hn]
  have h3 := stepC o a b ho
  rw [secV_err, secV_arith] at h3
  rw [run_step (s' := ⟨[a, 0, 0, 0, 0], [0, 0], [[0, 0, 0]], z16, [], [], 1, 1⟩) (Nat.le_of_ble_eq_true rfl) rfl]
  rw [run_step (s' := sC o (secOf o) a b) (Nat.le_of_ble_eq_true rfl) rfl]
  by_cases he : arithErr o b = 0
  · rw [if_pos he] at h3
    rw [if_pos he, run_step (Nat.le_of_ble_eq_true rfl) h3]
    generalize arith o a b = r
    rw [run_step (s' := ⟨[a, b, r, 0, 0], [0, r], [[0, 0, 0]], z16, [], [], 4, 4⟩) (Nat.le_of_ble_eq_true rfl) rfl]
    rw [run_step (s' := ⟨[a, b, 7, 0, 0], [0, r], [[0, 0, 0]], z16, [], [], 5, 5⟩) (Nat.le_of_ble_eq_true rfl) rfl]
    rw [run_step (s' := ⟨[a, b, 7, r, 0], [0, r], [[0, 0, 0]], z16, [], [], 6, 6⟩) (Nat.le_of_ble_eq_true rfl) rfl]
    rw [run_step (s' := ⟨[a, b, 7, r, r], [0, r], [[0, 0, 0]], z16, [], [], 7, 7⟩) (Nat.le_of_ble_eq_true rfl) rfl]
    rw [run_step (s' := ⟨[a, b, 7, 1, r], [0, r], [[0, 0, 0]], z16, [], [], 8, 8⟩) (Nat.le_of_ble_eq_true rfl) rfl]
    rw [run_step (s' := ⟨[a, b, 7, 1, r], [0, r], [[0, r, 0]], z16, [], [], 9, 9⟩) (Nat.le_of_ble_eq_true rfl) rfl]
    rw [run_step (s' := ⟨[a, b, 7, 1, r], [0, r], [[0, r, 0]], z16.set 5 r, [], [], 10, 10⟩) (Nat.le_of_ble_eq_true rfl) rfl]
    rw [mrun]
    rfl
  · rw [if_neg he] at h3
    rw [if_neg he, run_stop (Nat.le_of_ble_eq_true rfl) h3]

theorem runC (o a b : Int) (ho : 8 ≤ o ∧ o ≤ 26) (ha : u32 a) : machRun [⟨true, 3⟩] 5 2 (cdC o (secOf o) a) [[0, 0, 0]] z16 b true 10 =
    if arithErr o b = 0 then .ok ⟨[a, b, 7, 1, arith o a b], [0, arith o a b], [[0, arith o a b, 0]], z16.set 5 (arith o a b), [], [], 10, 10⟩ else .error (arithErr o b) := by
  unfold machRun runRes
  rw [chkC o a ho ha]
  rw [if_neg (by simp), if_neg (by decide), if_neg (by omega)]
  exact mresC o a b ho
end Go.Proofs.Ytefdnjhhaejgbaa

namespace Go.Proofs.Ytefdnjhhaejgbaa
open Go.RowKit
set_option linter.unusedVariables false

theorem ext_getD {a b : List Int} (hl : a.length = b.length) (h : ∀ j, j < a.length → a.getD j 0 = b.getD j 0) : a = b := by
  apply List.ext_getElem hl
  intro i h1 h2
  have := h i h1
  rw [List.getD_eq_getElem?_getD, List.getD_eq_getElem?_getD, List.getElem?_eq_getElem h1, List.getElem?_eq_getElem h2] at this
  simpa using this

set_option maxRecDepth 100000 in
set_option maxHeartbeats 1000000 in
theorem same_nums (a1 a2 : Option Addr) (c1 c2 : Nat) (xs ys : List Int) (w : World) (h1 : RowB w.heap.size w 1 a1 xs.length fun j _ => .int .u32 (xs.getD j 0)) (h2 : RowB w.heap.size w 1 a2 ys.length fun j _ => .int .u32 (ys.getD j 0))
    (hm : xs.length ≤ 9223372036854775806) :
    Calls Try.prog 24 #[.slice a1 xs.length c1, .slice a2 ys.length c2] w fun e w' => e = .returned (.bool (decide (xs = ys))) ∧ ∃ n, w' = w.drewN n := by
  have H1 := Lib.hid h1
  have H2 := Lib.hid h2
  clear h1 h2
  by_cases hl : xs.length = ys.length
  rotate_left
  · have hd : ((xs.length : Int) != (ys.length : Int)) = true := by simp; omega
    have HE := Lib.hid (show decide (xs = ys) = false by simp; intro e; exact hl (by rw [e]))
    clear hl
    go_enter Try.func24, Try.ntmps24
    go_wp2
    go_ret
    exact ⟨ret_bool HE.out.symm, 0, rfl⟩
  have hd : ((xs.length : Int) != (ys.length : Int)) = false := by simp [hl]
  have HL := Lib.hid hl
  clear hl
  go_enter Try.func24, Try.ntmps24
  go_wp2_with fail
  go_loopw [5] (fun i wr => ∃ k m : Nat, i = .int .i64 (k : Int) ∧ k ≤ xs.length ∧ Hid (∀ j, j < k → xs.getD j 0 = ys.getD j 0) ∧ Hid (wr = w.drewN m)) (fun i _ => xs.length - (intOf i).toNat)
  case atStart => exact ⟨0, 0, rfl, Nat.zero_le _, Lib.hid (fun j hj => by omega), Lib.hid rfl⟩
  case round =>
    obtain ⟨k, m, rfl, hk, hj, hw⟩ := hrel
    by_cases hlt : k < xs.length
    · have hk1 := nat_cast_ltP hlt
      have hlt2 : k < ys.length := by rw [← HL.out]; exact hlt
      have hk2 := nat_cast_ltP hlt2
      obtain ⟨b, off, rfl, hb, hc⟩ := H1.out k hlt
      obtain ⟨b2, off2, rfl, hb2, hc2⟩ := H2.out k hlt2
      have q1 : wr.cell? ⟨b, off + k, none⟩ = some (.int .u32 (xs.getD k 0)) := by rw [hw.out]; have := hc 0 (by omega); simpa using this
      have q2 : wr.cell? ⟨b2, off2 + k, none⟩ = some (.int .u32 (ys.getD k 0)) := by rw [hw.out]; have := hc2 0 (by omega); simpa using this
      have z1 : b < wr.heap.size := by rw [hw.out]; exact hb
      have z2 : b2 < wr.heap.size := by rw [hw.out]; exact hb2
      clear hc hc2
      obtain ⟨x, hx⟩ : ∃ x, xs.getD k 0 = x := ⟨_, rfl⟩
      obtain ⟨y, hy⟩ : ∃ y, ys.getD k 0 = y := ⟨_, rfl⟩
      rw [hx] at q1
      rw [hy] at q2
      have HX := Lib.hid (And.intro hx hy)
      clear hx hy
      by_cases hxy : x = y
      · have HXY := Lib.hid hxy
        have q : (x != y) = false := by simp [hxy]
        clear hxy
        go_wp2_with fail
        refine wp_region_keeps [0, 1, 2, 4, 5, 6, 8] [(2, 0), (2, 1), (2, 2), (2, 4), (2, 5), (2, 6), (1, 3), (1, 7), (2, 8)] (by kernel_rfl) (by kernel_rfl) (fun c a d v w h => by cases d <;> exact h) ?_
        simp only [getPlan, List.filterMap_cons, List.filterMap_nil, List.getElem?_toArray, List.getElem?_cons_succ, List.getElem?_cons_zero, Option.map_some]
        repeat ((first | refine wpPlanK_pure (fun K hK => ?_) | refine wpPlanK_float (fun K hK => ?_)); go_simp; refine hK _ ?_; clear hK K)
        refine wpPlanK_nil ?_
        go_wp2
        go_roundw
        case rel => exact ⟨k + 1, m + 1, by simp, by omega, Lib.hid (fun j hj2 => by
            by_cases h : j < k
            · exact hj.out j h
            · have : j = k := by omega
              subst this; rw [HX.out.1, HX.out.2]; exact HXY.out), Lib.hid (by rw [hw.out]; rfl)⟩
        case measure => simp [intOf]; omega
      · have q : (x != y) = true := by simpa using hxy
        have HE := Lib.hid (show decide (xs = ys) = false by simp; intro e; apply hxy; rw [← HX.out.1, ← HX.out.2, e])
        clear hxy
        go_wp2_with fail
        refine wp_region_keeps [0, 1, 2, 4, 5, 6, 8] [(2, 0), (2, 1), (2, 2), (2, 4), (2, 5), (2, 6), (1, 3), (1, 7), (2, 8)] (by kernel_rfl) (by kernel_rfl) (fun c a d v w h => by cases d <;> exact h) ?_
        simp only [getPlan, List.filterMap_cons, List.filterMap_nil, List.getElem?_toArray, List.getElem?_cons_succ, List.getElem?_cons_zero, Option.map_some]
        repeat ((first | refine wpPlanK_pure (fun K hK => ?_) | refine wpPlanK_float (fun K hK => ?_)); go_simp; refine hK _ ?_; clear hK K)
        refine wpPlanK_nil ?_
        go_wp2
        go_ret
        exact ⟨ret_bool HE.out.symm, m + 1, by rw [hw.out]; rfl⟩
    · have hkk : k = xs.length := by omega
      subst hkk
      have HE := Lib.hid (show decide (xs = ys) = true by simp; exact ext_getD HL.out hj.out)
      go_wp2
      go_ret
      exact ⟨ret_bool HE.out.symm, m, hw.out⟩
end Go.Proofs.Ytefdnjhhaejgbaa

namespace Go.Proofs.Ytefdnjhhaejgbaa
open Go.RowKit
set_option linter.unusedVariables false

theorem Try.elRI : ElT Try.prog 23 61 (.agg #[.int .i64 0, .int .i64 0, .int .i64 0, .int .i64 0, .int .u32 0]) 5 40 := ⟨Try.underlying23, by kernel_rfl, rfl, by decide, by decide⟩

theorem own_blkN {w : World} {base : Nat} {e : TypeId} {g n cc m : Nat} {xs : List Value} (h : w.ownsRow base e m (.slice (some ⟨g, 0, none⟩) n cc) n xs) : ∃ t, Blk w g (xs ++ t) e := by
  rcases h.2 with ⟨h1, _⟩ | ⟨g', cc', cur, hv, hb, hgg, hle, hmx, hcs, htk⟩
  · cases h1
  · simp only [Value.slice.injEq, Option.some.injEq, Addr.mk.injEq] at hv
    obtain ⟨⟨rfl, _⟩, _, rfl⟩ := hv
    refine ⟨cur.toList.drop (n * m), ?_⟩
    unfold Blk
    rw [hgg, ← htk, List.take_append_drop]

set_option maxRecDepth 100000 in
set_option maxHeartbeats 1000000 in
theorem copy_code (b off n cap : Nat) (regs spills : Int) (cs : List Value) (w : World) (hn : cs.length = n * 5) (h0 : 0 < n) (hmax : n ≤ 16384) (hc : ∀ j u, cs[j]? = some u → w.cell? ⟨b, off + j, none⟩ = some u) (h1 : ∀ u ∈ cs, u.oneCell' = true) (hb : b < w.heap.size) :
    Calls Try.prog 28 #[.agg #[.slice none 0 0, .int .i64 regs, .int .i64 spills, .slice (some ⟨b, off, none⟩) n cap]] w fun e w' => ∃ g0 g cc t, e = .returned (.agg #[.slice (some ⟨g0, 0, none⟩) 0 0, .int .i64 regs, .int .i64 spills, .slice (some ⟨g, 0, none⟩) n cc]) ∧
      Blk w' g (cs ++ t) 61 ∧ w.heap.size ≤ g ∧ Below w.heap.size w w' := by
  obtain ⟨i, hi, hz, h2, h3⟩ := info_parts Try.elRI.info
  have HN := Lib.hid (And.intro hn (And.intro hc h1))
  clear hn hc h1
  go_enter Try.func28, Try.ntmps28
  go_upto_region 2 with (fail)
  refine wp_gen (fun W => Below w.heap.size w W ∧ Blk W w.heap.size [.slice (some ⟨w.heap.size + 1 + 1, 0, none⟩) 0 0, .int .i64 regs, .int .i64 spills, .slice (some ⟨b, off, none⟩) n cap] 25 ∧ Blk W (w.heap.size + 1) [.slice none 0 0, .int .i64 0, .int .i64 0, .slice none 0 0] 25 ∧ w.heap.size + 2 < W.heap.size) ?_ ?_
  · refine ⟨?_, ?_, ?_, ?_⟩
    · exact ((((Below.refl _ _).alloc (by simp) _).alloc (by simp) _).alloc (by simp; omega) _)
    · unfold Blk
      rw [Below.heap_alloc _ _ _ (by simp; omega), Below.heap_alloc _ _ _ (by simp)]
      exact heap_new1 _ _
    · unfold Blk
      rw [Below.heap_alloc _ _ _ (by simp)]
      exact heap_new2 _ _ _
    · simp
  rintro W ⟨hbW, k1, k2, hl⟩
  have a3 : W.cell? ⟨w.heap.size, 3, none⟩ = some (.slice (some ⟨b, off, none⟩) n cap) := k1.cell 3
  have z3 := k1.frozen 3
  have hWl : w.heap.size < W.heap.size := by omega
  have HW := Lib.hid (And.intro hbW (And.intro k1 k2))
  clear hbW k1 k2
  go_wp2_with (at_builtin; refine wpList_append_lies _ rfl _ _ _ rfl W.heap.size 61 i (.agg #[.int .i64 0, .int .i64 0, .int .i64 0, .int .i64 0, .int .u32 0]) 5 40 Try.underlying23 hi hz h2 h3 rfl (by decide) (.slice (some ⟨W.heap.size, 0, none⟩) 0 0) 0 [] rfl ?c1 ⟨b, off, none⟩ n cap cs rfl ?c2 ?c3 HN.out.2.2 h0 ?c4 ?c5 ?c6 _ rfl ?_)
  case c1 =>
    have := World.ownsRow_lit (base := W.heap.size) (e := 61) (size := 5) W #[] 0 (Nat.le_refl _) (by decide) (by simp)
    simpa using this
  case c2 => exact HN.out.1
  case c3 =>
    intro j u hu
    have e : ((⟨b, off, none⟩ : Addr).add j) = ⟨b, off + j, none⟩ := by unfold Addr.add; split <;> simp_all
    have h5 := HN.out.2.1 j u hu
    rw [e, World.cell?_alloc_past _ _ _ (by omega), HW.out.1.cell (p := ⟨b, off + j, none⟩) hb]
    exact h5
  case c4 => unfold maxLen; omega
  case c5 => omega
  case c6 => simp
  intro g cc w' hown hgrow hat hlt
  have hgb : Below W.heap.size W w' := ((Below.refl _ _).alloc (by simp) _).trans (below_grown hgrow (by simp) (fun k hk => by simp [Value.ownBlock] at hk; omega))
  have hgg : W.heap.size ≤ g := by
    rcases hat with hat | hat
    · simp [Value.ownBlock] at hat; omega
    · first | omega | (simp at hat; omega)
  obtain ⟨t, ht⟩ := own_blkN hown
  have b1 := HW.out.2.1.below hgb hWl
  have b2 := HW.out.2.2.below hgb (by omega)
  have e0 : w'.cell? ⟨w.heap.size, 0, none⟩ = some (.slice (some ⟨w.heap.size + 1 + 1, 0, none⟩) 0 0) := b1.cell 0
  have e1 : w'.cell? ⟨w.heap.size, 0 + 1, none⟩ = some (.int .i64 regs) := b1.cell 1
  have e2 : w'.cell? ⟨w.heap.size, 0 + 1 + 1, none⟩ = some (.int .i64 spills) := b1.cell 2
  have e3 : w'.cell? ⟨w.heap.size, 3, none⟩ = some (.slice (some ⟨b, off, none⟩) n cap) := b1.cell 3
  have f3 := b1.frozen 3
  have r0 : w'.cell? ⟨w.heap.size + 1, 0, none⟩ = some (.slice none 0 0) := b2.cell 0
  have r1 : w'.cell? ⟨w.heap.size + 1, 0 + 1, none⟩ = some (.int .i64 0) := b2.cell 1
  have r2 : w'.cell? ⟨w.heap.size + 1, 0 + 1 + 1, none⟩ = some (.int .i64 0) := b2.cell 2
  have r3 : w'.cell? ⟨w.heap.size + 1, 0 + 1 + 1 + 1, none⟩ = some (.slice none 0 0) := b2.cell 3
  have s0 := b2.frozen 0
  have s1 := b2.frozen (0 + 1)
  have s2 := b2.frozen (0 + 1 + 1)
  have s3 := b2.frozen (0 + 1 + 1 + 1)
  have HT := Lib.hid (And.intro ht (And.intro hgb (And.intro b1 b2)))
  clear hown hgrow hat ht hgb b1 b2
  go_wp2
  refine bodyPost_ret (v := .agg #[.slice (some ⟨w.heap.size + 1 + 1, 0, none⟩) 0 0, .int .i64 regs, .int .i64 spills, .slice (some ⟨g, 0, none⟩) n cc]) ?_ rfl ?_
  · have hne : w.heap.size + 1 ≠ w.heap.size := by omega
    have q0 := (((((HT.out.2.2.2.other (a := ⟨w.heap.size, 3, none⟩) hne (.slice (some ⟨g, 0, none⟩) n cc)).set 0 (.slice (some ⟨w.heap.size + 1 + 1, 0, none⟩) 0 0)).set 1 (.int .i64 regs)).set 2 (.int .i64 spills)).set 3 (.slice (some ⟨g, 0, none⟩) n cc))
    have y0 := q0.cell 0
    have y1 := q0.cell 1
    have y2 := q0.cell 2
    have y3 := q0.cell 3
    simp only [List.set_cons_zero, List.set_cons_succ, List.getElem?_cons_zero, List.getElem?_cons_succ] at y0 y1 y2 y3
    simp [results, Try.results28, go_sem, y0, y1, y2, y3]
  · have hx : w.heap.size ≤ w.heap.size + 1 := by omega
    have g1 : g ≠ w.heap.size := by omega
    have g2 : g ≠ w.heap.size + 1 := by omega
    refine ⟨w.heap.size + 1 + 1, g, cc, t, rfl, ?_, by omega, ?_⟩
    · exact (((((HT.out.1.other g1 _).other g2 _).other g2 _).other g2 _).other g2 _)
    · exact ((((((HW.out.1.trans (HT.out.2.1.mono HW.out.1.size)).setCell (Nat.le_refl _) _).setCell hx _).setCell hx _).setCell hx _).setCell hx _)
end Go.Proofs.Ytefdnjhhaejgbaa

namespace Go.Proofs.Ytefdnjhhaejgbaa
open Go.RowKit
set_option linter.unusedVariables false

theorem instr_rel (w0 : World) (o t x y z : Int) (w : World) (h : Below w0.heap.size w0 w) :
    Calls Try.prog 22 #[.int .i64 o, .int .i64 t, .int .i64 x, .int .i64 y, .int .u32 z] w fun e w' => e = .returned (.agg #[.int .i64 o, .int .i64 t, .int .i64 x, .int .i64 y, .int .u32 z]) ∧ Below w0.heap.size w0 w' :=
  (instr_any o t x y z w).mono fun e w' ⟨h1, h2, _⟩ => ⟨h1, h.trans (h2.mono h.size)⟩

/-- the cells of instructions -/
def riCells (cd : List RI) : List Value := cd.flatMap RI.cells
theorem riCells_get : ∀ (cd : List RI) (i j : Nat), i < cd.length → j < 5 → (riCells cd)[i * 5 + j]? = some ((cd.getD i default).cell j)
  | [], i, j, h, _ => by simp at h
  | x :: cd, 0, j, h, hj => by
    have : j = 0 ∨ j = 1 ∨ j = 2 ∨ j = 3 ∨ j = 4 := by omega
    rcases this with rfl | rfl | rfl | rfl | rfl <;> rfl
  | x :: cd, i + 1, j, h, hj => by
    have e : (i + 1) * 5 + j = i * 5 + j + 5 := by omega
    rw [e]
    have h2 := riCells_get cd i j (by simpa using h) hj
    show (RI.cells x ++ riCells cd)[i * 5 + j + 5]? = _
    rw [List.getElem?_append_right (by simp [RI.cells])]
    simpa [RI.cells] using h2
theorem Blk.code {w : World} {b : Nat} {cd : List RI} {t : TypeId} {x : List Value} (h : Blk w b (riCells cd ++ x) t) : RowB w.heap.size w 5 (some ⟨b, 0, none⟩) cd.length fun i j => (cd.getD i default).cell j := by
  intro i hi
  refine ⟨b, 0, rfl, h.lt, fun j hj => ?_⟩
  have hl : (riCells cd).length = cd.length * 5 := by
    clear h hi
    induction cd with
    | nil => rfl
    | cons x cd ih => simp only [riCells, List.flatMap_cons, List.length_append, List.length_cons] at *; simp [RI.cells] at *; omega
  rw [Nat.zero_add, h.cell, List.getElem?_append_left (by omega), riCells_get cd i j hi hj]

theorem row_none (B : Nat) (w : World) (size : Nat) (a : Option Addr) (f : Nat → Nat → Value) : RowB B w size a 0 f := fun i hi => by omega

theorem MemVal.parts {w : World} {arr : List (List Int)} {ctx : List Int} {a b : Option Addr} {n c m d : Nat} (h : MemVal w arr ctx (.agg #[.slice a n c, .slice b m d])) : GridAt w a arr ∧ NumsAt w b ctx := by
  obtain ⟨qa, cq, ca, cc, e, h1, h2⟩ := h
  simp only [Value.agg.injEq, Array.mk.injEq, List.cons.injEq, Value.slice.injEq, and_true] at e
  obtain ⟨⟨rfl, _⟩, rfl, _⟩ := e
  exact ⟨h1, h2⟩

theorem RunVal.grid {w : World} {s : PS} {a b o : Option Addr} {n c m d l x : Nat} {st : Int} (h : RunVal w s (.agg #[.slice a n c, .slice b m d, .slice o l x, .int .i64 st])) : GridAt w a s.arr := by
  obtain ⟨qa, cq, ca, cc, oa, oc, e, h1, _⟩ := h
  simp only [Value.agg.injEq, Array.mk.injEq, List.cons.injEq, Value.slice.injEq, and_true] at e
  obtain ⟨⟨rfl, _⟩, _⟩ := e
  exact h1

set_option maxRecDepth 100000 in
set_option maxHeartbeats 1000000 in
theorem awake_true (w : World) : Calls Try.prog 10 #[] w fun e w' => e = .returned (.bool true) ∧ Below w.heap.size w w' := by
  have hb0 : Below w.heap.size w w := Below.refl _ _
  go_enter Try.func10, Try.ntmps10
  go_upto_region 2 with (go_at_call 22; refine (instr_rel w _ _ _ _ _ _ (by assumption)).mono ?_; rintro e w9 ⟨rfl, hb9⟩)
  refine wp_gen (fun W => Below w.heap.size w W ∧ Blk W w9.heap.size (riCells cd1 ++ []) 61 ∧ Blk W (w9.heap.size + 1) [.slice none 0 0, .int .i64 1, .int .i64 0, .slice (some ⟨w9.heap.size, 0, none⟩) 4 4] 25) ?_ ?_
  · refine ⟨(hb9.alloc hb9.size _).alloc (by have := hb9.size; simp; omega) _, ?_, heap_new2 _ _ _⟩
    unfold Blk
    rw [Below.heap_alloc _ _ _ (by simp)]
    exact heap_new1 _ _
  rintro W1 ⟨hb1, kc1, ks1⟩
  have hN : w.heap.size ≤ w9.heap.size := hb9.size
  clear hb9 hb0
  have sl1 := ks1.lt
  have a0 : W1.cell? ⟨w9.heap.size + 1, 0, none⟩ = some (.slice none 0 0) := ks1.cell 0
  have a1 : W1.cell? ⟨w9.heap.size + 1, 0 + 1, none⟩ = some (.int .i64 1) := ks1.cell 1
  have a2 : W1.cell? ⟨w9.heap.size + 1, 0 + 1 + 1, none⟩ = some (.int .i64 0) := ks1.cell 2
  have a3 : W1.cell? ⟨w9.heap.size + 1, 0 + 1 + 1 + 1, none⟩ = some (.slice (some ⟨w9.heap.size, 0, none⟩) 4 4) := ks1.cell 3
  have HS1 := Lib.hid (Start_any none (some ⟨w9.heap.size, 0, none⟩) 0 4 [] 1 0 cd1 W1 (row_none _ _ _ _ _) kc1.code (by simp) (by decide) (by decide))
  have HK1 := Lib.hid (And.intro hb1 (And.intro kc1 ks1))
  clear hb1 kc1 ks1
  go_wp2_with fail
  refine HS1.out.mono ?_
  rintro e Y1 ⟨hbY, hst⟩
  rw [if_pos (by rw [chk1])] at hst
  obtain ⟨v, rfl, hmv⟩ := hst
  obtain ⟨qa, cq, ca, cc, rfl, hg, hx⟩ := hmv Y1 (fun _ _ => rfl)
  clear hmv
  have HM1 := Lib.hid (And.intro hbY (And.intro hg hx))
  have hY1 := hbY.size
  clear hbY hg hx a0 a1 a2 a3
  simp only [zeros, List.map_nil, List.length_nil, List.length_replicate]
  go_upto_region 3 with (fail)
  refine wp_gen (fun W => Below W1.heap.size W1 W ∧ Blk W Y1.heap.size [.slice qa 0 cq, .slice ca 16 cc] 31 ∧ NumsAt W ca z16 ∧ Y1.heap.size < W.heap.size) ?_ ?_
  · have hbb : Below Y1.heap.size Y1 (Y1.alloc (.cells #[.slice qa 0 cq, .slice ca 16 cc] 31)) := (Below.refl _ _).alloc (Nat.le_refl _) _
    exact ⟨HM1.out.1.trans (hbb.mono HM1.out.1.size), heap_new1 _ _, HM1.out.2.2.below hbb, by simp⟩
  rintro W2 ⟨hb2, km2, hx2, hl2⟩
  have ks2 := HK1.out.2.2.below hb2 sl1
  have kc2 := HK1.out.2.1.below hb2 (by omega)
  have sl2 : w9.heap.size + 1 < W2.heap.size := ks2.lt
  have a0 : W2.cell? ⟨w9.heap.size + 1, 0, none⟩ = some (.slice none 0 0) := ks2.cell 0
  have a1 : W2.cell? ⟨w9.heap.size + 1, 0 + 1, none⟩ = some (.int .i64 1) := ks2.cell 1
  have a2 : W2.cell? ⟨w9.heap.size + 1, 0 + 1 + 1, none⟩ = some (.int .i64 0) := ks2.cell 2
  have a3 : W2.cell? ⟨w9.heap.size + 1, 0 + 1 + 1 + 1, none⟩ = some (.slice (some ⟨w9.heap.size, 0, none⟩) 4 4) := ks2.cell 3
  have m0 : W2.cell? ⟨Y1.heap.size, 0, none⟩ = some (.slice qa 0 cq) := km2.cell 0
  have m1 : W2.cell? ⟨Y1.heap.size, 0 + 1, none⟩ = some (.slice ca 16 cc) := km2.cell 1
  have z32 : u32s z16 := fun x hx => by rw [List.eq_of_mem_replicate hx]; omega
  have HR1 := Lib.hid (Run_is none (some ⟨w9.heap.size, 0, none⟩) qa ca 0 4 cq cc [] 1 0 cd1 [] z16 0 false 8 W2 (row_none _ _ _ _ _) kc2.code (fun k hk => by simp at hk) hx2.row (by simp) (by decide) (by decide) (fun a ha => by cases ha) (fun a ha => by cases ha) z32 (by unfold u32; omega))
  have HK2 := Lib.hid (And.intro (HK1.out.1.trans (hb2.mono (by have := HK1.out.1.size; omega))) (And.intro kc2 (And.intro ks2 (And.intro km2 hx2))))
  clear hb2 km2 hx2 ks2 kc2 HS1 HM1 z32
  go_wp2_with fail
  refine HR1.out.mono ?_
  rintro e Y2 ⟨hbY, hst⟩
  rw [run1] at hst
  obtain ⟨v, rfl, hv⟩ := hst
  obtain ⟨qb, cqb, cb, ccb, ob, ocb, rfl, hgb, hxb, hob⟩ := hv Y2 (fun _ _ => rfl) rfl
  have HM2 := Lib.hid (And.intro hbY hob)
  have hY2 := hbY.size
  clear hbY hv hgb hxb hob a0 a1 a2 a3 m0 m1
  simp only [z16, List.length_nil, List.length_replicate, List.length_cons]
  go_upto_region 4 with (fail)
  refine wp_gen (fun W => Below W2.heap.size W2 W ∧ Blk W Y2.heap.size [.slice qb 0 cqb, .slice cb 16 ccb, .slice ob 3 ocb, .int .i64 8] 49 ∧ RowB W.heap.size W 1 ob 3 (fun j _ => .int .u8 (([3, 3, 3] : List Int).getD j 0))) ?_ ?_
  · have hbb : Below Y2.heap.size Y2 (Y2.alloc (.cells #[.slice qb 0 cqb, .slice cb 16 ccb, .slice ob 3 ocb, .int .i64 8] 49)) := (Below.refl _ _).alloc (Nat.le_refl _) _
    exact ⟨HM2.out.1.trans (hbb.mono HM2.out.1.size), heap_new1 _ _, (HM2.out.2.below hbb).mono hbb.size⟩
  rintro W3 ⟨hb3, kr3, ho3⟩
  obtain ⟨hw2, kc2, ks2, km2, hx2⟩ := HK2.out
  have ks3 := ks2.below hb3 sl2
  have kc3 := kc2.below hb3 (by omega)
  have a0 : W3.cell? ⟨w9.heap.size + 1, 0, none⟩ = some (.slice none 0 0) := ks3.cell 0
  have a1 : W3.cell? ⟨w9.heap.size + 1, 0 + 1, none⟩ = some (.int .i64 1) := ks3.cell 1
  have a2 : W3.cell? ⟨w9.heap.size + 1, 0 + 1 + 1, none⟩ = some (.int .i64 0) := ks3.cell 2
  have a3 : W3.cell? ⟨w9.heap.size + 1, 0 + 1 + 1 + 1, none⟩ = some (.slice (some ⟨w9.heap.size, 0, none⟩) 4 4) := ks3.cell 3
  have HB1 := Lib.hid (Bound_any none (some ⟨w9.heap.size, 0, none⟩) 0 4 [] 1 0 cd1 t1 W3 (row_none _ _ _ _ _) kc3.code (by simp) (by decide) (by decide) (fun _ => ⟨t1_flat, t1_wf⟩))
  have hw3 : Below w.heap.size w W3 := hw2.trans (hb3.mono hw2.size)
  have sl3 : w9.heap.size + 1 < W3.heap.size := ks3.lt
  have HK3 := Lib.hid (And.intro hw3 (And.intro kc3 (And.intro ks3 (And.intro (km2.below hb3 hl2) (And.intro (hx2.below hb3) (And.intro kr3 ho3))))))
  have hl3 : Y1.heap.size < W3.heap.size := by have := hb3.size; omega
  have hr3 := kr3.lt
  clear hb3 kr3 ho3 hw2 kc2 ks2 km2 hx2 ks3 kc3 HR1 HM2 HK2 hw3 HK1
  go_wp2_with fail
  refine HB1.out.mono ?_
  rintro e Y3 ⟨he, hbY⟩
  rw [bound1] at he
  subst he
  obtain ⟨hw3, kc3, ks3, km3, hx3, kr3, ho3⟩ := HK3.out
  have ks4 := ks3.below hbY sl3
  have kc4 := kc3.below hbY (by omega)
  have b0 : Y3.cell? ⟨w9.heap.size + 1, 0, none⟩ = some (.slice none 0 0) := ks4.cell 0
  have b1 : Y3.cell? ⟨w9.heap.size + 1, 0 + 1, none⟩ = some (.int .i64 1) := ks4.cell 1
  have b2 : Y3.cell? ⟨w9.heap.size + 1, 0 + 1 + 1, none⟩ = some (.int .i64 0) := ks4.cell 2
  have b3 : Y3.cell? ⟨w9.heap.size + 1, 0 + 1 + 1 + 1, none⟩ = some (.slice (some ⟨w9.heap.size, 0, none⟩) 4 4) := ks4.cell 3
  have HC := Lib.hid (copy_code w9.heap.size 0 4 4 1 0 (riCells cd1) Y3 rfl (by omega) (by omega) (fun j u hu => by
      rw [Nat.zero_add, kc4.cell, List.append_nil]; exact hu) (by decide) kc4.lt)
  have hw4 : Below w.heap.size w Y3 := hw3.trans (hbY.mono hw3.size)
  have HK4 := Lib.hid (And.intro hw4 (And.intro (km3.below hbY hl3) (And.intro (hx3.below hbY) (And.intro (kr3.below hbY hr3) ((ho3.below hbY).mono hbY.size)))))
  have hs4 := hbY.size
  clear hw3 kc3 ks3 km3 hx3 kr3 ho3 ks4 kc4 hw4 hbY a0 a1 a2 a3 HK3
  go_wp2_with fail
  refine HC.out.mono ?_
  rintro e Y4 ⟨g0, g, cg, tt, rfl, hcg, hgl, hbY⟩
  have HM4 := Lib.hid (And.intro hbY hcg)
  have hs5 := hbY.size
  clear hbY hcg b0 b1 b2 b3
  go_upto_region 6 with (fail)
  refine wp_gen (fun W => Below Y3.heap.size Y3 W ∧ Blk W Y4.heap.size [.slice (some ⟨g0, 0, none⟩) 0 0, .int .i64 1, .int .i64 0, .slice (some ⟨g, 0, none⟩) 4 cg] 25 ∧ Blk W g (riCells cd1 ++ tt) 61 ∧ g ≠ Y4.heap.size) ?_ ?_
  · have hbb : Below Y4.heap.size Y4 (Y4.alloc (.cells #[.slice (some ⟨g0, 0, none⟩) 0 0, .int .i64 1, .int .i64 0, .slice (some ⟨g, 0, none⟩) 4 cg] 25)) := (Below.refl _ _).alloc (Nat.le_refl _) _
    exact ⟨HM4.out.1.trans (hbb.mono HM4.out.1.size), heap_new1 _ _, HM4.out.2.below hbb HM4.out.2.lt, by have := HM4.out.2.lt; omega⟩
  rintro W5 ⟨hb5, ks5, kg5, hne5⟩
  have s3 : W5.cell? ⟨Y4.heap.size, 3, none⟩ = some (.slice (some ⟨g, 0, none⟩) 4 cg) := ks5.cell 3
  have c9 : W5.cell? ⟨g, 9, none⟩ = some (.int .u32 4) := kg5.cell 9
  have z9 := kg5.frozen 9
  have hg6 : Blk (W5.setCell ⟨g, 9, none⟩ (.int .u32 2)) g (riCells cd1' ++ tt) 61 := kg5.set 9 (.int .u32 2)
  have hs6 := ks5.other (a := ⟨g, 9, none⟩) (Ne.symm hne5) (.int .u32 2)
  have hb6 : Below Y3.heap.size Y3 (W5.setCell ⟨g, 9, none⟩ (.int .u32 2)) := hb5.setCell hgl _
  have HW5 := Lib.hid (And.intro hb6 (And.intro hs6 hg6))
  clear hb5 ks5 kg5 hg6 hs6 hb6
  go_upto_region 7 with (fail)
  refine wp_gen (fun W => Below Y3.heap.size Y3 W ∧ Blk W Y4.heap.size [.slice (some ⟨g0, 0, none⟩) 0 0, .int .i64 1, .int .i64 0, .slice (some ⟨g, 0, none⟩) 4 cg] 25 ∧ Blk W g (riCells cd1' ++ tt) 61) HW5.out ?_
  rintro W6 ⟨hb6, ks6, kg6⟩
  obtain ⟨hw4, km4, hx4, kr4, ho4⟩ := HK4.out
  have km6 := km4.below hb6 (by omega)
  have hx6 := hx4.below hb6
  have a0 : W6.cell? ⟨Y4.heap.size, 0, none⟩ = some (.slice (some ⟨g0, 0, none⟩) 0 0) := ks6.cell 0
  have a1 : W6.cell? ⟨Y4.heap.size, 0 + 1, none⟩ = some (.int .i64 1) := ks6.cell 1
  have a2 : W6.cell? ⟨Y4.heap.size, 0 + 1 + 1, none⟩ = some (.int .i64 0) := ks6.cell 2
  have a3 : W6.cell? ⟨Y4.heap.size, 0 + 1 + 1 + 1, none⟩ = some (.slice (some ⟨g, 0, none⟩) 4 cg) := ks6.cell 3
  have m0 : W6.cell? ⟨Y1.heap.size, 0, none⟩ = some (.slice qa 0 cq) := km6.cell 0
  have m1 : W6.cell? ⟨Y1.heap.size, 0 + 1, none⟩ = some (.slice ca 16 cc) := km6.cell 1
  have z32 : u32s z16 := fun x hx => by rw [List.eq_of_mem_replicate hx]; omega
  have HR2 := Lib.hid (Run_is (some ⟨g0, 0, none⟩) (some ⟨g, 0, none⟩) qa ca 0 cg cq cc [] 1 0 cd1' [] z16 0 false 8 W6 (row_none _ _ _ _ _) kg6.code (fun k hk => by simp at hk) hx6.row (by simp) (by decide) (by decide) (fun a ha => by cases ha) (fun a ha => by cases ha) z32 (by unfold u32; omega))
  have HK6 := Lib.hid (And.intro (hw4.trans (hb6.mono hw4.size)) (And.intro km6 (And.intro (kr4.below hb6 (by omega)) ((ho4.below hb6).mono hb6.size))))
  have hs6 := hb6.size
  clear HW5 hb6 ks6 kg6 hw4 km4 hx4 kr4 ho4 km6 hx6 z32 HK4 HM4 HC HB1 c9 z9 s3
  go_wp2_with fail
  refine HR2.out.mono ?_
  rintro e Y5 ⟨hbY, hst⟩
  rw [run1'] at hst
  replace hst : e = .returned (.tuple #[.agg #[.slice none 0 0, .slice none 0 0, .slice none 0 0, .int .i64 0], .int .i64 18]) := hst
  subst hst
  have HM5 := Lib.hid hbY
  have hs7 := hbY.size
  clear hbY a0 a1 a2 a3 m0 m1
  go_upto_region 8 with (fail)
  refine wp_gen (fun W => Below W6.heap.size W6 W) (HM5.out.alloc HM5.out.size _) ?_
  intro W7 hb7
  obtain ⟨hw6, km6, kr6, ho6⟩ := HK6.out
  have kr7 := kr6.below hb7 kr6.lt
  have ho7 := (ho6.below hb7).mono hb7.size
  have r1 : W7.cell? ⟨Y2.heap.size, 2, none⟩ = some (.slice ob 3 ocb) := kr7.cell 2
  have r2 : W7.cell? ⟨Y2.heap.size, 3, none⟩ = some (.int .i64 8) := kr7.cell 3
  obtain ⟨o1, o2, rfl, ho1, ho2⟩ := ho7 0 (by omega)
  have HK7 := Lib.hid (And.intro (hw6.trans (hb7.mono hw6.size)) (And.intro (km6.below hb7 km6.lt) (And.intro kr7 ho7)))
  clear hb7 hw6 km6 kr6 ho6 kr7 ho7 HK6 HM5 HR2
  have hcv : (convert 47 9 (.slice (some ⟨o1, o2, none⟩) 3 ocb)).run Try.prog W7 = .ok (.string ⟨#[3, 3, 3]⟩) W7 := by
    have h := run_convert_bytes_arg (P := Try.prog) W7 47 5 Try.underlying47 Try.underlying5 o1 o2 3 ocb [3, 3, 3] rfl (fun i hi => by
      obtain ⟨p1, p2, hp, _, hq⟩ := HK7.out.2.2.2 i hi
      simp only [Option.some.injEq, Addr.mk.injEq] at hp
      obtain ⟨rfl, rfl, _⟩ := hp
      have := hq 0 (by omega)
      simpa using this) 9 Try.underlying9
    rw [h]
    rfl
  go_upto_region 10 with (fail)
  clear hcv r1 r2
  have hX : Below (W7.alloc (.cells #[.bool false, .int .i64 2] 59)).heap.size (W7.alloc (.cells #[.bool false, .int .i64 2] 59)) (W7.alloc (.cells #[.bool false, .int .i64 2] 59)) := Below.refl _ _
  go_upto_region 11 with (go_at_call 22; refine (instr_rel (W7.alloc (.cells #[.bool false, .int .i64 2] 59)) _ _ _ _ _ _ (by assumption)).mono ?_; rintro e w8 ⟨rfl, hb8⟩)
  refine wp_gen (fun W => Below W7.heap.size W7 W ∧ Blk W W7.heap.size [.bool false, .int .i64 2] 59 ∧ Blk W w8.heap.size (riCells cd2 ++ []) 61 ∧ Blk W (w8.heap.size + 1) [.slice (some ⟨W7.heap.size, 0, none⟩) 1 1, .int .i64 2, .int .i64 0, .slice (some ⟨w8.heap.size, 0, none⟩) 3 3] 25 ∧ W7.heap.size < w8.heap.size) ?_ ?_
  · have hs8 := hb8.size
    simp at hs8
    have hb7 : Below W7.heap.size W7 (W7.alloc (.cells #[.bool false, .int .i64 2] 59)) := (Below.refl _ _).alloc (Nat.le_refl _) _
    have hb9 := hb7.trans (hb8.mono (by simp))
    refine ⟨(hb9.alloc (by omega) _).alloc (by simp; omega) _, ?_, ?_, heap_new2 _ _ _, by omega⟩
    · unfold Blk
      rw [Below.heap_alloc _ _ _ (by simp; omega), Below.heap_alloc _ _ _ (by omega), hb8.block _ (by simp)]
      exact heap_new1 _ _
    · unfold Blk
      rw [Below.heap_alloc _ _ _ (by simp)]
      exact heap_new1 _ _
  rintro W8 ⟨hb8', ka8, kc8, ks8, hl8⟩
  clear hb8 hX
  have a0 : W8.cell? ⟨w8.heap.size + 1, 0, none⟩ = some (.slice (some ⟨W7.heap.size, 0, none⟩) 1 1) := ks8.cell 0
  have a1 : W8.cell? ⟨w8.heap.size + 1, 0 + 1, none⟩ = some (.int .i64 2) := ks8.cell 1
  have a2 : W8.cell? ⟨w8.heap.size + 1, 0 + 1 + 1, none⟩ = some (.int .i64 0) := ks8.cell 2
  have a3 : W8.cell? ⟨w8.heap.size + 1, 0 + 1 + 1 + 1, none⟩ = some (.slice (some ⟨w8.heap.size, 0, none⟩) 3 3) := ks8.cell 3
  have har : RowB W8.heap.size W8 2 (some ⟨W7.heap.size, 0, none⟩) [(⟨false, 2⟩ : Ar)].length fun i j => ([(⟨false, 2⟩ : Ar)].getD i default).cell j := by
    intro i hi
    refine ⟨W7.heap.size, 0, rfl, ka8.lt, fun j hj => ?_⟩
    have hi0 : i = 0 := by simpa using hi
    subst hi0
    have hj2 : j = 0 ∨ j = 1 := by omega
    rcases hj2 with rfl | rfl
    · exact ka8.cell 0
    · exact ka8.cell 1
  have HS2 := Lib.hid (Start_any (some ⟨W7.heap.size, 0, none⟩) (some ⟨w8.heap.size, 0, none⟩) 1 3 [⟨false, 2⟩] 2 0 cd2 W8 har kc8.code (by simp) (by decide) (by decide))
  obtain ⟨hw7, km7, kr7, _⟩ := HK7.out
  have HK8 := Lib.hid (And.intro (hw7.trans (hb8'.mono hw7.size)) (And.intro (km7.below hb8' km7.lt) (And.intro (kr7.below hb8' kr7.lt) (And.intro ka8 (And.intro kc8 (And.intro ks8 har))))))
  have hm7 := km7.lt
  have hr7 := kr7.lt
  have hs8 := hb8'.size
  clear hb8' ka8 kc8 ks8 hw7 km7 kr7 har HK7
  go_wp2_with fail
  refine HS2.out.mono ?_
  rintro e Y6 ⟨hbY, hst⟩
  rw [if_pos (by rw [chk2])] at hst
  obtain ⟨v, rfl, hmv⟩ := hst
  obtain ⟨qc, cqc, cc2, ccc, hvv, _, _⟩ := hmv Y6 (fun _ _ => rfl)
  subst hvv
  have HMV := Lib.hid hmv
  clear hmv
  obtain ⟨hw8, km8, kr8, ka8, kc8, ks8, har⟩ := HK8.out
  have km9 := km8.below hbY km8.lt
  have m0 : Y6.cell? ⟨Y1.heap.size, 0, none⟩ = some (.slice qa 0 cq) := km9.cell 0
  have m1 : Y6.cell? ⟨Y1.heap.size, 0 + 1, none⟩ = some (.slice ca 16 cc) := km9.cell 1
  have z0 := km9.frozen 0
  have z1 := km9.frozen (0 + 1)
  simp only [zeros, List.map_cons, List.map_nil, List.length_nil, List.length_replicate, List.length_cons]
  clear a0 a1 a2 a3
  go_upto_region 12 with (fail)
  refine wp_gen (fun W => Below w.heap.size w W ∧ Blk W Y1.heap.size [.slice qc 1 cqc, .slice cc2 16 ccc] 31 ∧ (∃ l, Blk W Y2.heap.size [.slice qb 0 cqb, .slice cb 16 ccb, l, .int .i64 8] 49 ∧ ∃ x y z, l = .slice x y z) ∧ Blk W w8.heap.size (riCells cd2 ++ []) 61 ∧
      Blk W (w8.heap.size + 1) [.slice (some ⟨W7.heap.size, 0, none⟩) 1 1, .int .i64 2, .int .i64 0, .slice (some ⟨w8.heap.size, 0, none⟩) 3 3] 25 ∧ Blk W W7.heap.size [.bool false, .int .i64 2] 59 ∧ MemVal W [[0, 0]] z16 (.agg #[.slice qc 1 cqc, .slice cc2 16 ccc])) ?_ ?_
  · have hx : w.heap.size ≤ Y1.heap.size := by omega
    have n2 : Y2.heap.size ≠ Y1.heap.size := by omega
    have n3 : w8.heap.size ≠ Y1.heap.size := by omega
    have n4 : w8.heap.size + 1 ≠ Y1.heap.size := by omega
    have n5 : W7.heap.size ≠ Y1.heap.size := by omega
    refine ⟨((hw8.trans (hbY.mono hw8.size)).setCell hx _).setCell hx _, (km9.set 0 _).set 1 _, ⟨_, ((kr8.below hbY kr8.lt).other n2 _).other n2 _, _, _, _, rfl⟩, ((kc8.below hbY kc8.lt).other n3 _).other n3 _, ((ks8.below hbY ks8.lt).other n4 _).other n4 _, ((ka8.below hbY ka8.lt).other n5 _).other n5 _, ?_⟩
    refine HMV.out _ (fun k hk => ?_)
    have hne : k ≠ Y1.heap.size := by omega
    rw [Below.heap_setCell _ _ _ _ hne, Below.heap_setCell _ _ _ _ hne]
  clear hw8 km8 kr8 ka8 kc8 ks8 har km9 m0 m1 z0 z1 hbY HMV HK8 HS2
  rintro W9 ⟨hw9, km9, ⟨l9, kr9, lx, ly, lz, rfl⟩, kc9, ks9, ka9, hmv9⟩
  have a0 : W9.cell? ⟨w8.heap.size + 1, 0, none⟩ = some (.slice (some ⟨W7.heap.size, 0, none⟩) 1 1) := ks9.cell 0
  have a1 : W9.cell? ⟨w8.heap.size + 1, 0 + 1, none⟩ = some (.int .i64 2) := ks9.cell 1
  have a2 : W9.cell? ⟨w8.heap.size + 1, 0 + 1 + 1, none⟩ = some (.int .i64 0) := ks9.cell 2
  have a3 : W9.cell? ⟨w8.heap.size + 1, 0 + 1 + 1 + 1, none⟩ = some (.slice (some ⟨w8.heap.size, 0, none⟩) 3 3) := ks9.cell 3
  have m0 : W9.cell? ⟨Y1.heap.size, 0, none⟩ = some (.slice qc 1 cqc) := km9.cell 0
  have m1 : W9.cell? ⟨Y1.heap.size, 0 + 1, none⟩ = some (.slice cc2 16 ccc) := km9.cell 1
  have har : RowB W9.heap.size W9 2 (some ⟨W7.heap.size, 0, none⟩) [(⟨false, 2⟩ : Ar)].length fun i j => ([(⟨false, 2⟩ : Ar)].getD i default).cell j := by
    intro i hi
    refine ⟨W7.heap.size, 0, rfl, ka9.lt, fun j hj => ?_⟩
    have hi0 : i = 0 := by simpa using hi
    subst hi0
    have hj2 : j = 0 ∨ j = 1 := by omega
    rcases hj2 with rfl | rfl
    · exact ka9.cell 0
    · exact ka9.cell 1
  obtain ⟨hg9, hx9⟩ := hmv9.parts
  have z32 : u32s z16 := fun x hx => by rw [List.eq_of_mem_replicate hx]; omega
  have HR3 := Lib.hid (Run_is (some ⟨W7.heap.size, 0, none⟩) (some ⟨w8.heap.size, 0, none⟩) qc cc2 1 3 cqc ccc [⟨false, 2⟩] 2 0 cd2 [[0, 0]] z16 0 false 3 W9 har kc9.code hg9.toR hx9.row (by simp) (by decide) (by decide) (fun a ha => by simp at ha; subst ha; simp) (fun a ha => by simp at ha; subst ha; intro x hx; simp at hx; omega) z32 (by unfold u32; omega))
  have HK9 := Lib.hid (And.intro hw9 kr9)
  have hr9 := kr9.lt
  clear hw9 km9 kr9 kc9 ks9 ka9 hg9 hx9 har z32
  go_wp2_with fail
  refine HR3.out.mono ?_
  rintro e Y7 ⟨hbY, hst⟩
  rw [run2] at hst
  obtain ⟨v, rfl, hv⟩ := hst
  obtain ⟨qd, cqd, cd', ccd, od, ocd, hvv, _⟩ := hv Y7 (fun _ _ => rfl) rfl
  subst hvv
  have kr10 := HK9.out.2.below hbY hr9
  have r0 : Y7.cell? ⟨Y2.heap.size, 0, none⟩ = some (.slice qb 0 cqb) := kr10.cell 0
  have r1 : Y7.cell? ⟨Y2.heap.size, 0 + 1, none⟩ = some (.slice cb 16 ccb) := kr10.cell 1
  have r2 : Y7.cell? ⟨Y2.heap.size, 0 + 1 + 1, none⟩ = some (.slice lx ly lz) := kr10.cell 2
  have r3 : Y7.cell? ⟨Y2.heap.size, 0 + 1 + 1 + 1, none⟩ = some (.int .i64 8) := kr10.cell 3
  have f0 := kr10.frozen 0
  have f1 := kr10.frozen (0 + 1)
  have f2 := kr10.frozen (0 + 1 + 1)
  have f3 := kr10.frozen (0 + 1 + 1 + 1)
  have HV := Lib.hid (And.intro hbY (And.intro hv kr10))
  have hs10 := hbY.size
  clear hbY hv kr10 a0 a1 a2 a3 m0 m1 HR3
  simp only [z16, List.length_nil, List.length_replicate, List.length_cons]
  go_upto_region 13 with (fail)
  refine wp_gen (fun W => Below w.heap.size w W ∧ Blk W Y2.heap.size [.slice qd 1 cqd, .slice cd' 16 ccd, .slice od 0 ocd, .int .i64 3] 49 ∧ RunVal W ⟨[1, 300], [], [[0, 44]], z16, [], [], 3, 3⟩ (.agg #[.slice qd 1 cqd, .slice cd' 16 ccd, .slice od 0 ocd, .int .i64 3])) ?_ ?_
  · obtain ⟨hbY, hv, kr10⟩ := HV.out
    have hx : w.heap.size ≤ Y2.heap.size := by omega
    refine ⟨(((((HK9.out.1.trans (hbY.mono HK9.out.1.size)).setCell hx _).setCell hx _).setCell hx _).setCell hx _), (((kr10.set 0 _).set 1 _).set 2 _).set 3 _, ?_⟩
    refine hv _ (fun k hk => ?_) (by simp [World.setCell])
    have hne : k ≠ Y2.heap.size := by omega
    rw [Below.heap_setCell _ _ _ _ hne, Below.heap_setCell _ _ _ _ hne, Below.heap_setCell _ _ _ _ hne, Below.heap_setCell _ _ _ _ hne]
  clear HV HK9 r0 r1 r2 r3 f0 f1 f2 f3
  rintro W10 ⟨hw10, kr11, hrv⟩
  have hge := hrv.grid
  clear hrv
  obtain ⟨q, qo, a, cap, rfl, hq0, hnn⟩ := hge 0 (by simp)
  have hq0' : W10.cell? ⟨q, qo, none⟩ = some (.slice a 2 cap) := hq0
  have hrow : RowB W10.heap.size W10 1 a ([0, 44] : List Int).length (fun j _ => .int .u32 (([0, 44] : List Int).getD j 0)) := hnn.row
  have r0 : W10.cell? ⟨Y2.heap.size, 0, none⟩ = some (.slice (some ⟨q, qo, none⟩) 1 cqd) := kr11.cell 0
  have r3 : W10.cell? ⟨Y2.heap.size, 3, none⟩ = some (.int .i64 3) := kr11.cell 3
  have hbn : Below W10.heap.size W10 (W10.alloc (.cells #[.int .u32 0, .int .u32 44] 42)) := (Below.refl _ _).alloc (Nat.le_refl _) _
  have hnew : Blk (W10.alloc (.cells #[.int .u32 0, .int .u32 44] 42)) W10.heap.size [.int .u32 0, .int .u32 44] 42 := heap_new1 _ _
  have HSN := Lib.hid (same_nums a (some ⟨W10.heap.size, 0, none⟩) cap 2 [0, 44] [0, 44] (W10.alloc (.cells #[.int .u32 0, .int .u32 44] 42)) ((hrow.below hbn).mono hbn.size) (fun j hj => by
      refine ⟨W10.heap.size, 0, rfl, hnew.lt, fun i hi => ?_⟩
      have hi0 : i = 0 := by omega
      subst hi0
      have hj2 : j = 0 ∨ j = 1 := by simp at hj; omega
      rcases hj2 with rfl | rfl
      · exact hnew.cell 0
      · exact hnew.cell 1) (by simp))
  have hql : q < W10.heap.size := World.block_lt_of_cell? W10 _ hq0'
  have hyl : Y2.heap.size < W10.heap.size := kr11.lt
  have HW10 := Lib.hid hw10
  clear hq0 hnn hrow hbn hnew kr11 hge hw10
  go_wp2_with fail
  refine HSN.out.mono ?_
  rintro e V ⟨rfl, n, rfl⟩
  go_wp2
  go_ret
  exact ⟨rfl, drewN_below (HW10.out.alloc HW10.out.size _) n⟩
end Go.Proofs.Ytefdnjhhaejgbaa

namespace Go.Proofs.Ytefdnjhhaejgbaa
open Go.RowKit
set_option linter.unusedVariables false

theorem awake_rel (w0 w : World) (h : Below w0.heap.size w0 w) : Calls Try.prog 10 #[] w fun e w' => e = .returned (.bool true) ∧ Below w.heap.size w w' ∧ Below w0.heap.size w0 w' :=
  (awake_true w).mono fun e w' ⟨h1, h2⟩ => ⟨h1, h2, h.trans (h2.mono h.size)⟩

theorem RunVal.parts {w : World} {s : PS} {a b o : Option Addr} {n c m d l x : Nat} {st : Int} (h : RunVal w s (.agg #[.slice a n c, .slice b m d, .slice o l x, .int .i64 st])) : GridAt w a s.arr ∧ NumsAt w b s.ctx := by
  obtain ⟨qa, cq, ca, cc, oa, oc, e, h1, h2, _⟩ := h
  simp only [Value.agg.injEq, Array.mk.injEq, List.cons.injEq, Value.slice.injEq, and_true] at e
  obtain ⟨⟨rfl, _⟩, ⟨rfl, _⟩, _⟩ := e
  exact ⟨h1, h2⟩

set_option maxRecDepth 100000 in
set_option maxHeartbeats 1000000 in
theorem calc_a (a0 a b : Int) (h0 : 0 ≤ a0) (h1 : a0 < 256) (ha : u32 a) (hb : u32 b) (w : World) (hA : (8 + a0 % 19 == 23) = false) (hB : (8 + a0 % 19 == 26) = false) (hS : secOf (8 + a0 % 19) = 1) :
    Calls Try.prog 6 #[.int .u8 a0, .int .u32 a, .int .u32 b] w fun e w' => e = .returned (.bool true) ∧ Below w.heap.size w w' := by
  have hX : Below (w.alloc (.cells #[.bool true, .int .i64 3] 59)).heap.size (w.alloc (.cells #[.bool true, .int .i64 3] 59)) (w.alloc (.cells #[.bool true, .int .i64 3] 59)) := Below.refl _ _
  have HS := Lib.hid hS
  have HA := Lib.hid ha
  have HB := Lib.hid hb
  clear hS ha hb
  go_enter Try.func6, Try.ntmps6
  go_upto_region 6 with (go_at_call 22; refine (instr_rel (w.alloc (.cells #[.bool true, .int .i64 3] 59)) _ _ _ _ _ _ (by assumption)).mono ?_; rintro e w8 ⟨rfl, hb8⟩)
  clear hA hB
  have ho : 8 ≤ 8 + a0 % 19 ∧ 8 + a0 % 19 ≤ 26 := by omega
  clear h0 h1
  generalize 8 + a0 % 19 = o at HS ho ⊢
  have HO := Lib.hid ho
  clear ho
  refine wp_gen (fun W => Below w.heap.size w W ∧ Blk W w.heap.size [.bool true, .int .i64 3] 59 ∧ Blk W w8.heap.size (riCells (cdC o 1 a) ++ []) 61 ∧ Blk W (w8.heap.size + 1) [.slice (some ⟨w.heap.size, 0, none⟩) 1 1, .int .i64 5, .int .i64 2, .slice (some ⟨w8.heap.size, 0, none⟩) 10 10] 25 ∧ w.heap.size < w8.heap.size) ?_ ?_
  · have hs8 := hb8.size
    simp at hs8
    have hb7 : Below w.heap.size w (w.alloc (.cells #[.bool true, .int .i64 3] 59)) := (Below.refl _ _).alloc (Nat.le_refl _) _
    have hb9 := hb7.trans (hb8.mono (by simp))
    refine ⟨(hb9.alloc (by omega) _).alloc (by simp; omega) _, ?_, ?_, heap_new2 _ _ _, by omega⟩
    · unfold Blk
      rw [Below.heap_alloc _ _ _ (by simp; omega), Below.heap_alloc _ _ _ (by omega), hb8.block _ (by simp)]
      exact heap_new1 _ _
    · unfold Blk
      rw [Below.heap_alloc _ _ _ (by simp)]
      exact heap_new1 _ _
  rintro W1 ⟨hb1, ka1, kc1, ks1, hl1⟩
  clear hb8 hX
  have a0 : W1.cell? ⟨w8.heap.size + 1, 0, none⟩ = some (.slice (some ⟨w.heap.size, 0, none⟩) 1 1) := ks1.cell 0
  have a1 : W1.cell? ⟨w8.heap.size + 1, 0 + 1, none⟩ = some (.int .i64 5) := ks1.cell 1
  have a2 : W1.cell? ⟨w8.heap.size + 1, 0 + 1 + 1, none⟩ = some (.int .i64 2) := ks1.cell 2
  have a3 : W1.cell? ⟨w8.heap.size + 1, 0 + 1 + 1 + 1, none⟩ = some (.slice (some ⟨w8.heap.size, 0, none⟩) 10 10) := ks1.cell 3
  have har : ∀ W : World, Blk W w.heap.size [.bool true, .int .i64 3] 59 → RowB W.heap.size W 2 (some ⟨w.heap.size, 0, none⟩) [(⟨true, 3⟩ : Ar)].length fun i j => ([(⟨true, 3⟩ : Ar)].getD i default).cell j := by
    intro W hW i hi
    refine ⟨w.heap.size, 0, rfl, hW.lt, fun j hj => ?_⟩
    have hi0 : i = 0 := by simpa using hi
    subst hi0
    have hj2 : j = 0 ∨ j = 1 := by omega
    rcases hj2 with rfl | rfl
    · exact hW.cell 0
    · exact hW.cell 1
  have HAR := Lib.hid har
  clear har
  have harg : ∀ i ∈ cdC o 1 a, 0 ≤ i.arg ∧ i.arg < 4294967296 := by
    have := HA.out
    unfold u32 at this
    intro i hi
    simp only [cdC, List.mem_cons, List.not_mem_nil, or_false] at hi
    rcases hi with rfl | rfl | rfl | rfl | rfl | rfl | rfl | rfl | rfl | rfl <;> simp <;> omega
  have HARG := Lib.hid harg
  clear harg
  have HS1 := Lib.hid (Start_any (some ⟨w.heap.size, 0, none⟩) (some ⟨w8.heap.size, 0, none⟩) 1 10 [⟨true, 3⟩] 5 2 (cdC o 1 a) W1 (HAR.out W1 ka1) kc1.code (by simp) (by simp [cdC]) HARG.out)
  have sl1 := ks1.lt
  have HK1 := Lib.hid (And.intro hb1 (And.intro ka1 (And.intro kc1 ks1)))
  clear hb1 ka1 kc1 ks1
  go_wp2_with fail
  refine HS1.out.mono ?_
  rintro e Y1 ⟨hbY, hst⟩
  rw [if_pos (by rw [← HS.out, chkC o a HO.out HA.out])] at hst
  obtain ⟨v, rfl, hmv⟩ := hst
  obtain ⟨qa, cq, ca, cc, rfl, hg, hx⟩ := hmv Y1 (fun _ _ => rfl)
  clear hmv
  have HM1 := Lib.hid (And.intro hbY (And.intro hg hx))
  have hY1 := hbY.size
  clear hbY hg hx a0 a1 a2 a3 HS1
  simp only [zeros, List.map_nil, List.map_cons, List.length_cons, List.length_nil, List.length_replicate]
  go_upto_region 7 with (fail)
  refine wp_gen (fun W => Below W1.heap.size W1 W ∧ Blk W Y1.heap.size [.slice qa 1 cq, .slice ca 16 cc] 31 ∧ GridAt W qa [[0, 0, 0]] ∧ NumsAt W ca z16 ∧ Y1.heap.size < W.heap.size) ?_ ?_
  · have hbb : Below Y1.heap.size Y1 (Y1.alloc (.cells #[.slice qa 1 cq, .slice ca 16 cc] 31)) := (Below.refl _ _).alloc (Nat.le_refl _) _
    exact ⟨HM1.out.1.trans (hbb.mono HM1.out.1.size), heap_new1 _ _, HM1.out.2.1.below hbb, HM1.out.2.2.below hbb, by simp⟩
  rintro W2 ⟨hb2, km2, hg2, hx2, hl2⟩
  have ks2 := HK1.out.2.2.2.below hb2 sl1
  have kc2 := HK1.out.2.2.1.below hb2 (by omega)
  have ka2 := HK1.out.2.1.below hb2 (by omega)
  have a0 : W2.cell? ⟨w8.heap.size + 1, 0, none⟩ = some (.slice (some ⟨w.heap.size, 0, none⟩) 1 1) := ks2.cell 0
  have a1 : W2.cell? ⟨w8.heap.size + 1, 0 + 1, none⟩ = some (.int .i64 5) := ks2.cell 1
  have a2 : W2.cell? ⟨w8.heap.size + 1, 0 + 1 + 1, none⟩ = some (.int .i64 2) := ks2.cell 2
  have a3 : W2.cell? ⟨w8.heap.size + 1, 0 + 1 + 1 + 1, none⟩ = some (.slice (some ⟨w8.heap.size, 0, none⟩) 10 10) := ks2.cell 3
  have m0 : W2.cell? ⟨Y1.heap.size, 0, none⟩ = some (.slice qa 1 cq) := km2.cell 0
  have m1 : W2.cell? ⟨Y1.heap.size, 0 + 1, none⟩ = some (.slice ca 16 cc) := km2.cell 1
  have z32 : u32s z16 := fun x hx => by rw [List.eq_of_mem_replicate hx]; omega
  have HR1 := Lib.hid (Run_is (some ⟨w.heap.size, 0, none⟩) (some ⟨w8.heap.size, 0, none⟩) qa ca 1 10 cq cc [⟨true, 3⟩] 5 2 (cdC o 1 a) [[0, 0, 0]] z16 b true 10 W2 (HAR.out W2 ka2) kc2.code hg2.toR hx2.row (by simp) (by simp [cdC]) HARG.out (fun a ha => by simp at ha; subst ha; simp) (fun a ha => by simp at ha; subst ha; intro x hx; simp at hx; omega) z32 HB.out)
  have HK2 := Lib.hid (HK1.out.1.trans (hb2.mono (by have := HK1.out.1.size; omega)))
  clear hb2 km2 hx2 hg2 ks2 kc2 ka2 HM1 z32 HK1
  go_wp2_with fail
  refine HR1.out.mono ?_
  rintro e Y2 ⟨hbY, hst⟩
  rw [← HS.out, runC o a b HO.out HA.out] at hst
  by_cases he : arithErr o b = 0
  rotate_left
  · rw [if_neg he] at hst
    replace hst : e = .returned (.tuple #[.agg #[.slice none 0 0, .slice none 0 0, .slice none 0 0, .int .i64 0], .int .i64 (arithErr o b)]) := hst
    subst hst
    have HAP := Lib.hid (fun W => apply_err o a b HA.out.1 HA.out.2 HB.out.1 HB.out.2 he W)
    have hd : (arithErr o b != arithErr o b) = false := by simp
    have hd2 : (arithErr o b != 0) = true := by simpa using he
    have HY := Lib.hid (HK2.out.trans (hbY.mono HK2.out.size))
    clear he a0 a1 a2 a3 m0 m1 hbY
    go_upto_region 8 with (fail)
    refine wp_gen (fun W => Below w.heap.size w W) (HY.out.alloc HY.out.size _) ?_
    intro W3 hb3
    have H3 := Lib.hid hb3
    clear hb3
    go_wp2_with fail
    refine (HAP.out W3).mono ?_
    rintro e W4 ⟨rfl, hb4⟩
    have H4 := Lib.hid (H3.out.trans (hb4.mono H3.out.size))
    clear hb4
    go_wp2_with fail
    refine (awake_true W4).mono ?_
    rintro e W5 ⟨rfl, hb5⟩
    have H5 := Lib.hid (H4.out.trans (hb5.mono H4.out.size))
    clear hb5
    go_wp2
    go_ret
    exact ⟨rfl, H5.out⟩
  rw [if_pos he] at hst
  obtain ⟨v, rfl, hv⟩ := hst
  obtain ⟨qb, cqb, cb, ccb, ob, ocb, rfl, hgb, hxb, hob⟩ := hv Y2 (fun _ _ => rfl) rfl
  have HAP := Lib.hid (fun W => apply_ok o a b HA.out.1 HA.out.2 HB.out.1 HB.out.2 he W)
  have HY := Lib.hid (And.intro (HK2.out.trans (hbY.mono HK2.out.size)) (And.intro hgb hxb))
  clear hbY hv hgb hxb hob a0 a1 a2 a3 m0 m1 he
  generalize arith o a b = r at HAP HY ⊢
  simp only [z16, List.length_nil, List.length_replicate, List.length_cons, List.length_set]
  go_upto_region 8 with (fail)
  refine wp_gen (fun W => Below w.heap.size w W ∧ Blk W Y2.heap.size [.slice qb 1 cqb, .slice cb 16 ccb, .slice ob 0 ocb, .int .i64 10] 49 ∧ GridAt W qb [[0, r, 0]] ∧ NumsAt W cb (z16.set 5 r)) ?_ ?_
  · have hbb : Below Y2.heap.size Y2 (Y2.alloc (.cells #[.slice qb 1 cqb, .slice cb 16 ccb, .slice ob 0 ocb, .int .i64 10] 49)) := (Below.refl _ _).alloc (Nat.le_refl _) _
    exact ⟨HY.out.1.trans (hbb.mono HY.out.1.size), heap_new1 _ _, HY.out.2.1.below hbb, HY.out.2.2.below hbb⟩
  rintro W3 ⟨hb3, kr3, hg3, hx3⟩
  have H3 := Lib.hid (And.intro hb3 (And.intro kr3 (And.intro hg3 hx3)))
  clear hb3 kr3 hg3 hx3 HY
  go_wp2_with fail
  refine (HAP.out W3).mono ?_
  rintro e W4 ⟨rfl, hb4⟩
  have H4 := Lib.hid (And.intro (H3.out.1.trans (hb4.mono H3.out.1.size)) (And.intro (H3.out.2.1.below hb4 H3.out.2.1.lt) (And.intro (H3.out.2.2.1.below hb4) (H3.out.2.2.2.below hb4))))
  clear hb4 H3
  go_wp2_with fail
  refine (awake_true W4).mono ?_
  rintro e W5 ⟨rfl, hb5⟩
  have hw5 := H4.out.1.trans (hb5.mono H4.out.1.size)
  have kr5 := H4.out.2.1.below hb5 H4.out.2.1.lt
  have hg5 := H4.out.2.2.1.below hb5
  have hx5 := H4.out.2.2.2.below hb5
  clear H4 hb5
  obtain ⟨q, qo, p, cap, rfl, hq0, hnn⟩ := hg5 0 (by simp)
  have hq0' : W5.cell? ⟨q, qo, none⟩ = some (.slice p 3 cap) := hq0
  have hrow : RowB W5.heap.size W5 1 p ([0, r, 0] : List Int).length (fun j _ => .int .u32 (([0, r, 0] : List Int).getD j 0)) := hnn.row
  obtain ⟨xb, xo, rfl, hxl, hx5'⟩ := hx5.row 5 (by simp [z16])
  have hxc : W5.cell? ⟨xb, xo + 5, none⟩ = some (.int .u32 r) := hx5' 0 (by omega)
  have r0 : W5.cell? ⟨Y2.heap.size, 0, none⟩ = some (.slice (some ⟨q, qo, none⟩) 1 cqb) := kr5.cell 0
  have r1 : W5.cell? ⟨Y2.heap.size, 1, none⟩ = some (.slice (some ⟨xb, xo, none⟩) 16 ccb) := kr5.cell 1
  have r3 : W5.cell? ⟨Y2.heap.size, 3, none⟩ = some (.int .i64 10) := kr5.cell 3
  have hbn : Below W5.heap.size W5 (W5.alloc (.cells #[.int .u32 0, .int .u32 r, .int .u32 0] 42)) := (Below.refl _ _).alloc (Nat.le_refl _) _
  have hnew : Blk (W5.alloc (.cells #[.int .u32 0, .int .u32 r, .int .u32 0] 42)) W5.heap.size [.int .u32 0, .int .u32 r, .int .u32 0] 42 := heap_new1 _ _
  have HSN := Lib.hid (same_nums p (some ⟨W5.heap.size, 0, none⟩) cap 3 [0, r, 0] [0, r, 0] (W5.alloc (.cells #[.int .u32 0, .int .u32 r, .int .u32 0] 42)) ((hrow.below hbn).mono hbn.size) (fun j hj => by
      refine ⟨W5.heap.size, 0, rfl, hnew.lt, fun i hi => ?_⟩
      have hi0 : i = 0 := by omega
      subst hi0
      have hj2 : j = 0 ∨ j = 1 ∨ j = 2 := by simp at hj; omega
      rcases hj2 with rfl | rfl | rfl
      · exact hnew.cell 0
      · exact hnew.cell 1
      · exact hnew.cell 2) (by simp))
  have hql : q < W5.heap.size := World.block_lt_of_cell? W5 _ hq0'
  have hyl : Y2.heap.size < W5.heap.size := kr5.lt
  have hxl' : xb < W5.heap.size := World.block_lt_of_cell? W5 _ hxc
  have hxc2 : (W5.alloc (.cells #[.int .u32 0, .int .u32 r, .int .u32 0] 42)).cell? ⟨xb, xo + 5, none⟩ = some (.int .u32 r) := by
    rw [hbn.cell hxl']; exact hxc
  have HW5 := Lib.hid hw5
  clear hq0 hnn hrow hbn hnew kr5 hg5 hw5 hx5' hx5
  go_wp2_with fail
  refine HSN.out.mono ?_
  rintro e V ⟨rfl, n, rfl⟩
  go_wp2
  go_ret
  exact ⟨rfl, drewN_below (HW5.out.alloc HW5.out.size _) n⟩
set_option maxRecDepth 100000 in
set_option maxHeartbeats 1000000 in
theorem calc_b (a0 a b : Int) (h0 : 0 ≤ a0) (h1 : a0 < 256) (ha : u32 a) (hb : u32 b) (w : World) (hA : (8 + a0 % 19 == 23) = true) (hB : (8 + a0 % 19 == 26) = false) (hS : secOf (8 + a0 % 19) = (-1)) :
    Calls Try.prog 6 #[.int .u8 a0, .int .u32 a, .int .u32 b] w fun e w' => e = .returned (.bool true) ∧ Below w.heap.size w w' := by
  have hX : Below (w.alloc (.cells #[.bool true, .int .i64 3] 59)).heap.size (w.alloc (.cells #[.bool true, .int .i64 3] 59)) (w.alloc (.cells #[.bool true, .int .i64 3] 59)) := Below.refl _ _
  have HS := Lib.hid hS
  have HA := Lib.hid ha
  have HB := Lib.hid hb
  clear hS ha hb
  go_enter Try.func6, Try.ntmps6
  go_upto_region 6 with (go_at_call 22; refine (instr_rel (w.alloc (.cells #[.bool true, .int .i64 3] 59)) _ _ _ _ _ _ (by assumption)).mono ?_; rintro e w8 ⟨rfl, hb8⟩)
  clear hA hB
  have ho : 8 ≤ 8 + a0 % 19 ∧ 8 + a0 % 19 ≤ 26 := by omega
  clear h0 h1
  generalize 8 + a0 % 19 = o at HS ho ⊢
  have HO := Lib.hid ho
  clear ho
  refine wp_gen (fun W => Below w.heap.size w W ∧ Blk W w.heap.size [.bool true, .int .i64 3] 59 ∧ Blk W w8.heap.size (riCells (cdC o (-1) a) ++ []) 61 ∧ Blk W (w8.heap.size + 1) [.slice (some ⟨w.heap.size, 0, none⟩) 1 1, .int .i64 5, .int .i64 2, .slice (some ⟨w8.heap.size, 0, none⟩) 10 10] 25 ∧ w.heap.size < w8.heap.size) ?_ ?_
  · have hs8 := hb8.size
    simp at hs8
    have hb7 : Below w.heap.size w (w.alloc (.cells #[.bool true, .int .i64 3] 59)) := (Below.refl _ _).alloc (Nat.le_refl _) _
    have hb9 := hb7.trans (hb8.mono (by simp))
    refine ⟨(hb9.alloc (by omega) _).alloc (by simp; omega) _, ?_, ?_, heap_new2 _ _ _, by omega⟩
    · unfold Blk
      rw [Below.heap_alloc _ _ _ (by simp; omega), Below.heap_alloc _ _ _ (by omega), hb8.block _ (by simp)]
      exact heap_new1 _ _
    · unfold Blk
      rw [Below.heap_alloc _ _ _ (by simp)]
      exact heap_new1 _ _
  rintro W1 ⟨hb1, ka1, kc1, ks1, hl1⟩
  clear hb8 hX
  have a0 : W1.cell? ⟨w8.heap.size + 1, 0, none⟩ = some (.slice (some ⟨w.heap.size, 0, none⟩) 1 1) := ks1.cell 0
  have a1 : W1.cell? ⟨w8.heap.size + 1, 0 + 1, none⟩ = some (.int .i64 5) := ks1.cell 1
  have a2 : W1.cell? ⟨w8.heap.size + 1, 0 + 1 + 1, none⟩ = some (.int .i64 2) := ks1.cell 2
  have a3 : W1.cell? ⟨w8.heap.size + 1, 0 + 1 + 1 + 1, none⟩ = some (.slice (some ⟨w8.heap.size, 0, none⟩) 10 10) := ks1.cell 3
  have har : ∀ W : World, Blk W w.heap.size [.bool true, .int .i64 3] 59 → RowB W.heap.size W 2 (some ⟨w.heap.size, 0, none⟩) [(⟨true, 3⟩ : Ar)].length fun i j => ([(⟨true, 3⟩ : Ar)].getD i default).cell j := by
    intro W hW i hi
    refine ⟨w.heap.size, 0, rfl, hW.lt, fun j hj => ?_⟩
    have hi0 : i = 0 := by simpa using hi
    subst hi0
    have hj2 : j = 0 ∨ j = 1 := by omega
    rcases hj2 with rfl | rfl
    · exact hW.cell 0
    · exact hW.cell 1
  have HAR := Lib.hid har
  clear har
  have harg : ∀ i ∈ cdC o (-1) a, 0 ≤ i.arg ∧ i.arg < 4294967296 := by
    have := HA.out
    unfold u32 at this
    intro i hi
    simp only [cdC, List.mem_cons, List.not_mem_nil, or_false] at hi
    rcases hi with rfl | rfl | rfl | rfl | rfl | rfl | rfl | rfl | rfl | rfl <;> simp <;> omega
  have HARG := Lib.hid harg
  clear harg
  have HS1 := Lib.hid (Start_any (some ⟨w.heap.size, 0, none⟩) (some ⟨w8.heap.size, 0, none⟩) 1 10 [⟨true, 3⟩] 5 2 (cdC o (-1) a) W1 (HAR.out W1 ka1) kc1.code (by simp) (by simp [cdC]) HARG.out)
  have sl1 := ks1.lt
  have HK1 := Lib.hid (And.intro hb1 (And.intro ka1 (And.intro kc1 ks1)))
  clear hb1 ka1 kc1 ks1
  go_wp2_with fail
  refine HS1.out.mono ?_
  rintro e Y1 ⟨hbY, hst⟩
  rw [if_pos (by rw [← HS.out, chkC o a HO.out HA.out])] at hst
  obtain ⟨v, rfl, hmv⟩ := hst
  obtain ⟨qa, cq, ca, cc, rfl, hg, hx⟩ := hmv Y1 (fun _ _ => rfl)
  clear hmv
  have HM1 := Lib.hid (And.intro hbY (And.intro hg hx))
  have hY1 := hbY.size
  clear hbY hg hx a0 a1 a2 a3 HS1
  simp only [zeros, List.map_nil, List.map_cons, List.length_cons, List.length_nil, List.length_replicate]
  go_upto_region 7 with (fail)
  refine wp_gen (fun W => Below W1.heap.size W1 W ∧ Blk W Y1.heap.size [.slice qa 1 cq, .slice ca 16 cc] 31 ∧ GridAt W qa [[0, 0, 0]] ∧ NumsAt W ca z16 ∧ Y1.heap.size < W.heap.size) ?_ ?_
  · have hbb : Below Y1.heap.size Y1 (Y1.alloc (.cells #[.slice qa 1 cq, .slice ca 16 cc] 31)) := (Below.refl _ _).alloc (Nat.le_refl _) _
    exact ⟨HM1.out.1.trans (hbb.mono HM1.out.1.size), heap_new1 _ _, HM1.out.2.1.below hbb, HM1.out.2.2.below hbb, by simp⟩
  rintro W2 ⟨hb2, km2, hg2, hx2, hl2⟩
  have ks2 := HK1.out.2.2.2.below hb2 sl1
  have kc2 := HK1.out.2.2.1.below hb2 (by omega)
  have ka2 := HK1.out.2.1.below hb2 (by omega)
  have a0 : W2.cell? ⟨w8.heap.size + 1, 0, none⟩ = some (.slice (some ⟨w.heap.size, 0, none⟩) 1 1) := ks2.cell 0
  have a1 : W2.cell? ⟨w8.heap.size + 1, 0 + 1, none⟩ = some (.int .i64 5) := ks2.cell 1
  have a2 : W2.cell? ⟨w8.heap.size + 1, 0 + 1 + 1, none⟩ = some (.int .i64 2) := ks2.cell 2
  have a3 : W2.cell? ⟨w8.heap.size + 1, 0 + 1 + 1 + 1, none⟩ = some (.slice (some ⟨w8.heap.size, 0, none⟩) 10 10) := ks2.cell 3
  have m0 : W2.cell? ⟨Y1.heap.size, 0, none⟩ = some (.slice qa 1 cq) := km2.cell 0
  have m1 : W2.cell? ⟨Y1.heap.size, 0 + 1, none⟩ = some (.slice ca 16 cc) := km2.cell 1
  have z32 : u32s z16 := fun x hx => by rw [List.eq_of_mem_replicate hx]; omega
  have HR1 := Lib.hid (Run_is (some ⟨w.heap.size, 0, none⟩) (some ⟨w8.heap.size, 0, none⟩) qa ca 1 10 cq cc [⟨true, 3⟩] 5 2 (cdC o (-1) a) [[0, 0, 0]] z16 b true 10 W2 (HAR.out W2 ka2) kc2.code hg2.toR hx2.row (by simp) (by simp [cdC]) HARG.out (fun a ha => by simp at ha; subst ha; simp) (fun a ha => by simp at ha; subst ha; intro x hx; simp at hx; omega) z32 HB.out)
  have HK2 := Lib.hid (HK1.out.1.trans (hb2.mono (by have := HK1.out.1.size; omega)))
  clear hb2 km2 hx2 hg2 ks2 kc2 ka2 HM1 z32 HK1
  go_wp2_with fail
  refine HR1.out.mono ?_
  rintro e Y2 ⟨hbY, hst⟩
  rw [← HS.out, runC o a b HO.out HA.out] at hst
  by_cases he : arithErr o b = 0
  rotate_left
  · rw [if_neg he] at hst
    replace hst : e = .returned (.tuple #[.agg #[.slice none 0 0, .slice none 0 0, .slice none 0 0, .int .i64 0], .int .i64 (arithErr o b)]) := hst
    subst hst
    have HAP := Lib.hid (fun W => apply_err o a b HA.out.1 HA.out.2 HB.out.1 HB.out.2 he W)
    have hd : (arithErr o b != arithErr o b) = false := by simp
    have hd2 : (arithErr o b != 0) = true := by simpa using he
    have HY := Lib.hid (HK2.out.trans (hbY.mono HK2.out.size))
    clear he a0 a1 a2 a3 m0 m1 hbY
    go_upto_region 8 with (fail)
    refine wp_gen (fun W => Below w.heap.size w W) (HY.out.alloc HY.out.size _) ?_
    intro W3 hb3
    have H3 := Lib.hid hb3
    clear hb3
    go_wp2_with fail
    refine (HAP.out W3).mono ?_
    rintro e W4 ⟨rfl, hb4⟩
    have H4 := Lib.hid (H3.out.trans (hb4.mono H3.out.size))
    clear hb4
    go_wp2_with fail
    refine (awake_true W4).mono ?_
    rintro e W5 ⟨rfl, hb5⟩
    have H5 := Lib.hid (H4.out.trans (hb5.mono H4.out.size))
    clear hb5
    go_wp2
    go_ret
    exact ⟨rfl, H5.out⟩
  rw [if_pos he] at hst
  obtain ⟨v, rfl, hv⟩ := hst
  obtain ⟨qb, cqb, cb, ccb, ob, ocb, rfl, hgb, hxb, hob⟩ := hv Y2 (fun _ _ => rfl) rfl
  have HAP := Lib.hid (fun W => apply_ok o a b HA.out.1 HA.out.2 HB.out.1 HB.out.2 he W)
  have HY := Lib.hid (And.intro (HK2.out.trans (hbY.mono HK2.out.size)) (And.intro hgb hxb))
  clear hbY hv hgb hxb hob a0 a1 a2 a3 m0 m1 he
  generalize arith o a b = r at HAP HY ⊢
  simp only [z16, List.length_nil, List.length_replicate, List.length_cons, List.length_set]
  go_upto_region 8 with (fail)
  refine wp_gen (fun W => Below w.heap.size w W ∧ Blk W Y2.heap.size [.slice qb 1 cqb, .slice cb 16 ccb, .slice ob 0 ocb, .int .i64 10] 49 ∧ GridAt W qb [[0, r, 0]] ∧ NumsAt W cb (z16.set 5 r)) ?_ ?_
  · have hbb : Below Y2.heap.size Y2 (Y2.alloc (.cells #[.slice qb 1 cqb, .slice cb 16 ccb, .slice ob 0 ocb, .int .i64 10] 49)) := (Below.refl _ _).alloc (Nat.le_refl _) _
    exact ⟨HY.out.1.trans (hbb.mono HY.out.1.size), heap_new1 _ _, HY.out.2.1.below hbb, HY.out.2.2.below hbb⟩
  rintro W3 ⟨hb3, kr3, hg3, hx3⟩
  have H3 := Lib.hid (And.intro hb3 (And.intro kr3 (And.intro hg3 hx3)))
  clear hb3 kr3 hg3 hx3 HY
  go_wp2_with fail
  refine (HAP.out W3).mono ?_
  rintro e W4 ⟨rfl, hb4⟩
  have H4 := Lib.hid (And.intro (H3.out.1.trans (hb4.mono H3.out.1.size)) (And.intro (H3.out.2.1.below hb4 H3.out.2.1.lt) (And.intro (H3.out.2.2.1.below hb4) (H3.out.2.2.2.below hb4))))
  clear hb4 H3
  go_wp2_with fail
  refine (awake_true W4).mono ?_
  rintro e W5 ⟨rfl, hb5⟩
  have hw5 := H4.out.1.trans (hb5.mono H4.out.1.size)
  have kr5 := H4.out.2.1.below hb5 H4.out.2.1.lt
  have hg5 := H4.out.2.2.1.below hb5
  have hx5 := H4.out.2.2.2.below hb5
  clear H4 hb5
  obtain ⟨q, qo, p, cap, rfl, hq0, hnn⟩ := hg5 0 (by simp)
  have hq0' : W5.cell? ⟨q, qo, none⟩ = some (.slice p 3 cap) := hq0
  have hrow : RowB W5.heap.size W5 1 p ([0, r, 0] : List Int).length (fun j _ => .int .u32 (([0, r, 0] : List Int).getD j 0)) := hnn.row
  obtain ⟨xb, xo, rfl, hxl, hx5'⟩ := hx5.row 5 (by simp [z16])
  have hxc : W5.cell? ⟨xb, xo + 5, none⟩ = some (.int .u32 r) := hx5' 0 (by omega)
  have r0 : W5.cell? ⟨Y2.heap.size, 0, none⟩ = some (.slice (some ⟨q, qo, none⟩) 1 cqb) := kr5.cell 0
  have r1 : W5.cell? ⟨Y2.heap.size, 1, none⟩ = some (.slice (some ⟨xb, xo, none⟩) 16 ccb) := kr5.cell 1
  have r3 : W5.cell? ⟨Y2.heap.size, 3, none⟩ = some (.int .i64 10) := kr5.cell 3
  have hbn : Below W5.heap.size W5 (W5.alloc (.cells #[.int .u32 0, .int .u32 r, .int .u32 0] 42)) := (Below.refl _ _).alloc (Nat.le_refl _) _
  have hnew : Blk (W5.alloc (.cells #[.int .u32 0, .int .u32 r, .int .u32 0] 42)) W5.heap.size [.int .u32 0, .int .u32 r, .int .u32 0] 42 := heap_new1 _ _
  have HSN := Lib.hid (same_nums p (some ⟨W5.heap.size, 0, none⟩) cap 3 [0, r, 0] [0, r, 0] (W5.alloc (.cells #[.int .u32 0, .int .u32 r, .int .u32 0] 42)) ((hrow.below hbn).mono hbn.size) (fun j hj => by
      refine ⟨W5.heap.size, 0, rfl, hnew.lt, fun i hi => ?_⟩
      have hi0 : i = 0 := by omega
      subst hi0
      have hj2 : j = 0 ∨ j = 1 ∨ j = 2 := by simp at hj; omega
      rcases hj2 with rfl | rfl | rfl
      · exact hnew.cell 0
      · exact hnew.cell 1
      · exact hnew.cell 2) (by simp))
  have hql : q < W5.heap.size := World.block_lt_of_cell? W5 _ hq0'
  have hyl : Y2.heap.size < W5.heap.size := kr5.lt
  have hxl' : xb < W5.heap.size := World.block_lt_of_cell? W5 _ hxc
  have hxc2 : (W5.alloc (.cells #[.int .u32 0, .int .u32 r, .int .u32 0] 42)).cell? ⟨xb, xo + 5, none⟩ = some (.int .u32 r) := by
    rw [hbn.cell hxl']; exact hxc
  have HW5 := Lib.hid hw5
  clear hq0 hnn hrow hbn hnew kr5 hg5 hw5 hx5' hx5
  go_wp2_with fail
  refine HSN.out.mono ?_
  rintro e V ⟨rfl, n, rfl⟩
  go_wp2
  go_ret
  exact ⟨rfl, drewN_below (HW5.out.alloc HW5.out.size _) n⟩
set_option maxRecDepth 100000 in
set_option maxHeartbeats 1000000 in
theorem calc_c (a0 a b : Int) (h0 : 0 ≤ a0) (h1 : a0 < 256) (ha : u32 a) (hb : u32 b) (w : World) (hA : (8 + a0 % 19 == 23) = false) (hB : (8 + a0 % 19 == 26) = true) (hS : secOf (8 + a0 % 19) = (-1)) :
    Calls Try.prog 6 #[.int .u8 a0, .int .u32 a, .int .u32 b] w fun e w' => e = .returned (.bool true) ∧ Below w.heap.size w w' := by
  have hX : Below (w.alloc (.cells #[.bool true, .int .i64 3] 59)).heap.size (w.alloc (.cells #[.bool true, .int .i64 3] 59)) (w.alloc (.cells #[.bool true, .int .i64 3] 59)) := Below.refl _ _
  have HS := Lib.hid hS
  have HA := Lib.hid ha
  have HB := Lib.hid hb
  clear hS ha hb
  go_enter Try.func6, Try.ntmps6
  go_upto_region 6 with (go_at_call 22; refine (instr_rel (w.alloc (.cells #[.bool true, .int .i64 3] 59)) _ _ _ _ _ _ (by assumption)).mono ?_; rintro e w8 ⟨rfl, hb8⟩)
  clear hA hB
  have ho : 8 ≤ 8 + a0 % 19 ∧ 8 + a0 % 19 ≤ 26 := by omega
  clear h0 h1
  generalize 8 + a0 % 19 = o at HS ho ⊢
  have HO := Lib.hid ho
  clear ho
  refine wp_gen (fun W => Below w.heap.size w W ∧ Blk W w.heap.size [.bool true, .int .i64 3] 59 ∧ Blk W w8.heap.size (riCells (cdC o (-1) a) ++ []) 61 ∧ Blk W (w8.heap.size + 1) [.slice (some ⟨w.heap.size, 0, none⟩) 1 1, .int .i64 5, .int .i64 2, .slice (some ⟨w8.heap.size, 0, none⟩) 10 10] 25 ∧ w.heap.size < w8.heap.size) ?_ ?_
  · have hs8 := hb8.size
    simp at hs8
    have hb7 : Below w.heap.size w (w.alloc (.cells #[.bool true, .int .i64 3] 59)) := (Below.refl _ _).alloc (Nat.le_refl _) _
    have hb9 := hb7.trans (hb8.mono (by simp))
    refine ⟨(hb9.alloc (by omega) _).alloc (by simp; omega) _, ?_, ?_, heap_new2 _ _ _, by omega⟩
    · unfold Blk
      rw [Below.heap_alloc _ _ _ (by simp; omega), Below.heap_alloc _ _ _ (by omega), hb8.block _ (by simp)]
      exact heap_new1 _ _
    · unfold Blk
      rw [Below.heap_alloc _ _ _ (by simp)]
      exact heap_new1 _ _
  rintro W1 ⟨hb1, ka1, kc1, ks1, hl1⟩
  clear hb8 hX
  have a0 : W1.cell? ⟨w8.heap.size + 1, 0, none⟩ = some (.slice (some ⟨w.heap.size, 0, none⟩) 1 1) := ks1.cell 0
  have a1 : W1.cell? ⟨w8.heap.size + 1, 0 + 1, none⟩ = some (.int .i64 5) := ks1.cell 1
  have a2 : W1.cell? ⟨w8.heap.size + 1, 0 + 1 + 1, none⟩ = some (.int .i64 2) := ks1.cell 2
  have a3 : W1.cell? ⟨w8.heap.size + 1, 0 + 1 + 1 + 1, none⟩ = some (.slice (some ⟨w8.heap.size, 0, none⟩) 10 10) := ks1.cell 3
  have har : ∀ W : World, Blk W w.heap.size [.bool true, .int .i64 3] 59 → RowB W.heap.size W 2 (some ⟨w.heap.size, 0, none⟩) [(⟨true, 3⟩ : Ar)].length fun i j => ([(⟨true, 3⟩ : Ar)].getD i default).cell j := by
    intro W hW i hi
    refine ⟨w.heap.size, 0, rfl, hW.lt, fun j hj => ?_⟩
    have hi0 : i = 0 := by simpa using hi
    subst hi0
    have hj2 : j = 0 ∨ j = 1 := by omega
    rcases hj2 with rfl | rfl
    · exact hW.cell 0
    · exact hW.cell 1
  have HAR := Lib.hid har
  clear har
  have harg : ∀ i ∈ cdC o (-1) a, 0 ≤ i.arg ∧ i.arg < 4294967296 := by
    have := HA.out
    unfold u32 at this
    intro i hi
    simp only [cdC, List.mem_cons, List.not_mem_nil, or_false] at hi
    rcases hi with rfl | rfl | rfl | rfl | rfl | rfl | rfl | rfl | rfl | rfl <;> simp <;> omega
  have HARG := Lib.hid harg
  clear harg
  have HS1 := Lib.hid (Start_any (some ⟨w.heap.size, 0, none⟩) (some ⟨w8.heap.size, 0, none⟩) 1 10 [⟨true, 3⟩] 5 2 (cdC o (-1) a) W1 (HAR.out W1 ka1) kc1.code (by simp) (by simp [cdC]) HARG.out)
  have sl1 := ks1.lt
  have HK1 := Lib.hid (And.intro hb1 (And.intro ka1 (And.intro kc1 ks1)))
  clear hb1 ka1 kc1 ks1
  go_wp2_with fail
  refine HS1.out.mono ?_
  rintro e Y1 ⟨hbY, hst⟩
  rw [if_pos (by rw [← HS.out, chkC o a HO.out HA.out])] at hst
  obtain ⟨v, rfl, hmv⟩ := hst
  obtain ⟨qa, cq, ca, cc, rfl, hg, hx⟩ := hmv Y1 (fun _ _ => rfl)
  clear hmv
  have HM1 := Lib.hid (And.intro hbY (And.intro hg hx))
  have hY1 := hbY.size
  clear hbY hg hx a0 a1 a2 a3 HS1
  simp only [zeros, List.map_nil, List.map_cons, List.length_cons, List.length_nil, List.length_replicate]
  go_upto_region 7 with (fail)
  refine wp_gen (fun W => Below W1.heap.size W1 W ∧ Blk W Y1.heap.size [.slice qa 1 cq, .slice ca 16 cc] 31 ∧ GridAt W qa [[0, 0, 0]] ∧ NumsAt W ca z16 ∧ Y1.heap.size < W.heap.size) ?_ ?_
  · have hbb : Below Y1.heap.size Y1 (Y1.alloc (.cells #[.slice qa 1 cq, .slice ca 16 cc] 31)) := (Below.refl _ _).alloc (Nat.le_refl _) _
    exact ⟨HM1.out.1.trans (hbb.mono HM1.out.1.size), heap_new1 _ _, HM1.out.2.1.below hbb, HM1.out.2.2.below hbb, by simp⟩
  rintro W2 ⟨hb2, km2, hg2, hx2, hl2⟩
  have ks2 := HK1.out.2.2.2.below hb2 sl1
  have kc2 := HK1.out.2.2.1.below hb2 (by omega)
  have ka2 := HK1.out.2.1.below hb2 (by omega)
  have a0 : W2.cell? ⟨w8.heap.size + 1, 0, none⟩ = some (.slice (some ⟨w.heap.size, 0, none⟩) 1 1) := ks2.cell 0
  have a1 : W2.cell? ⟨w8.heap.size + 1, 0 + 1, none⟩ = some (.int .i64 5) := ks2.cell 1
  have a2 : W2.cell? ⟨w8.heap.size + 1, 0 + 1 + 1, none⟩ = some (.int .i64 2) := ks2.cell 2
  have a3 : W2.cell? ⟨w8.heap.size + 1, 0 + 1 + 1 + 1, none⟩ = some (.slice (some ⟨w8.heap.size, 0, none⟩) 10 10) := ks2.cell 3
  have m0 : W2.cell? ⟨Y1.heap.size, 0, none⟩ = some (.slice qa 1 cq) := km2.cell 0
  have m1 : W2.cell? ⟨Y1.heap.size, 0 + 1, none⟩ = some (.slice ca 16 cc) := km2.cell 1
  have z32 : u32s z16 := fun x hx => by rw [List.eq_of_mem_replicate hx]; omega
  have HR1 := Lib.hid (Run_is (some ⟨w.heap.size, 0, none⟩) (some ⟨w8.heap.size, 0, none⟩) qa ca 1 10 cq cc [⟨true, 3⟩] 5 2 (cdC o (-1) a) [[0, 0, 0]] z16 b true 10 W2 (HAR.out W2 ka2) kc2.code hg2.toR hx2.row (by simp) (by simp [cdC]) HARG.out (fun a ha => by simp at ha; subst ha; simp) (fun a ha => by simp at ha; subst ha; intro x hx; simp at hx; omega) z32 HB.out)
  have HK2 := Lib.hid (HK1.out.1.trans (hb2.mono (by have := HK1.out.1.size; omega)))
  clear hb2 km2 hx2 hg2 ks2 kc2 ka2 HM1 z32 HK1
  go_wp2_with fail
  refine HR1.out.mono ?_
  rintro e Y2 ⟨hbY, hst⟩
  rw [← HS.out, runC o a b HO.out HA.out] at hst
  by_cases he : arithErr o b = 0
  rotate_left
  · rw [if_neg he] at hst
    replace hst : e = .returned (.tuple #[.agg #[.slice none 0 0, .slice none 0 0, .slice none 0 0, .int .i64 0], .int .i64 (arithErr o b)]) := hst
    subst hst
    have HAP := Lib.hid (fun W => apply_err o a b HA.out.1 HA.out.2 HB.out.1 HB.out.2 he W)
    have hd : (arithErr o b != arithErr o b) = false := by simp
    have hd2 : (arithErr o b != 0) = true := by simpa using he
    have HY := Lib.hid (HK2.out.trans (hbY.mono HK2.out.size))
    clear he a0 a1 a2 a3 m0 m1 hbY
    go_upto_region 8 with (fail)
    refine wp_gen (fun W => Below w.heap.size w W) (HY.out.alloc HY.out.size _) ?_
    intro W3 hb3
    have H3 := Lib.hid hb3
    clear hb3
    go_wp2_with fail
    refine (HAP.out W3).mono ?_
    rintro e W4 ⟨rfl, hb4⟩
    have H4 := Lib.hid (H3.out.trans (hb4.mono H3.out.size))
    clear hb4
    go_wp2_with fail
    refine (awake_true W4).mono ?_
    rintro e W5 ⟨rfl, hb5⟩
    have H5 := Lib.hid (H4.out.trans (hb5.mono H4.out.size))
    clear hb5
    go_wp2
    go_ret
    exact ⟨rfl, H5.out⟩
  rw [if_pos he] at hst
  obtain ⟨v, rfl, hv⟩ := hst
  obtain ⟨qb, cqb, cb, ccb, ob, ocb, rfl, hgb, hxb, hob⟩ := hv Y2 (fun _ _ => rfl) rfl
  have HAP := Lib.hid (fun W => apply_ok o a b HA.out.1 HA.out.2 HB.out.1 HB.out.2 he W)
  have HY := Lib.hid (And.intro (HK2.out.trans (hbY.mono HK2.out.size)) (And.intro hgb hxb))
  clear hbY hv hgb hxb hob a0 a1 a2 a3 m0 m1 he
  generalize arith o a b = r at HAP HY ⊢
  simp only [z16, List.length_nil, List.length_replicate, List.length_cons, List.length_set]
  go_upto_region 8 with (fail)
  refine wp_gen (fun W => Below w.heap.size w W ∧ Blk W Y2.heap.size [.slice qb 1 cqb, .slice cb 16 ccb, .slice ob 0 ocb, .int .i64 10] 49 ∧ GridAt W qb [[0, r, 0]] ∧ NumsAt W cb (z16.set 5 r)) ?_ ?_
  · have hbb : Below Y2.heap.size Y2 (Y2.alloc (.cells #[.slice qb 1 cqb, .slice cb 16 ccb, .slice ob 0 ocb, .int .i64 10] 49)) := (Below.refl _ _).alloc (Nat.le_refl _) _
    exact ⟨HY.out.1.trans (hbb.mono HY.out.1.size), heap_new1 _ _, HY.out.2.1.below hbb, HY.out.2.2.below hbb⟩
  rintro W3 ⟨hb3, kr3, hg3, hx3⟩
  have H3 := Lib.hid (And.intro hb3 (And.intro kr3 (And.intro hg3 hx3)))
  clear hb3 kr3 hg3 hx3 HY
  go_wp2_with fail
  refine (HAP.out W3).mono ?_
  rintro e W4 ⟨rfl, hb4⟩
  have H4 := Lib.hid (And.intro (H3.out.1.trans (hb4.mono H3.out.1.size)) (And.intro (H3.out.2.1.below hb4 H3.out.2.1.lt) (And.intro (H3.out.2.2.1.below hb4) (H3.out.2.2.2.below hb4))))
  clear hb4 H3
  go_wp2_with fail
  refine (awake_true W4).mono ?_
  rintro e W5 ⟨rfl, hb5⟩
  have hw5 := H4.out.1.trans (hb5.mono H4.out.1.size)
  have kr5 := H4.out.2.1.below hb5 H4.out.2.1.lt
  have hg5 := H4.out.2.2.1.below hb5
  have hx5 := H4.out.2.2.2.below hb5
  clear H4 hb5
  obtain ⟨q, qo, p, cap, rfl, hq0, hnn⟩ := hg5 0 (by simp)
  have hq0' : W5.cell? ⟨q, qo, none⟩ = some (.slice p 3 cap) := hq0
  have hrow : RowB W5.heap.size W5 1 p ([0, r, 0] : List Int).length (fun j _ => .int .u32 (([0, r, 0] : List Int).getD j 0)) := hnn.row
  obtain ⟨xb, xo, rfl, hxl, hx5'⟩ := hx5.row 5 (by simp [z16])
  have hxc : W5.cell? ⟨xb, xo + 5, none⟩ = some (.int .u32 r) := hx5' 0 (by omega)
  have r0 : W5.cell? ⟨Y2.heap.size, 0, none⟩ = some (.slice (some ⟨q, qo, none⟩) 1 cqb) := kr5.cell 0
  have r1 : W5.cell? ⟨Y2.heap.size, 1, none⟩ = some (.slice (some ⟨xb, xo, none⟩) 16 ccb) := kr5.cell 1
  have r3 : W5.cell? ⟨Y2.heap.size, 3, none⟩ = some (.int .i64 10) := kr5.cell 3
  have hbn : Below W5.heap.size W5 (W5.alloc (.cells #[.int .u32 0, .int .u32 r, .int .u32 0] 42)) := (Below.refl _ _).alloc (Nat.le_refl _) _
  have hnew : Blk (W5.alloc (.cells #[.int .u32 0, .int .u32 r, .int .u32 0] 42)) W5.heap.size [.int .u32 0, .int .u32 r, .int .u32 0] 42 := heap_new1 _ _
  have HSN := Lib.hid (same_nums p (some ⟨W5.heap.size, 0, none⟩) cap 3 [0, r, 0] [0, r, 0] (W5.alloc (.cells #[.int .u32 0, .int .u32 r, .int .u32 0] 42)) ((hrow.below hbn).mono hbn.size) (fun j hj => by
      refine ⟨W5.heap.size, 0, rfl, hnew.lt, fun i hi => ?_⟩
      have hi0 : i = 0 := by omega
      subst hi0
      have hj2 : j = 0 ∨ j = 1 ∨ j = 2 := by simp at hj; omega
      rcases hj2 with rfl | rfl | rfl
      · exact hnew.cell 0
      · exact hnew.cell 1
      · exact hnew.cell 2) (by simp))
  have hql : q < W5.heap.size := World.block_lt_of_cell? W5 _ hq0'
  have hyl : Y2.heap.size < W5.heap.size := kr5.lt
  have hxl' : xb < W5.heap.size := World.block_lt_of_cell? W5 _ hxc
  have hxc2 : (W5.alloc (.cells #[.int .u32 0, .int .u32 r, .int .u32 0] 42)).cell? ⟨xb, xo + 5, none⟩ = some (.int .u32 r) := by
    rw [hbn.cell hxl']; exact hxc
  have HW5 := Lib.hid hw5
  clear hq0 hnn hrow hbn hnew kr5 hg5 hw5 hx5' hx5
  go_wp2_with fail
  refine HSN.out.mono ?_
  rintro e V ⟨rfl, n, rfl⟩
  go_wp2
  go_ret
  exact ⟨rfl, drewN_below (HW5.out.alloc HW5.out.size _) n⟩
end Go.Proofs.Ytefdnjhhaejgbaa

namespace Go.Proofs.Ytefdnjhhaejgbaa
open Go.ChangeShapes Go.WideShapes Go.ChangeAt Go.RowKit
set_option linter.unusedVariables false

theorem row_below {H : Type} {enc : TypeId × Value → H} {P : Program} {f : Func} {s : ChangeSpec} {apart fresh handsOn again : Bool} {W W' : World} {args : Array Value} {v : Value} {ds gs : List (DataW H)} {before pa pv : List MemPlace}
    (hW : DataW.Whole enc P f.params.toList s.vars apart W args.toList ds gs before)
    (hres : ∀ (b : Nat) (sp : Nat → Bool) (hd : Bool), DataW.TrodAll enc P W' b sp hd f.resultTypes.toList (v.resultList f.resultTypes.size) (s.fn H (ds ++ gs)).results [])
    (hargs : ∀ sp : Nat → Bool, (∀ p ∈ before, sp p.block = true) → DataW.TrodAll enc P W' 0 sp true f.params.toList args.toList (s.fn H (ds ++ gs)).args pa)
    (hvars : ∀ sp : Nat → Bool, (∀ p ∈ before, sp p.block = true) → DataW.TrodVars enc P W' sp s.vars (s.fn H (ds ++ gs)).vars pv)
    (hps : before = pa ++ pv) (hb : Below W.heap.size W W')
    (hok : ∀ (j : Nat) (t : TypeId) (r : Value), f.resultTypes[j]? = some t → (v.resultList f.resultTypes.size)[j]? = some r → Value.okWide P W' .any 0 t r) :
    s.post enc P f apart fresh handsOn again W args v W' := by
  have hlt := hW.lt
  have hold : ∀ p ∈ before, (fun b => decide (b < W.heap.size)) p.block = true := fun p hp => by simpa using hlt p hp
  refine ⟨ds, gs, before, [], pa, pv, hW, hres _ _ _, hargs _ hold, hvars _ hold, hb.frame _, fun _ => ⟨hok, _, _, ([] ++ pa) ++ pv, ⟨[] ++ pa, pv, trodAll_append (hargs _ (fun _ _ => rfl)) (hres _ _ _), hvars _ (fun _ _ => rfl), rfl, fun b off hp => ?_, fun ha => ?_⟩, fun p hp _ => by rw [hps]; simpa using hp⟩⟩
  · obtain ⟨_, _, _, _, _, hz, _⟩ := hW
    have hm : MemPlace.cell b off ∈ before := by rw [hps]; simpa using hp
    rw [hb.frozen (hlt _ hm)]
    exact hz b off hm
  · obtain ⟨_, _, _, _, _, _, hn⟩ := hW
    have := hn ha
    rw [hps] at this
    simpa using this
end Go.Proofs.Ytefdnjhhaejgbaa
