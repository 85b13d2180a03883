/- A part of the proof of MachineFeeds: Ri. No condition. -/
import Derived.Test.YtefdnjhhaejgbaaGf27
import Derived.Test.YtefdnjhhaejgbaaGf26
set_option linter.unusedSimpArgs false
set_option linter.unusedVariables false
namespace Go.Proofs.Ytefdnjhhaejgbaa
open Go.RowKit
set_option linter.unusedVariables false
theorem T.run_off {c : MC} {s : PS} {t : T} (hn : t ≠ .nil) (h : ¬ s.steps < c.fuel) : t.run c s = .err 19 := by
  cases t with
  | nil => exact absurd rfl hn
  | plain i r => rw [T.run, tick, if_neg h]
  | ite i a j r => rw [T.run, tick, if_neg h]
  | ite2 i a x b j r => rw [T.run, tick, if_neg h]
  | loop i a j r => rw [T.run, tick, if_neg h]
theorem T.run_plain {c : MC} {s s2 : PS} {i : RI} {r : T} (h : tick c s = .ok s2) : (T.plain i r).run c s = if i.op = 30 then (if s2.get i.a = 0 then r.run c s2 else .left s2) else (match effect c s2 i with
    | .error e => .err e
    | .ok s3 => r.run c s3) := by
  rw [T.run, h]; rfl
theorem T.run_ite {c : MC} {s s2 : PS} {i j : RI} {a r : T} (h : tick c s = .ok s2) : (T.ite i a j r).run c s = (match (if s2.get i.a = 0 then .ok s2 else a.run c s2) with
    | .ok s3 => r.run c s3
    | .left s3 => .left s3
    | .err e => .err e) := by
  rw [T.run, h]; rfl
theorem T.run_ite2 {c : MC} {s s2 : PS} {i x j : RI} {a b r : T} (h : tick c s = .ok s2) : (T.ite2 i a x b j r).run c s = (match (if s2.get i.a = 0 then b.run c s2 else a.run c s2) with
    | .ok s3 => r.run c s3
    | .left s3 => .left s3
    | .err e => .err e) := by
  rw [T.run, h]; rfl
theorem T.run_loop {c : MC} {s s2 : PS} {i j : RI} {a r : T} (h : tick c s = .ok s2) : (T.loop i a j r).run c s = (match (if i.arg < s2.get i.a then .err 18 else loopRun c (fun s => a.run c s) (s2.get i.a).toNat s2) with
    | .ok s3 => r.run c s3
    | .left s3 => .left s3
    | .err e => .err e) := by
  rw [T.run, h]
  simp only
  split
  · rfl
  · rfl
theorem ExecAt.at {B : Nat} {L : Lay} {c : MC} {rp : List Int} {t : T} {k q : Nat} (h : ExecAt B L c rp t (k + 1)) (hq : q = k + 1 + t.size) : ∀ (s : PS) (τ : Nat → Nat) (ov : Value) (w : World), RRep B L c rp s 0 τ ov w → Fine c s →
    Calls Try.prog 56 #[.pointer (some ⟨L.mb, 0, none⟩), .int .i64 ((k : Int) + 1), .int .i64 (q : Int)] w fun e w' => ∃ lf, e = .returned (.bool lf) ∧ OutPost B L c rp τ w (t.run c s) lf w' := fun s τ ov w r f => by
  subst hq
  exact h s τ ov w r f
def ExRel (B : Nat) (L : Lay) (c : MC) (rp : List Int) (hi : Nat) (res : Out) (τ0 : Nat → Nat) (w : World) (v : Value) (wr : World) : Prop :=
  ∃ (k : Nat) (s : PS) (er : Int) (τ : Nat → Nat) (ov : Value), v = .int .i64 (k : Int) ∧ RRep B L c rp s er τ ov wr ∧ Keep B τ0 τ w wr ∧
    ((er = 0 ∧ Fine c s ∧ ∃ (r : T) (e : Nat) (wi : Bool) (d : Nat), k + r.size = hi ∧ BdAt c.cd c.pt k e r ∧ r.wf wi d ∧ r.run c s = res) ∨ (er ≠ 0 ∧ res = .err er))
theorem ExRel.err {B : Nat} {L : Lay} {c : MC} {rp : List Int} {hi : Nat} {res : Out} {τ0 : Nat → Nat} {w : World} {k : Nat} {x er : Int} {s : PS} {wr : World} (hx : x = (k : Int)) (h : RSt B L c rp τ0 w s er wr) (he : er ≠ 0) (hr : res = .err er) :
    ExRel B L c rp hi res τ0 w (.int .i64 x) wr := by
  obtain ⟨τ, ov, R, K⟩ := h
  subst hx
  exact ⟨k, s, er, τ, ov, rfl, R, K, .inr ⟨he, hr⟩⟩
theorem ExRel.ok {B : Nat} {L : Lay} {c : MC} {rp : List Int} {hi : Nat} {res : Out} {τ0 : Nat → Nat} {w : World} {k : Nat} {x : Int} {s : PS} {wr : World} {r : T} {e : Nat} {wi : Bool} {d : Nat} (hx : x = (k : Int)) (h : RSt B L c rp τ0 w s 0 wr) (hF : Fine c s) (h1 : k + r.size = hi) (h2 : BdAt c.cd c.pt k e r) (h3 : r.wf wi d) (hr : r.run c s = res) :
    ExRel B L c rp hi res τ0 w (.int .i64 x) wr := by
  obtain ⟨τ, ov, R, K⟩ := h
  subst hx
  exact ⟨k, s, 0, τ, ov, rfl, R, K, .inl ⟨rfl, hF, r, e, wi, d, h1, h2, h3, hr⟩⟩
def ExecIs (n : Nat) (B : Nat) (L : Lay) (c : MC) (rp : List Int) : Prop := ∀ (t : T) (k e : Nat) (wi : Bool) (d : Nat), t.size < n → k + t.size ≤ c.cd.length → BdAt c.cd c.pt k e t → t.wf wi d → ExecAt B L c rp t k
structure ExW (B : Nat) (L : Lay) (c : MC) (rp : List Int) (s : PS) (τ0 τ : Nat → Nat) (ov : Value) (w : World) (b : Nat) (i : RI) (X : World) : Prop where
  rep : RRep B L c rp s 0 τ ov X
  keep : Keep B τ0 τ w X
  box : Blk X b i.cells 61
  tag : 1000 ≤ τ b
theorem ExW.next {B : Nat} {L : Lay} {c : MC} {rp : List Int} {s s' : PS} {τ0 τ : Nat → Nat} {ov : Value} {w : World} {b : Nat} {i : RI} {X Y : World} {er : Int} (h : ExW B L c rp s τ0 τ ov w b i X) (hY : RSt B L c rp τ X s' er Y) : RSt B L c rp τ0 w s' er Y := hY.from h.keep
set_option maxRecDepth 100000 in
set_option maxHeartbeats 1000000 in
theorem execute_at (B : Nat) (L : Lay) (c : MC) (rp : List Int) (hci : ∀ i ∈ c.cd, chkI c.regs c.spills c.ars.length i = 0) (harg : ∀ i ∈ c.cd, u32 i.arg) (hag : AgreeL c.cd rp c.pt) : ∀ n, ExecIs n B L c rp := by
  intro n
  induction n with
  | zero => intro t k e wi d h; omega
  | succ n ih =>
    intro t k0 e0 wi0 d0 htn hkn hbd0 hwf0 s0 τ0 ov0 w R0 F0
    have HI := Lib.hid ih
    have HCI := Lib.hid (And.intro hci harg)
    have HAG := Lib.hid hag
    obtain ⟨res, hres⟩ : ∃ res, t.run c s0 = res := ⟨_, rfl⟩
    rw [hres]
    have hkl := F0.clen
    obtain ⟨hi, hhi⟩ : ∃ hi, k0 + t.size = hi := ⟨_, rfl⟩
    have htn' : ∀ r : T, ∀ k', k0 ≤ k' → k' + r.size = hi → r.size ≤ t.size := fun r k' h1 h2 => by omega
    have HST := Lib.hid (show ExRel B L c rp hi res τ0 w (.int .i64 (k0 : Int)) w from ⟨k0, s0, 0, τ0, ov0, rfl, R0, Keep.refl _ _ _, .inl ⟨rfl, F0, t, e0, wi0, d0, hhi, hbd0, hwf0, hres⟩⟩)
    have hlm := R0.mac.lt
    rw [hhi] at hkn ⊢
    clear ih hci harg hag hbd0 hwf0 hres R0 F0
    go_enter Try.func56, Try.ntmps56
    go_wp2_with fail
    go_loopw [7] (fun v wr => ExRel B L c rp hi res τ0 w v wr ∧ (k0 : Int) ≤ intOf v) (fun v _ => hi - (intOf v).toNat)
    case atStart => exact ⟨HST.out, by simp [intOf]⟩
    case round =>
      obtain ⟨⟨k, s, er, τ, ov, rfl, R, K, hcase⟩, hkk⟩ := hrel
      have hkk' : k0 ≤ k := by simp [intOf] at hkk; omega
      have c14 : wr.cell? ⟨L.mb, 14, none⟩ = some (.int .i64 er) := R.mac.cell 14
      have lm := R.mac.lt
      have HK := Lib.hid K
      clear HST hkk K
      rcases hcase with ⟨rfl, F, r, e, wi, d, hsz, hbd, hwf, hrun⟩ | ⟨hne, hre⟩
      · by_cases hnil : r = .nil
        · subst hnil
          simp only [T.size, Nat.add_zero] at hsz
          subst hsz
          have hrun' : Out.ok s = res := hrun
          have HX := Lib.hid (show OutPost B L c rp τ0 w res false wr by rw [← hrun']; exact ⟨rfl, F, τ, ov, R, HK.out⟩)
          clear hrun hrun' R F hbd hwf
          go_wp2
          go_ret
          exact ⟨false, rfl, HX.out⟩
        · have hlt : k < hi := by
            cases r with
            | nil => exact absurd rfl hnil
            | plain i r => simp only [T.size] at hsz; omega
            | ite i a j r => simp only [T.size] at hsz; omega
            | ite2 i a x b j r => simp only [T.size] at hsz; omega
            | loop i a j r => simp only [T.size] at hsz; omega
          have hkc : k < c.cd.length := by omega
          have hkI : (0 : Int) ≤ (k : Int) ∧ (k : Int) < (c.cd.length : Int) ∧ (k : Int) < (hi : Int) := by omega
          have hrs := htn' r k hkk' hsz
          obtain ⟨i, hii⟩ : ∃ i, c.cd.getD k default = i := ⟨_, rfl⟩
          obtain ⟨b, off, hA, hb, hcells⟩ := R.ro.code k hkc
          simp only [hii] at hcells
          have him : i ∈ c.cd := by rw [← hii, List.getD_eq_getElem?_getD, List.getElem?_eq_getElem hkc]; exact List.getElem_mem hkc
          have hik := HCI.out.1 i him
          have hia := HCI.out.2 i him
          have hbw : b < wr.heap.size := Nat.lt_of_lt_of_le hb R.hB
          obtain ⟨op, to, ra, rb, arg⟩ := i
          have c3 : wr.cell? ⟨L.mb, 3, none⟩ = some (.slice (some ⟨b, off, none⟩) c.cd.length L.codeC) := by rw [← hA]; exact R.mac.cell 3
          have k0' : wr.cell? ⟨b, off + k * 5, none⟩ = some (.int .i64 op) := hcells 0 (by omega)
          have k1' : wr.cell? ⟨b, off + k * 5 + 1, none⟩ = some (.int .i64 to) := hcells 1 (by omega)
          have k2' : wr.cell? ⟨b, off + k * 5 + 1 + 1, none⟩ = some (.int .i64 ra) := hcells 2 (by omega)
          have k3' : wr.cell? ⟨b, off + k * 5 + 1 + 1 + 1, none⟩ = some (.int .i64 rb) := hcells 3 (by omega)
          have k4' : wr.cell? ⟨b, off + k * 5 + 1 + 1 + 1 + 1, none⟩ = some (.int .u32 arg) := hcells 4 (by omega)
          have HR := Lib.hid R
          have HF := Lib.hid F
          have HII := Lib.hid (And.intro hik (And.intro hia hii))
          have HRUN := Lib.hid (And.intro hrun hnil)
          have HBD := Lib.hid (And.intro hbd hwf)
          clear hcells R F hik hia hii hrun hbd hwf hnil him
          go_upto_region 5 with (fail)
          refine wp_gen (fun W => Below wr.heap.size wr W ∧ Blk W wr.heap.size [.int .i64 op, .int .i64 to, .int .i64 ra, .int .i64 rb, .int .u32 arg] 61) ?_ ?_
          · exact ⟨(Below.refl _ _).alloc (Nat.le_refl _) _, heap_new1 _ _⟩
          rintro W ⟨hbW, kbW⟩
          have RW := HR.out.retag.below hbW
          have KW : Keep B (retag τ wr.heap.size) (retag τ wr.heap.size) wr W := Keep.below hbW HR.out.hB
          have HC := Lib.hid (rstep_any B L c rp s (retag τ wr.heap.size) ov W RW HF.out.st0 HF.out.fu)
          have HKW := Lib.hid (And.intro KW kbW)
          clear hbW kbW RW KW c14 c3 k0' k1' k2' k3' k4' hA
          go_wp2_with fail
          refine HC.out.mono ?_
          rintro e' X ⟨rfl, hX⟩
          clear HC
          by_cases hst : s.steps < c.fuel
          · obtain ⟨s2, hs2⟩ : ∃ s2, { s with steps := s.steps + 1 } = s2 := ⟨_, rfl⟩
            have htick : tick c s = .ok s2 := by unfold tick; rw [if_pos hst, hs2]
            have F2 : Fine c s2 := by rw [← hs2]; exact HF.out.tick hst
            rw [show tickPost c s = (s2, 0) by unfold tickPost; rw [htick]] at hX
            obtain ⟨τ1, ov1, R1, K1⟩ := hX
            have PX : ExW B L c rp s2 τ0 τ1 ov1 w wr.heap.size ⟨op, to, ra, rb, arg⟩ X :=
              ⟨R1, HK.out.trans (HKW.out.1.trans K1).retag, K1.blk HKW.out.2 (by rw [retag_ge (Nat.le_refl _)]; omega), by rw [(K1.2 _ HKW.out.2.lt (by rw [retag_ge (Nat.le_refl _)]; omega)).1, retag_ge (Nat.le_refl _)]; omega⟩
            have c14 : X.cell? ⟨L.mb, 14, none⟩ = some (.int .i64 0) := R1.mac.cell 14
            have lm : L.mb < X.heap.size := R1.mac.lt
            have b0 : X.cell? ⟨wr.heap.size, 0, none⟩ = some (.int .i64 op) := PX.box.cell 0
            have lb : wr.heap.size < X.heap.size := PX.box.lt
            obtain ⟨k1, k2, k3, k4, k5⟩ := chkI_ok HII.out.1
            have hra : ra < 0 ∨ ra < c.regs := right_any k3
            have hra2 : ra < 0 ∨ ra < s2.regs.length := by rw [F2.regs]; exact hra
            have HRDX := Lib.hid (rread_any B L c rp s2 0 τ1 ov1 X R1 ra hra2)
            have hug := F2.got ra
            obtain ⟨xa, hxa⟩ : ∃ xa, s2.get ra = xa := ⟨_, rfl⟩
            rw [hxa] at hug
            have hxa0 : 0 ≤ xa ∧ xa < 4294967296 := hug
            have HXA := Lib.hid hxa
            have HF2 := Lib.hid F2
            have HPX := Lib.hid PX
            have HT := Lib.hid htick
            have HMX := Lib.hid (show RbMem B X L.codeA L.ptA c.cd c.pt rp from ⟨R1.ro.code, R1.ro.pt, HAG.out⟩)
            have hBX := R1.hB
            clear hs2 htick F2 R1 K1 PX k1 k2 k3 k4 k5 hra2 hug hxa
            cases r with
            | nil => exact absurd rfl HRUN.out.2
            | plain i r =>
              have hii : i = ⟨op, to, ra, rb, arg⟩ := by rw [← HBD.out.1.cd.head]; exact HII.out.2.2
              subst hii
              have hrun := HRUN.out.1
              rw [T.run_plain HT.out] at hrun
              simp only [HXA.out] at hrun
              have hw := HBD.out.2
              have hsz' : (k + 1) + r.size = hi := by simp only [T.size] at hsz; omega
              have q27 : (op == 27) = false := by simpa using hw.1.1
              have q29 : (op == 29) = false := by simpa using hw.1.2.2.1
              have HREL := Lib.hid (show ∀ s3 Y, Fine c s3 → RSt B L c rp τ0 w s3 0 Y → r.run c s3 = res → ExRel B L c rp hi res τ0 w (.int .i64 ((k : Int) + 1)) Y from fun s3 Y F3 h3 hr3 => ExRel.ok (k := k + 1) (x := (k : Int) + 1) (by simp) h3 F3 hsz' HBD.out.1.plainR hw.2.2 hr3)
              by_cases h30 : op = 30
              · subst h30
                rw [if_pos rfl] at hrun
                have b2 : X.cell? ⟨wr.heap.size, 2, none⟩ = some (.int .i64 ra) := HPX.out.box.cell 2
                by_cases hz : xa = 0
                · have qz : (xa == 0) = true := by simpa using hz
                  rw [if_pos hz] at hrun
                  have HX := Lib.hid (HREL.out s2 X HF2.out ⟨τ1, ov1, HPX.out.rep, HPX.out.keep⟩ hrun)
                  clear hrun hw hrs hsz hsz'
                  go_wp2_with fail
                  refine HRDX.out.mono ?_
                  rintro e' Y ⟨rfl, rfl⟩
                  rw [HXA.out]
                  go_wp2
                  go_roundw
                  case rel => exact ⟨HX.out, by simp [intOf]; omega⟩
                  case measure => simp [intOf]; omega
                · have qz : (xa == 0) = false := by simpa using hz
                  rw [if_neg hz] at hrun
                  have HX := Lib.hid (show OutPost B L c rp τ0 w res true X by rw [← hrun]; exact ⟨rfl, HF2.out, τ1, ov1, HPX.out.rep, HPX.out.keep⟩)
                  clear hrun hw hrs hsz hsz'
                  go_wp2_with fail
                  refine HRDX.out.mono ?_
                  rintro e' Y ⟨rfl, rfl⟩
                  rw [HXA.out]
                  go_wp2
                  go_ret
                  exact ⟨true, rfl, HX.out⟩
              · rw [if_neg h30] at hrun
                have q30 : (op == 30) = false := by simpa using h30
                have b1 : X.cell? ⟨wr.heap.size, 0 + 1, none⟩ = some (.int .i64 to) := HPX.out.box.cell 1
                have b2 : X.cell? ⟨wr.heap.size, 0 + 1 + 1, none⟩ = some (.int .i64 ra) := HPX.out.box.cell 2
                have b3 : X.cell? ⟨wr.heap.size, 0 + 1 + 1 + 1, none⟩ = some (.int .i64 rb) := HPX.out.box.cell 3
                have b4 : X.cell? ⟨wr.heap.size, 0 + 1 + 1 + 1 + 1, none⟩ = some (.int .u32 arg) := HPX.out.box.cell 4
                have HP := Lib.hid (rplain_any B L c rp s2 τ1 ov1 X HPX.out.rep HF2.out ⟨op, to, ra, rb, arg⟩ HII.out.1 HII.out.2.1 ⟨hw.1.1, hw.1.2.1, hw.1.2.2.1, h30, hw.1.2.2.2⟩)
                have HFE := Lib.hid (fun s3 (he : effect c s2 ⟨op, to, ra, rb, arg⟩ = .ok s3) => (eff_fine (i := ⟨op, to, ra, rb, arg⟩) HF2.out HII.out.2.1 ⟨hw.1.1, hw.1.2.1, hw.1.2.2.1, h30, hw.1.2.2.2⟩ he).1)
                have HRUN2 := Lib.hid hrun
                clear hrun hw hrs hsz hsz'
                go_wp2_with fail
                refine HP.out.mono ?_
                rintro e' Y ⟨rfl, hY⟩
                clear b0 b1 b2 b3 b4 c14 lb lm
                have hrun := HRUN2.out
                have HX : Hid (ExRel B L c rp hi res τ0 w (.int .i64 ((k : Int) + 1)) Y) := by
                  refine Lib.hid ?_
                  cases he : effect c s2 ⟨op, to, ra, rb, arg⟩ with
                  | error x =>
                    rw [show effPost c s2 ⟨op, to, ra, rb, arg⟩ = (s2, x) by unfold effPost; rw [he]] at hY
                    rw [he] at hrun
                    exact ExRel.err (k := k + 1) (x := (k : Int) + 1) (by simp) (HPX.out.next hY) (effect_errnz he) hrun.symm
                  | ok s3 =>
                    rw [show effPost c s2 ⟨op, to, ra, rb, arg⟩ = (s3, 0) by unfold effPost; rw [he]] at hY
                    rw [he] at hrun
                    exact HREL.out s3 Y (HFE.out s3 he) (HPX.out.next hY) hrun
                clear hrun hY
                go_wp2
                go_roundw
                case rel => exact ⟨HX.out, by simp [intOf]; omega⟩
                case measure => simp [intOf]; omega
            | ite i a j r =>
              have hii : i = ⟨op, to, ra, rb, arg⟩ := by rw [← HBD.out.1.cd.head]; exact HII.out.2.2
              subst hii
              have hrun := HRUN.out.1
              rw [T.run_ite HT.out] at hrun
              simp only [HXA.out] at hrun
              have hw := HBD.out.2
              have hsz' : k + (a.size + r.size + 2) = hi := hsz
              obtain ⟨hba', hbr, hpk, hcj⟩ := HBD.out.1.iteA
              obtain ⟨q, hq⟩ : ∃ q, q = k + 1 + a.size := ⟨_, rfl⟩
              have hqe : k + a.size + 1 = q := by omega
              rw [hqe] at hpk hcj
              obtain ⟨b', off', hA', hb', _, _⟩ := HMX.out.ins hkc rfl
              obtain ⟨b2, off2, hA2, hb2, p0⟩ := HMX.out.ptc hkc hpk (.inl (by rw [HII.out.2.2]; exact hw.1))
              have hqn : q < c.cd.length := by omega
              obtain ⟨b3, off3, hb3, _, j0, _⟩ := HMX.out.ins hqn hcj
              rw [hA'] at hb3
              simp only [Option.some.injEq, Addr.mk.injEq] at hb3
              obtain ⟨rfl, rfl, _⟩ := hb3
              have c3 : X.cell? ⟨L.mb, 3, none⟩ = some (.slice (some ⟨b', off', none⟩) c.cd.length L.codeC) := by rw [← hA']; exact HPX.out.rep.mac.cell 3
              have c4 : X.cell? ⟨L.mb, 4, none⟩ = some (.slice (some ⟨b2, off2, none⟩) c.cd.length L.ptC) := by rw [← hA2]; exact HPX.out.rep.mac.cell 4
              have b2c : X.cell? ⟨wr.heap.size, 2, none⟩ = some (.int .i64 ra) := HPX.out.box.cell 2
              have hbw' : b' < X.heap.size := Nat.lt_of_lt_of_le hb' hBX
              have hbw2 : b2 < X.heap.size := Nat.lt_of_lt_of_le hb2 hBX
              have hqI : (0 : Int) ≤ (q : Int) ∧ (q : Int) < (c.cd.length : Int) := by omega
              have q27 : (op == 27) = true := by simpa using hw.1
              have q28 : (j.op == 28) = false := by rw [hw.2.1]; rfl
              have HCA := Lib.hid (ExecAt.at (HI.out a (k + 1) e wi _ (by simp only [T.size] at hrs; omega) (by omega) hba' hw.2.2.2.1) hq s2 τ1 ov1 X HPX.out.rep HF2.out)
              have hkq : k < q ∧ q < hi := by omega
              have HREL := Lib.hid (show ∀ s3 Y, Fine c s3 → RSt B L c rp τ0 w s3 0 Y → r.run c s3 = res → ExRel B L c rp hi res τ0 w (.int .i64 ((q : Int) + 1)) Y from fun s3 Y F3 h3 hr3 => ExRel.ok (k := q + 1) (x := (q : Int) + 1) (by simp) h3 F3 (by omega) (by rw [show q + 1 = k + a.size + 2 by omega]; exact hbr) hw.2.2.2.2 hr3)
              by_cases hz : xa = 0
              · have qz : (xa == 0) = true := by simpa using hz
                rw [if_pos hz] at hrun
                have HX := Lib.hid (HREL.out s2 X HF2.out ⟨τ1, ov1, HPX.out.rep, HPX.out.keep⟩ hrun)
                clear hrun hw hrs hsz hsz' hba' hbr hpk hcj hqe hq hA' hA2
                go_wp2_with fail
                refine HRDX.out.mono ?_
                rintro e' Y ⟨rfl, rfl⟩
                rw [HXA.out]
                go_wp2
                go_roundw
                case rel => exact ⟨HX.out, by simp [intOf]; omega⟩
                case measure => simp [intOf]; omega
              · have qz : (xa == 0) = false := by simpa using hz
                rw [if_neg hz] at hrun
                have HRUN2 := Lib.hid hrun
                clear hrun hw hrs hsz hsz' hba' hbr hpk hcj hqe hq hA' hA2
                go_wp2_with fail
                refine HRDX.out.mono ?_
                rintro e' Y ⟨rfl, rfl⟩
                rw [HXA.out]
                go_wp2_with fail
                refine HCA.out.mono ?_
                rintro e' Y2 ⟨lf, rfl, hY⟩
                clear c14 lb lm b0 b2c c3 c4 p0 j0
                have hrun := HRUN2.out
                obtain ⟨o, ho⟩ : ∃ o, a.run c s2 = o := ⟨_, rfl⟩
                rw [ho] at hY hrun
                cases o with
                | ok s3 =>
                  obtain ⟨rfl, F3, h3⟩ := hY
                  have HX := Lib.hid (HREL.out s3 Y2 F3 (HPX.out.next h3) hrun)
                  clear hrun h3 F3 ho
                  go_wp2
                  go_roundw
                  case rel => exact ⟨HX.out, by simp [intOf]; omega⟩
                  case measure => simp [intOf]; omega
                | left s3 =>
                  obtain ⟨rfl, F3, h3⟩ := hY
                  have HX := Lib.hid (show OutPost B L c rp τ0 w res true Y2 by rw [← hrun]; exact ⟨rfl, F3, HPX.out.next h3⟩)
                  clear hrun h3 F3 ho
                  go_wp2
                  go_ret
                  exact ⟨true, rfl, HX.out⟩
                | err x =>
                  obtain ⟨rfl, hx, s3, h3⟩ := hY
                  have HX := Lib.hid (show ExRel B L c rp hi res τ0 w (.int .i64 ((q : Int) + 1)) Y2 from ExRel.err (k := q + 1) (x := (q : Int) + 1) (by simp) (HPX.out.next h3) hx hrun.symm)
                  clear hrun h3 ho
                  go_wp2
                  go_roundw
                  case rel => exact ⟨HX.out, by simp [intOf]; omega⟩
                  case measure => simp [intOf]; omega
            | ite2 i a x b3 j r =>
              have hii : i = ⟨op, to, ra, rb, arg⟩ := by rw [← HBD.out.1.cd.head]; exact HII.out.2.2
              subst hii
              have hrun := HRUN.out.1
              rw [T.run_ite2 HT.out] at hrun
              simp only [HXA.out] at hrun
              have hw := HBD.out.2
              have hsz' : k + (a.size + b3.size + r.size + 3) = hi := hsz
              obtain ⟨hba', hbb', hbr, hpk, hpx, hcx⟩ := HBD.out.1.ite2A
              obtain ⟨q, hq⟩ : ∃ q, q = k + 1 + a.size := ⟨_, rfl⟩
              obtain ⟨q2, hq2⟩ : ∃ q2, q2 = q + 1 + b3.size := ⟨_, rfl⟩
              have hqe : k + a.size + 1 = q := by omega
              have hqe2 : k + a.size + b3.size + 2 = q2 := by omega
              have hqe3 : k + a.size + 2 = q + 1 := by omega
              rw [hqe] at hpk hpx hcx
              rw [hqe2] at hpx
              rw [hqe3] at hbb'
              obtain ⟨b', off', hA', hb', _, _⟩ := HMX.out.ins hkc rfl
              obtain ⟨b2, off2, hA2, hb2, p0⟩ := HMX.out.ptc hkc hpk (.inl (by rw [HII.out.2.2]; exact hw.1))
              have hqn : q < c.cd.length := by omega
              obtain ⟨b4, off4, hb4, _, j0, _⟩ := HMX.out.ins hqn hcx
              rw [hA'] at hb4
              simp only [Option.some.injEq, Addr.mk.injEq] at hb4
              obtain ⟨rfl, rfl, _⟩ := hb4
              obtain ⟨b5, off5, hb5, _, p1⟩ := HMX.out.ptc hqn hpx (.inr (.inl (by rw [hcx]; exact hw.2.1)))
              rw [hA2] at hb5
              simp only [Option.some.injEq, Addr.mk.injEq] at hb5
              obtain ⟨rfl, rfl, _⟩ := hb5
              have c3 : X.cell? ⟨L.mb, 3, none⟩ = some (.slice (some ⟨b', off', none⟩) c.cd.length L.codeC) := by rw [← hA']; exact HPX.out.rep.mac.cell 3
              have c4 : X.cell? ⟨L.mb, 4, none⟩ = some (.slice (some ⟨b2, off2, none⟩) c.cd.length L.ptC) := by rw [← hA2]; exact HPX.out.rep.mac.cell 4
              have b2c : X.cell? ⟨wr.heap.size, 2, none⟩ = some (.int .i64 ra) := HPX.out.box.cell 2
              have hbw' : b' < X.heap.size := Nat.lt_of_lt_of_le hb' hBX
              have hbw2 : b2 < X.heap.size := Nat.lt_of_lt_of_le hb2 hBX
              have hqI : (0 : Int) ≤ (q : Int) ∧ (q : Int) < (c.cd.length : Int) := by omega
              have q27 : (op == 27) = true := by simpa using hw.1
              have q28 : (x.op == 28) = true := by rw [hw.2.1]; rfl
              have HCA := Lib.hid (ExecAt.at (HI.out a (k + 1) e wi _ (by simp only [T.size] at hrs; omega) (by omega) hba' hw.2.2.2.2.1) hq s2 τ1 ov1 X HPX.out.rep HF2.out)
              have HCB := Lib.hid (ExecAt.at (HI.out b3 (q + 1) e wi _ (by simp only [T.size] at hrs; omega) (by omega) hbb' hw.2.2.2.2.2.1) hq2 s2 τ1 ov1 X HPX.out.rep HF2.out)
              have hkq : k < q ∧ q < q2 ∧ q2 < hi := by omega
              have hqq : decide ((q : Int) < (q2 : Int)) = true := by simp; omega
              have HREL := Lib.hid (show ∀ s3 Y, Fine c s3 → RSt B L c rp τ0 w s3 0 Y → r.run c s3 = res → ExRel B L c rp hi res τ0 w (.int .i64 ((q2 : Int) + 1)) Y from fun s3 Y F3 h3 hr3 => ExRel.ok (k := q2 + 1) (x := (q2 : Int) + 1) (by simp) h3 F3 (by omega) (by rw [show q2 + 1 = k + a.size + b3.size + 3 by omega]; exact hbr) hw.2.2.2.2.2.2 hr3)
              by_cases hz : xa = 0
              · have qz : (xa == 0) = true := by simpa using hz
                rw [if_pos hz] at hrun
                have HRUN2 := Lib.hid hrun
                clear hrun hw hrs hsz hsz' hba' hbb' hbr hpk hpx hcx hqe hqe2 hqe3 hq hq2 hA' hA2
                go_wp2_with fail
                refine HRDX.out.mono ?_
                rintro e' Y ⟨rfl, rfl⟩
                rw [HXA.out]
                go_wp2_with fail
                refine HCB.out.mono ?_
                rintro e' Y2 ⟨lf, rfl, hY⟩
                clear c14 lb lm b0 b2c c3 c4 p0 p1 j0
                have hrun := HRUN2.out
                obtain ⟨o, ho⟩ : ∃ o, b3.run c s2 = o := ⟨_, rfl⟩
                rw [ho] at hY hrun
                cases o with
                | ok s3 =>
                  obtain ⟨rfl, F3, h3⟩ := hY
                  have HX := Lib.hid (HREL.out s3 Y2 F3 (HPX.out.next h3) hrun)
                  clear hrun h3 F3 ho
                  go_wp2
                  go_roundw
                  case rel => exact ⟨HX.out, by simp [intOf]; omega⟩
                  case measure => simp [intOf]; omega
                | left s3 =>
                  obtain ⟨rfl, F3, h3⟩ := hY
                  have HX := Lib.hid (show OutPost B L c rp τ0 w res true Y2 by rw [← hrun]; exact ⟨rfl, F3, HPX.out.next h3⟩)
                  clear hrun h3 F3 ho
                  go_wp2
                  go_ret
                  exact ⟨true, rfl, HX.out⟩
                | err x =>
                  obtain ⟨rfl, hx, s3, h3⟩ := hY
                  have HX := Lib.hid (show ExRel B L c rp hi res τ0 w (.int .i64 ((q2 : Int) + 1)) Y2 from ExRel.err (k := q2 + 1) (x := (q2 : Int) + 1) (by simp) (HPX.out.next h3) hx hrun.symm)
                  clear hrun h3 ho
                  go_wp2
                  go_roundw
                  case rel => exact ⟨HX.out, by simp [intOf]; omega⟩
                  case measure => simp [intOf]; omega
              · have qz : (xa == 0) = false := by simpa using hz
                rw [if_neg hz] at hrun
                have HRUN2 := Lib.hid hrun
                clear hrun hw hrs hsz hsz' hba' hbb' hbr hpk hpx hcx hqe hqe2 hqe3 hq hq2 hA' hA2
                go_wp2_with fail
                refine HRDX.out.mono ?_
                rintro e' Y ⟨rfl, rfl⟩
                rw [HXA.out]
                go_wp2_with fail
                refine HCA.out.mono ?_
                rintro e' Y2 ⟨lf, rfl, hY⟩
                clear c14 lb lm b0 b2c c3 c4 p0 p1 j0
                have hrun := HRUN2.out
                obtain ⟨o, ho⟩ : ∃ o, a.run c s2 = o := ⟨_, rfl⟩
                rw [ho] at hY hrun
                cases o with
                | ok s3 =>
                  obtain ⟨rfl, F3, h3⟩ := hY
                  have HX := Lib.hid (HREL.out s3 Y2 F3 (HPX.out.next h3) hrun)
                  clear hrun h3 F3 ho
                  go_wp2
                  go_roundw
                  case rel => exact ⟨HX.out, by simp [intOf]; omega⟩
                  case measure => simp [intOf]; omega
                | left s3 =>
                  obtain ⟨rfl, F3, h3⟩ := hY
                  have HX := Lib.hid (show OutPost B L c rp τ0 w res true Y2 by rw [← hrun]; exact ⟨rfl, F3, HPX.out.next h3⟩)
                  clear hrun h3 F3 ho
                  go_wp2
                  go_ret
                  exact ⟨true, rfl, HX.out⟩
                | err x =>
                  obtain ⟨rfl, hx, s3, h3⟩ := hY
                  have HX := Lib.hid (show ExRel B L c rp hi res τ0 w (.int .i64 ((q2 : Int) + 1)) Y2 from ExRel.err (k := q2 + 1) (x := (q2 : Int) + 1) (by simp) (HPX.out.next h3) hx hrun.symm)
                  clear hrun h3 ho
                  go_wp2
                  go_roundw
                  case rel => exact ⟨HX.out, by simp [intOf]; omega⟩
                  case measure => simp [intOf]; omega
            | loop i a j r =>
              have hii : i = ⟨op, to, ra, rb, arg⟩ := by rw [← HBD.out.1.cd.head]; exact HII.out.2.2
              subst hii
              have hrun := HRUN.out.1
              rw [T.run_loop HT.out] at hrun
              simp only [HXA.out] at hrun
              have hw := HBD.out.2
              have hsz' : k + (a.size + r.size + 2) = hi := hsz
              obtain ⟨hba', hbr, hpk⟩ := HBD.out.1.loopA
              obtain ⟨q, hq⟩ : ∃ q, q = k + 1 + a.size := ⟨_, rfl⟩
              have hqe : k + a.size + 1 = q := by omega
              rw [hqe] at hpk hba'
              have hqn : q < c.cd.length := by omega
              have ho3 : (c.cd.getD k default).op = 29 := by rw [HII.out.2.2]; exact hw.1
              obtain ⟨b2, off2, hA2, hb2, p0⟩ := HMX.out.ptc hkc hpk (.inr (.inr ho3))
              have c4 : X.cell? ⟨L.mb, 4, none⟩ = some (.slice (some ⟨b2, off2, none⟩) c.cd.length L.ptC) := by rw [← hA2]; exact HPX.out.rep.mac.cell 4
              have hbw2 : b2 < X.heap.size := Nat.lt_of_lt_of_le hb2 hBX
              have HPT := Lib.hid (show ∀ s' er' τ' ov' Y, RRep B L c rp s' er' τ' ov' Y → Y.cell? ⟨b2, off2 + k, none⟩ = some (.int .i64 (q : Int)) ∧ Y.cell? ⟨L.mb, 4, none⟩ = some (.slice (some ⟨b2, off2, none⟩) c.cd.length L.ptC) ∧ b2 < Y.heap.size ∧ L.mb < Y.heap.size from fun s' er' τ' ov' Y RY => by
                have HY : RbMem B Y L.codeA L.ptA c.cd c.pt rp := ⟨RY.ro.code, RY.ro.pt, HAG.out⟩
                obtain ⟨b5, off5, hA5, hb5, p5⟩ := HY.ptc hkc hpk (.inr (.inr ho3))
                rw [hA2] at hA5
                simp only [Option.some.injEq, Addr.mk.injEq] at hA5
                obtain ⟨rfl, rfl, _⟩ := hA5
                exact ⟨p5, by rw [← hA2]; exact RY.mac.cell 4, Nat.lt_of_lt_of_le hb5 RY.hB, RY.mac.lt⟩)
              have q27 : (op == 27) = false := by rw [show op = 29 from hw.1]; rfl
              have q29 : (op == 29) = true := by rw [show op = 29 from hw.1]; rfl
              have b1 : X.cell? ⟨wr.heap.size, 0 + 1, none⟩ = some (.int .i64 to) := HPX.out.box.cell 1
              have b2c : X.cell? ⟨wr.heap.size, 0 + 1 + 1, none⟩ = some (.int .i64 ra) := HPX.out.box.cell 2
              have b3c : X.cell? ⟨wr.heap.size, 0 + 1 + 1 + 1, none⟩ = some (.int .i64 rb) := HPX.out.box.cell 3
              have b4c : X.cell? ⟨wr.heap.size, 0 + 1 + 1 + 1 + 1, none⟩ = some (.int .u32 arg) := HPX.out.box.cell 4
              have HRP := Lib.hid (repeat_any B L c rp a k q hq hqn (HI.out a (k + 1) q true _ (by simp only [T.size] at hrs; omega) (by omega) hba' hw.2.2.2.1) s2 τ1 ov1 X.drew HPX.out.rep.drew HF2.out op to ra rb arg hra HII.out.2.1)
              have hkq : k < q ∧ q < hi := by omega
              have HREL := Lib.hid (show ∀ s3 Y, Fine c s3 → RSt B L c rp τ0 w s3 0 Y → r.run c s3 = res → ExRel B L c rp hi res τ0 w (.int .i64 ((q : Int) + 1)) Y from fun s3 Y F3 h3 hr3 => ExRel.ok (k := q + 1) (x := (q : Int) + 1) (by simp) h3 F3 (by omega) (by rw [show q + 1 = k + a.size + 2 by omega]; exact hbr) hw.2.2.2.2 hr3)
              have HRUN2 := Lib.hid hrun
              have HKD := Lib.hid (show Keep B τ0 τ1 w X.drew from HPX.out.keep.trans Keep.drew)
              clear hrun hw hrs hsz hsz' hba' hbr hpk hqe hq hA2 ho3
              go_wp2_with fail
              refine wp_region_grew [5, 8, 9] [0, 1, 2, 3, 4, 6, 7] [(2, 0), (2, 1), (2, 2), (2, 3), (2, 4), (2, 6), (1, 5), (2, 7), (1, 8), (1, 9), (0, 10)] (by kernel_rfl) (by kernel_rfl) (fun c a d v w h => by cases d <;> exact h) ?_
              simp only [getPlan, List.filterMap_cons, List.filterMap_nil, List.getElem?_toArray, List.getElem?_cons_succ, List.getElem?_cons_zero, Option.map_some]
              repeat ((first | refine wpPlan_pure (fun K hK => ?_) | refine wpPlan_float (fun K hK => ?_)); go_simp; refine hK _ ?_; clear hK K)
              refine wpPlan_tail (by kernel_rfl) ?_
              simp only [List.map_cons, List.map_nil]
              go_wp2_with fail
              refine HRP.out.mono ?_
              rintro e' Y ⟨rfl, hY⟩
              clear c14 lb lm b0 b1 b2c b3c b4c c4 p0 hbw2
              have hrun := HRUN2.out
              rw [HXA.out] at hY
              obtain ⟨o, ho⟩ : ∃ o, (if arg < xa then Out.err 18 else loopRun c (fun s => a.run c s) xa.toNat s2) = o := ⟨_, rfl⟩
              rw [ho] at hY hrun
              cases o with
              | ok s3 =>
                obtain ⟨F3, h3⟩ := hY
                obtain ⟨p0, c4, hbw2, lm⟩ : Y.cell? ⟨b2, off2 + k, none⟩ = some (.int .i64 (q : Int)) ∧ Y.cell? ⟨L.mb, 4, none⟩ = some (.slice (some ⟨b2, off2, none⟩) c.cd.length L.ptC) ∧ b2 < Y.heap.size ∧ L.mb < Y.heap.size := by
                  obtain ⟨τ5, ov5, R5, K5⟩ := h3
                  exact HPT.out _ _ _ _ Y R5
                have HX := Lib.hid (HREL.out s3 Y F3 (h3.from HKD.out) hrun)
                clear hrun h3 F3 ho
                go_wp2
                go_roundw
                case rel => exact ⟨HX.out, by simp [intOf]; omega⟩
                case measure => simp [intOf]; omega
              | left s3 => exact hY.elim
              | err x =>
                obtain ⟨hx, s3, h3⟩ := hY
                obtain ⟨p0, c4, hbw2, lm⟩ : Y.cell? ⟨b2, off2 + k, none⟩ = some (.int .i64 (q : Int)) ∧ Y.cell? ⟨L.mb, 4, none⟩ = some (.slice (some ⟨b2, off2, none⟩) c.cd.length L.ptC) ∧ b2 < Y.heap.size ∧ L.mb < Y.heap.size := by
                  obtain ⟨τ5, ov5, R5, K5⟩ := h3
                  exact HPT.out _ _ _ _ Y R5
                have HX := Lib.hid (show ExRel B L c rp hi res τ0 w (.int .i64 ((q : Int) + 1)) Y from ExRel.err (k := q + 1) (x := (q : Int) + 1) (by simp) (h3.from HKD.out) hx hrun.symm)
                clear hrun h3 ho
                go_wp2
                go_roundw
                case rel => exact ⟨HX.out, by simp [intOf]; omega⟩
                case measure => simp [intOf]; omega
          · rw [show tickPost c s = (s, 19) by unfold tickPost tick; rw [if_neg hst]] at hX
            have hrun := HRUN.out.1
            rw [T.run_off HRUN.out.2 hst] at hrun
            have c14 : X.cell? ⟨L.mb, 14, none⟩ = some (.int .i64 19) := by obtain ⟨τ2, ov2, R2, K2⟩ := hX; exact R2.mac.cell 14
            have lm : L.mb < X.heap.size := by obtain ⟨τ2, ov2, R2, K2⟩ := hX; exact R2.mac.lt
            have HX := Lib.hid (show OutPost B L c rp τ0 w res false X by
              rw [← hrun]
              refine ⟨rfl, by decide, s, ?_⟩
              obtain ⟨τ2, ov2, R2, K2⟩ := hX
              exact ⟨τ2, ov2, R2, HK.out.trans (HKW.out.1.trans K2).retag⟩)
            clear hrun hX
            go_wp2
            go_ret
            exact ⟨false, rfl, HX.out⟩
      · have qne : (er == 0) = false := by simpa using hne
        have HX := Lib.hid (show OutPost B L c rp τ0 w res false wr by rw [hre]; exact ⟨rfl, hne, s, τ, ov, R, HK.out⟩)
        clear R hre
        by_cases hlt : k < hi
        · have qlt : decide ((k : Int) < (hi : Int)) = true := by simp; omega
          go_wp2
          go_ret
          exact ⟨false, rfl, HX.out⟩
        · have qlt : decide ((k : Int) < (hi : Int)) = false := by simp; omega
          go_wp2
          go_ret
          exact ⟨false, rfl, HX.out⟩
end Go.Proofs.Ytefdnjhhaejgbaa
