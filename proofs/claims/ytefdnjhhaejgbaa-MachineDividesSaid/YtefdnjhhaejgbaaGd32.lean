/-
  PROVED: 'Rows.MachineDividesSaid': MachineDivides returns true for all code and all data. No condition.
-/
import Derived.OpenShut
import Derived.ProofKit
import Derived.ShutString
import Derived.WalkKit
import Derived.Test.YtefdnjhhaejgbaaGd31
import Derived.Test.YtefdnjhhaejgbaaRows
set_option linter.unusedSimpArgs false
set_option linter.unusedVariables false
namespace Go.Proofs.Ytefdnjhhaejgbaa
open Go.RowKit
set_option linter.unusedVariables false

set_option maxRecDepth 100000 in
set_option maxHeartbeats 1000000 in
theorem divides_idle (arsA codeA dA : Option Addr) (arsC codeC dC : Nat) (ars : List Ar) (regs spills : Int) (cd : List RI) (data : List Int) (w : World)
    (hA : RowB w.heap.size w 2 arsA ars.length fun i j => (ars.getD i default).cell j) (fw : Bool) (hfw : fewB ars cd = fw) (hf : (!fw || decide ((20 : Int) < (data.length : Int))) = true) :
    Calls Try.prog 8 #[.agg #[.slice arsA ars.length arsC, .int .i64 regs, .int .i64 spills, .slice codeA cd.length codeC], .slice dA data.length dC] w fun e w' => e = .returned (.bool true) ∧ Below w.heap.size w w' := by
  have hW : Below w.heap.size w (w.alloc (.cells #[.slice arsA ars.length arsC, .int .i64 regs, .int .i64 spills, .slice codeA cd.length codeC] 25)) := (Below.refl _ _).alloc (Nat.le_refl _) _
  have hF := few_any arsA codeA arsC codeC regs spills ars cd _ ((hA.below hW).mono hW.size)
  rw [hfw] at hF
  have HF := Lib.hid hF
  have HW := Lib.hid hW
  clear hF hW hA hfw
  cases fw with
  | false =>
    go_enter Try.func8, Try.ntmps8
    go_wp2_with fail
    refine HF.out.mono ?_
    rintro e W2 ⟨rfl, hb2⟩
    have H2 := Lib.hid (HW.out.trans (hb2.mono HW.out.size))
    clear hb2 HF
    go_wp2_with fail
    refine (awake_true W2).mono ?_
    rintro e W3 ⟨rfl, hb3⟩
    have H3 := Lib.hid (H2.out.trans (hb3.mono H2.out.size))
    clear hb3
    go_wp2
    go_ret
    exact ⟨rfl, H3.out⟩
  | true =>
    have q : decide ((20 : Int) < (data.length : Int)) = true := by simpa using hf
    go_enter Try.func8, Try.ntmps8
    go_wp2_with fail
    refine HF.out.mono ?_
    rintro e W2 ⟨rfl, hb2⟩
    have H2 := Lib.hid (HW.out.trans (hb2.mono HW.out.size))
    clear hb2 HF
    go_wp2_with fail
    refine (awake_true W2).mono ?_
    rintro e W3 ⟨rfl, hb3⟩
    have H3 := Lib.hid (H2.out.trans (hb3.mono H2.out.size))
    clear hb3
    go_wp2
    go_ret
    exact ⟨rfl, H3.out⟩

set_option maxRecDepth 100000 in
set_option maxHeartbeats 1000000 in
theorem divides_main (arsA codeA dA : Option Addr) (arsC codeC dC : Nat) (ars : List Ar) (regs spills : Int) (cd : List RI) (data : List Int) (w : World)
    (hA : RowB w.heap.size w 2 arsA ars.length fun i j => (ars.getD i default).cell j) (hC : RowB w.heap.size w 5 codeA cd.length fun i j => (cd.getD i default).cell j) (hD : RowB w.heap.size w 1 dA data.length fun j _ => .int .u8 (data.getD j 0))
    (ok : CodeOk ars regs spills cd) (hd8 : ∀ n ∈ data, 0 ≤ n ∧ n < 256) (hfew : fewB ars cd = true) (hdl : data.length ≤ 20) :
    Calls Try.prog 8 #[.agg #[.slice arsA ars.length arsC, .int .i64 regs, .int .i64 spills, .slice codeA cd.length codeC], .slice dA data.length dC] w fun e w' => e = .returned (.bool true) ∧ Below w.heap.size w w' := by
  have hW : Below w.heap.size w (w.alloc (.cells #[.slice arsA ars.length arsC, .int .i64 regs, .int .i64 spills, .slice codeA cd.length codeC] 25)) := (Below.refl _ _).alloc (Nat.le_refl _) _
  have hF := few_any arsA codeA arsC codeC regs spills ars cd _ ((hA.below hW).mono hW.size)
  rw [hfew] at hF
  have HF := Lib.hid hF
  have HW := Lib.hid hW
  obtain ⟨R, hR⟩ : ∃ R, feedRes ars regs spills cd data 3000 = R := ⟨_, rfl⟩
  have HFE := Lib.hid (fun W (hb : Below w.heap.size w W) => Feed_any arsA codeA dA arsC codeC dC ars regs spills cd data 3000 W ((hA.below hb).mono hb.size) ((hC.below hb).mono hb.size) ((hD.below hb).mono hb.size) ok.la ok.lc ok.arg hd8)
  have HST := Lib.hid (fun W (hb : Below w.heap.size w W) => Start_any arsA codeA arsC codeC ars regs spills cd W ((hA.below hb).mono hb.size) ((hC.below hb).mono hb.size) ok.la ok.lc ok.arg)
  rw [hR] at HFE
  have HRR := Lib.hid hR
  have HOK := Lib.hid ok
  have HA := Lib.hid hA
  have HC := Lib.hid hC
  have HD := Lib.hid hD
  have HD8 := Lib.hid hd8
  have q20 : decide ((20 : Int) < (data.length : Int)) = false := by simp; omega
  clear hF hW hR hA hC hD ok hd8 hfew
  go_enter Try.func8, Try.ntmps8
  go_wp2_with fail
  refine HF.out.mono ?_
  rintro e W2 ⟨rfl, hb2⟩
  have kc2 : Blk W2 w.heap.size [.slice arsA ars.length arsC, .int .i64 regs, .int .i64 spills, .slice codeA cd.length codeC] 25 := (show Blk (w.alloc _) w.heap.size _ _ from heap_new1 _ _).below hb2 (by simp)
  have H2 := Lib.hid (HW.out.trans (hb2.mono HW.out.size))
  have K2 := Lib.hid kc2
  have a0 : W2.cell? ⟨w.heap.size, 0, none⟩ = some (.slice arsA ars.length arsC) := kc2.cell 0
  have a1 : W2.cell? ⟨w.heap.size, 0 + 1, none⟩ = some (.int .i64 regs) := kc2.cell 1
  have a2 : W2.cell? ⟨w.heap.size, 0 + 1 + 1, none⟩ = some (.int .i64 spills) := kc2.cell 2
  have a3 : W2.cell? ⟨w.heap.size, 0 + 1 + 1 + 1, none⟩ = some (.slice codeA cd.length codeC) := kc2.cell 3
  clear hb2 HF kc2 HW
  go_wp2_with fail
  refine (HFE.out W2 H2.out).mono ?_
  rintro e W3 hpost
  obtain ⟨hb3, qw, nq, cqw, cw, nc, ccw, ow, no, ocw, st, er, rfl, hok, herr⟩ := feed_form hpost
  have H3 := Lib.hid (And.intro hb3 (And.intro (H2.out.trans (hb3.mono H2.out.size)) (K2.out.below hb3 K2.out.lt)))
  have HR := Lib.hid (And.intro hok herr)
  clear hpost hok herr hb3 a0 a1 a2 a3 HFE
  go_upto_region 4 with (fail)
  refine wp_gen (fun W => Below w.heap.size w W ∧ Blk W w.heap.size [.slice arsA ars.length arsC, .int .i64 regs, .int .i64 spills, .slice codeA cd.length codeC] 25 ∧ Blk W W3.heap.size [.slice qw nq cqw, .slice cw nc ccw, .slice ow no ocw, .int .i64 st] 49 ∧ (∀ a, R = .ok a → ResAt W a.arr a.ctx a.out a.steps (.agg #[.slice qw nq cqw, .slice cw nc ccw, .slice ow no ocw, .int .i64 st])) ∧ w.heap.size < W3.heap.size) ?_ ?_
  · have hbb : Below W3.heap.size W3 (W3.alloc (.cells #[.slice qw nq cqw, .slice cw nc ccw, .slice ow no ocw, .int .i64 st] 49)) := (Below.refl _ _).alloc (Nat.le_refl _) _
    obtain ⟨h1, h2, h3⟩ := H3.out
    exact ⟨h2.trans (hbb.mono h2.size), h3.below hbb h3.lt, heap_new1 _ _, fun a ha => (HR.out.1 a ha).2.below hbb, h3.lt⟩
  rintro W4 ⟨hb4, kc4, kw4, hr4, hl4⟩
  have H4 := Lib.hid (And.intro hb4 (And.intro kc4 (And.intro kw4 hr4)))
  have a0 : W4.cell? ⟨w.heap.size, 0, none⟩ = some (.slice arsA ars.length arsC) := kc4.cell 0
  have a1 : W4.cell? ⟨w.heap.size, 0 + 1, none⟩ = some (.int .i64 regs) := kc4.cell 1
  have a2 : W4.cell? ⟨w.heap.size, 0 + 1 + 1, none⟩ = some (.int .i64 spills) := kc4.cell 2
  have a3 : W4.cell? ⟨w.heap.size, 0 + 1 + 1 + 1, none⟩ = some (.slice codeA cd.length codeC) := kc4.cell 3
  clear H3 hb4 kc4 kw4 hr4
  go_wp2_with fail
  refine (HST.out W4 H4.out.1).mono ?_
  rintro e Y ⟨hbY, hst⟩
  by_cases hchk : (chkCode ars regs spills cd).2 = 0
  rotate_left
  · rw [if_neg hchk] at hst
    replace hst : e = .returned (.tuple #[.agg #[.slice none 0 0, .slice none 0 0], .int .i64 (chkCode ars regs spills cd).2]) := hst
    subst hst
    have her : er = (chkCode ars regs spills cd).2 := HR.out.2 _ (by rw [← HRR.out]; unfold feedRes; rw [if_pos (by simpa using hchk)])
    subst her
    have hd : ((chkCode ars regs spills cd).2 != 0) = true := by simpa using hchk
    have HY := Lib.hid (H4.out.1.trans (hbY.mono H4.out.1.size))
    clear hbY hchk a0 a1 a2 a3 HST HRR HR H4
    generalize (chkCode ars regs spills cd).2 = er at hd ⊢
    go_upto_region 6 with (fail)
    refine wp_gen (fun W => Below w.heap.size w W) (HY.out.alloc HY.out.size _) ?_
    intro W5 hb5
    have H5 := Lib.hid hb5
    clear hb5
    go_wp2_with fail
    refine (awake_true W5).mono ?_
    rintro e W6 ⟨rfl, hb6⟩
    have H6 := Lib.hid (H5.out.trans (hb6.mono H5.out.size))
    clear hb6
    go_wp2
    go_ret
    exact ⟨rfl, H6.out⟩
  have G := chk_good hchk
  obtain ⟨ms, hms⟩ : ∃ ms, zeros ars = ms := ⟨_, rfl⟩
  obtain ⟨cx, hcx⟩ : ∃ cx : List Int, List.replicate 16 0 = cx := ⟨_, rfl⟩
  have hgood : FGood ars 3000 ⟨ms, cx, [], 0⟩ := ⟨by rw [← hms, ← hcx]; exact zeros_fit G.hars, by rw [← hms]; exact zeros_u32 ars, by rw [← hcx]; exact u32s_rep 16, Int.le_refl _, by show (0 : Int) ≤ 3000; decide, by simp⟩
  have hgo : feedGo ars regs spills cd data 3000 (data.length + 1) 0 ⟨ms, cx, [], 0⟩ = R := by
    rw [← HRR.out, feedRes_ok hchk (by omega) (by omega), hms, hcx]
  rw [if_pos hchk] at hst
  obtain ⟨v, rfl, hmv⟩ := hst
  rw [hms, hcx] at hmv
  obtain ⟨qa, cq, ca, cc, rfl, hg, hx⟩ := hmv Y (fun _ _ => rfl)
  have hAl : ars.length ≤ 9223372036854775806 := by have := G.hnA; omega
  have HRU := Lib.hid (fun W (hb : Below w.heap.size w W) qa cq ca cc (ms : List (List Int)) (cx : List Int) inp ended F (hm : MemRows qa ca ms cx W) (hf : fitsB ars ms cx.length = true) hzu hcu hi =>
    Run_is arsA codeA qa ca arsC codeC cq cc ars regs spills cd ms cx inp ended F W ((HA.out.below hb).mono hb.size) ((HC.out.below hb).mono hb.size) hm.1 hm.2 hAl HOK.out.lc HOK.out.arg (fun a ha => by have := (fits_small hf G.hars).2.2 a ha; omega) hzu hcu hi)
  have HMR := Lib.hid (show MemRows qa ca ms cx Y from ⟨hg.toR, hx.row⟩)
  have hlY : W3.heap.size < Y.heap.size := Nat.lt_of_lt_of_le H4.out.2.2.1.lt hbY.size
  have HG := Lib.hid G
  have HGO := Lib.hid (And.intro hgood hgo)
  have HY := Lib.hid hbY
  clear hmv hg hx hbY hgood hgo hms hcx hAl G a0 a1 a2 a3 HST HRR hchk
  go_upto_region 7 with (fail)
  refine wp_gen (fun W => Below Y.heap.size Y W ∧ Blk W Y.heap.size [.slice qa ms.length cq, .slice ca cx.length cc] 31) ⟨(Below.refl _ _).alloc (Nat.le_refl _) _, heap_new1 _ _⟩ ?_
  rintro X0 ⟨hbX, kX⟩
  have m0 : X0.cell? ⟨Y.heap.size, 0, none⟩ = some (.slice qa ms.length cq) := kX.cell 0
  have m1 : X0.cell? ⟨Y.heap.size, 0 + 1, none⟩ = some (.slice ca cx.length cc) := kX.cell 1
  have hX := HY.out.trans (hbX.mono HY.out.size)
  have hX4 := H4.out.1.trans (hX.mono H4.out.1.size)
  have HX := Lib.hid (And.intro hX4 (And.intro (H4.out.2.1.below hX H4.out.2.1.lt) (And.intro (H4.out.2.2.1.below hX H4.out.2.2.1.lt) (fun a ha => (H4.out.2.2.2 a ha).below hX))))
  have HMX := Lib.hid (show MemRows qa ca ms cx X0 from ⟨HMR.out.1.below hbX, (HMR.out.2.below hbX).mono hbX.size⟩)
  have hlX : W3.heap.size < X0.heap.size := Nat.lt_of_lt_of_le hlY hbX.size
  clear kX hX hX4 hbX H4 HY HMR
  go_upto_region 8 with (fail)
  refine wp_gen (fun W => DivAt X0 ⟨ms, cx, [], 0⟩ qa ca none cq cc 0 W) ?_ ?_
  · refine ⟨(Below.refl _ _).alloc (Nat.le_refl _) _, heap_new1 _ _, ⟨0, X0.heap.size, .inr (Nat.le_refl _), by simp, ?_⟩, World.ownsRow_nil _ _ _ _⟩
    intro W' hE hs
    have hb : Below X0.heap.size X0 { X0 with heap := W'.heap } := ⟨rfl, rfl, rfl, hE, fun k hk => (hs k (Nat.zero_le _) hk).trans (Below.heap_alloc _ _ _ hk)⟩
    exact show MemRows qa ca ms cx { X0 with heap := W'.heap } from ⟨HMX.out.1.below hb, (HMX.out.2.below hb).mono hb.size⟩
  rintro W1 F1
  have HF1 := Lib.hid F1
  clear F1
  go_wp2_with fail
  go_loopw [10] (fun i wr => ∃ (k : Nat) (a : FS) (qa ca oa : Option Addr) (cq cc oc : Nat), i = .int .i64 (k : Int) ∧ k ≤ data.length + 1 ∧ FGood ars 3000 a ∧ ((a.out.length : Int) ≤ a.steps) ∧ feedGo ars regs spills cd data 3000 (data.length + 1 - k) k a = R ∧ DivAt X0 a qa ca oa cq cc oc wr) (fun i _ => data.length + 1 - (intOf i).toNat)
  case atStart => exact ⟨0, ⟨ms, cx, [], 0⟩, qa, ca, none, cq, cc, 0, rfl, Nat.zero_le _, HGO.out.1, Int.le_refl _, HGO.out.2, HF1.out⟩
  case round =>
    obtain ⟨k, a, qa2, ca2, oa, cq2, cc2, oc, rfl, hk, hgd, hos, hgo, F⟩ := hrel
    have HF := Lib.hid F
    have HGD := Lib.hid hgd
    have HGO2 := Lib.hid hgo
    clear HGO HF1 hgo
    by_cases hlt : k < data.length + 1
    rotate_left
    · have hke : k = data.length + 1 := by omega
      have q : decide ((k : Int) ≤ (data.length : Int)) = false := by simp; omega
      have q1 : decide (k ≤ data.length) = false := by simp; omega
      have q2 : data.length < k := by omega
      have q3 : (data.length : Int) < (k : Int) := by omega
      have hRn : R = .ok a := by rw [← HGO2.out, hke, Nat.sub_self]; rfl
      have her := (HR.out.1 a hRn).1
      subst her
      have hbX := F.bel
      have kw := HX.out.2.2.1.below hbX hlX
      have hres1 := (HX.out.2.2.2 a hRn).below hbX
      have hres2 := F.res
      have hfs := fits_small hgd.fit HG.out.hars
      have w0 : wr.cell? ⟨W3.heap.size, 0, none⟩ = some (.slice qw nq cqw) := kw.cell 0
      have w1 : wr.cell? ⟨W3.heap.size, 0 + 1, none⟩ = some (.slice cw nc ccw) := kw.cell 1
      have w2 : wr.cell? ⟨W3.heap.size, 0 + 1 + 1, none⟩ = some (.slice ow no ocw) := kw.cell 2
      have w3 : wr.cell? ⟨W3.heap.size, 0 + 1 + 1 + 1, none⟩ = some (.int .i64 st) := kw.cell 3
      have r0 : wr.cell? ⟨X0.heap.size, 0, none⟩ = some (.slice qa2 a.arr.length cq2) := F.all.cell 0
      have r1 : wr.cell? ⟨X0.heap.size, 0 + 1, none⟩ = some (.slice ca2 a.ctx.length cc2) := F.all.cell 1
      have r2 : wr.cell? ⟨X0.heap.size, 0 + 1 + 1, none⟩ = some (.slice oa a.out.length oc) := F.all.cell 2
      have r3 : wr.cell? ⟨X0.heap.size, 0 + 1 + 1 + 1, none⟩ = some (.int .i64 a.steps) := F.all.cell 3
      have hnA := HG.out.hnA
      have HSA := Lib.hid (fun W (hb : Below wr.heap.size wr W) => same_run _ _ a.steps a.arr a.ctx a.out W (hres1.below hb) (hres2.below hb) (by omega) (by omega) (fun x hx => by have := hfs.2.2 x hx; omega))
      have HBX := Lib.hid (HX.out.1.trans (hbX.mono HX.out.1.size))
      have hlw : W3.heap.size < wr.heap.size := kw.lt
      have hlr : X0.heap.size < wr.heap.size := F.all.lt
      have KW := Lib.hid kw
      have KA := Lib.hid F.all
      clear hRn hke F hgd hlt hbX kw hres1 hres2 hfs hnA w0 w1 w2 w3 r0 r1 r2 r3
      go_wp2_with fail
      refine (awake_true wr).mono ?_
      rintro e W6 ⟨rfl, hb6⟩
      have kw := KW.out.below hb6 hlw
      have ka := KA.out.below hb6 hlr
      have w0 : W6.cell? ⟨W3.heap.size, 0, none⟩ = some (.slice qw nq cqw) := kw.cell 0
      have w1 : W6.cell? ⟨W3.heap.size, 0 + 1, none⟩ = some (.slice cw nc ccw) := kw.cell 1
      have w2 : W6.cell? ⟨W3.heap.size, 0 + 1 + 1, none⟩ = some (.slice ow no ocw) := kw.cell 2
      have w3 : W6.cell? ⟨W3.heap.size, 0 + 1 + 1 + 1, none⟩ = some (.int .i64 st) := kw.cell 3
      have r0 : W6.cell? ⟨X0.heap.size, 0, none⟩ = some (.slice qa2 a.arr.length cq2) := ka.cell 0
      have r1 : W6.cell? ⟨X0.heap.size, 0 + 1, none⟩ = some (.slice ca2 a.ctx.length cc2) := ka.cell 1
      have r2 : W6.cell? ⟨X0.heap.size, 0 + 1 + 1, none⟩ = some (.slice oa a.out.length oc) := ka.cell 2
      have r3 : W6.cell? ⟨X0.heap.size, 0 + 1 + 1 + 1, none⟩ = some (.int .i64 a.steps) := ka.cell 3
      have HB6 := Lib.hid hb6
      clear kw ka hb6
      go_wp2_with fail
      refine (HSA.out W6 HB6.out).mono ?_
      rintro e W7 ⟨rfl, hb7⟩
      have h6 := HBX.out.trans (HB6.out.mono HBX.out.size)
      have H7 := Lib.hid (h6.trans (hb7.mono h6.size))
      clear hb7 h6
      go_wp2
      go_ret
      exact ⟨rfl, H7.out⟩
    have q : decide ((k : Int) ≤ (data.length : Int)) = true := by simp; omega
    have r3 : wr.cell? ⟨X0.heap.size, 3, none⟩ = some (.int .i64 a.steps) := F.all.cell 3
    have rlt : X0.heap.size < wr.heap.size := F.all.lt
    have st0 := hgd.s0
    have st1 := hgd.s1
    clear F hgd
    have hcase : k < data.length ∨ k = data.length := by omega
    obtain ⟨inp, hinp⟩ : ∃ inp, data.getD k 0 = inp := ⟨_, rfl⟩
    have hi8 : 0 ≤ inp ∧ inp < 256 := by
      rw [← hinp, List.getD_eq_getElem?_getD]
      cases hkd : data[k]? with
      | none => exact ⟨by decide, by decide⟩
      | some x => exact HD8.out x (List.mem_of_getElem? hkd)
    obtain ⟨i0, i1⟩ := hi8
    have i32 : u32 inp := ⟨i0, by omega⟩
    rcases hcase with hkd | hkd
    · have e1 : ((k : Int) == (data.length : Int)) = false := by first | (simp; omega) | (subst hkd; simp)
      have e2 : decide ((k : Int) < (data.length : Int)) = true := by simp; omega
      have hin0 : inp = inp := by
        first
          | rfl
          | (rw [← hinp, hkd, List.getD_eq_getElem?_getD, List.getElem?_eq_none (Nat.le_refl _)]; rfl)
      have hdec : decide (k = data.length) = false := by first | (simp; omega) | (simpa using hkd)
      have hstep := feedGo_step (ars := ars) (regs := regs) (spills := spills) (cd := cd) (data := data) (fuel := 3000) (k := k) (a := a) hlt
      rw [HGO2.out] at hstep
      have HSTEP := Lib.hid hstep
      have HIN := Lib.hid (And.intro hinp (And.intro hdec (show inp = inp ∧ u32 inp from ⟨hin0, hin0 ▸ i32⟩)))
      clear hstep hin0 hdec
      obtain ⟨db, doff, hdA, hdb, hdc⟩ := HD.out k hkd
      have hwr : Below w.heap.size w wr := HX.out.1.trans (HF.out.bel.mono HX.out.1.size)
      have dc : wr.cell? ⟨db, doff + k, none⟩ = some (.int .u8 inp) := by
        rw [hwr.cell (p := ⟨db, doff + k, none⟩) hdb, ← hinp]
        simpa using hdc 0 (by omega)
      have dlt : db < wr.heap.size := Nat.lt_of_lt_of_le hdb hwr.size
      have hkk := nat_cast_ltP hkd
      subst hdA
      clear hdb hdc hwr
      clear hlt hinp i32
      go_upto_region 14 with (fail)
      refine wp_gen (fun V0 => Below wr.heap.size wr V0 ∧ Blk V0 wr.heap.size [.int .u32 inp, .bool false, .int .i64 (3000 - a.steps)] 44) ⟨(Below.refl _ _).alloc (Nat.le_refl _) _, heap_new1 _ _⟩ ?_
      rintro V0 ⟨hb0, kc⟩
      have x1 := (HX.out.2.1.below HF.out.bel (Nat.lt_trans hl4 hlX)).below hb0 (Nat.lt_trans (Nat.lt_trans hl4 hlX) rlt)
      have x3 := HF.out.all.below hb0 rlt
      have x4 := HF.out.rows hb0
      have xw : Below w.heap.size w wr := HX.out.1.trans (HF.out.bel.mono HX.out.1.size)
      have x5 := xw.trans (hb0.mono xw.size)
      have c0 : V0.cell? ⟨w.heap.size, 0, none⟩ = some (.slice arsA ars.length arsC) := x1.cell 0
      have c1 : V0.cell? ⟨w.heap.size, 0 + 1, none⟩ = some (.int .i64 regs) := x1.cell 1
      have c2 : V0.cell? ⟨w.heap.size, 0 + 1 + 1, none⟩ = some (.int .i64 spills) := x1.cell 2
      have c3 : V0.cell? ⟨w.heap.size, 0 + 1 + 1 + 1, none⟩ = some (.slice codeA cd.length codeC) := x1.cell 3
      have m0 : V0.cell? ⟨X0.heap.size, 0, none⟩ = some (.slice qa2 a.arr.length cq2) := x3.cell 0
      have m1 : V0.cell? ⟨X0.heap.size, 0 + 1, none⟩ = some (.slice ca2 a.ctx.length cc2) := x3.cell 1
      have d0 : V0.cell? ⟨wr.heap.size, 0, none⟩ = some (.int .u32 inp) := kc.cell 0
      have d1 : V0.cell? ⟨wr.heap.size, 0 + 1, none⟩ = some (.bool false) := kc.cell 1
      have d2 : V0.cell? ⟨wr.heap.size, 0 + 1 + 1, none⟩ = some (.int .i64 (3000 - a.steps)) := kc.cell 2
      have HEX := Lib.hid (HRU.out V0 x5 qa2 cq2 ca2 cc2 a.arr a.ctx inp false (3000 - a.steps) x4 HGD.out.fit HGD.out.ua HGD.out.uc HIN.out.2.2.2)
      have HB0 := Lib.hid (And.intro hb0 x5)
      clear x1 x3 x4 x5 xw hb0 kc r3
      go_wp2_with fail
      refine HEX.out.mono ?_
      rintro e V1 ⟨hb1, hpost⟩
      clear HEX c0 c1 c2 c3 m0 m1 d0 d1 d2
      have HB1 := Lib.hid hb1
      have hl1 : wr.heap.size < V1.heap.size + 1 := by have h1 := HB0.out.1.size; have h2 := hb1.size; omega
      cases hr : machRun ars regs spills cd a.arr a.ctx inp false (3000 - a.steps) with
      | error n =>
        rw [hr] at hpost
        replace hpost : e = .returned (.tuple #[.agg #[.slice none 0 0, .slice none 0 0, .slice none 0 0, .int .i64 0], .int .i64 n]) := hpost
        subst hpost
        have hn0 : (n != 0) = true := by simpa using NeedsErr hr
        have hRn : R = .error n := by
          rw [HSTEP.out]
          unfold feedStep
          first
            | (rw [HIN.out.1, HIN.out.2.1, HIN.out.2.2.1, hr]; rfl)
            | (rw [HIN.out.1, HIN.out.2.1, hr]; rfl)
        have her := HR.out.2 n hRn
        subst her
        clear hr hRn hb1
        go_upto_region 16 with (fail)
        refine wp_gen (fun W => Below w.heap.size w W) ?_ ?_
        · have hwv := HB0.out.2.trans (HB1.out.mono HB0.out.2.size)
          exact hwv.alloc hwv.size _
        intro V2 hb2
        have H2' := Lib.hid hb2
        clear hb2
        go_wp2_with fail
        refine (awake_true V2).mono ?_
        rintro e V3 ⟨rfl, hb3⟩
        have H3 := Lib.hid (H2'.out.trans (hb3.mono H2'.out.size))
        clear hb3
        go_wp2
        go_ret
        exact ⟨rfl, H3.out⟩
      | ok s =>
        rw [hr] at hpost
        obtain ⟨v, rfl, hv⟩ := hpost
        obtain ⟨qb, cqb, cb, ccb, ob, ocb, rfl, hl⟩ := lift_run hv
        have hr2 : machRun ars regs spills cd a.arr a.ctx (data.getD k 0) (decide (k = data.length)) (3000 - a.steps) = .ok s := by
          first
            | (rw [HIN.out.1, HIN.out.2.1, HIN.out.2.2.1]; exact hr)
            | (rw [HIN.out.1, HIN.out.2.1]; exact hr)
        have n12 := mach_fuel HOK.out.arg HGD.out.ua HGD.out.uc HIN.out.2.2.2 hr
        have n1 := n12.1
        have n2 := n12.2.1
        have hsh := feedGo_short hr2 hos (by omega)
        have hgood2 : FGood ars 3000 ⟨s.arr, s.ctx, a.out ++ s.out, a.steps + s.steps⟩ := feedStep_good HOK.out.arg HD8.out HGD.out hsh.2
        have hRn : feedGo ars regs spills cd data 3000 (data.length + 1 - (k + 1)) (k + 1) ⟨s.arr, s.ctx, a.out ++ s.out, a.steps + s.steps⟩ = R := by
          rw [HSTEP.out, hsh.2]; rfl
        have o1 := (mach_out hr).1
        have hol := HGD.out.ol
        have x3 : Blk V1 X0.heap.size [.slice qa2 a.arr.length cq2, .slice ca2 a.ctx.length cc2, .slice oa a.out.length oc, .int .i64 a.steps] 49 := (HF.out.all.below HB0.out.1 rlt).below hb1 (Nat.lt_of_lt_of_le rlt HB0.out.1.size)
        have lt1 : X0.heap.size < V1.heap.size := x3.lt
        have HNX := Lib.hid (And.intro hgood2 (And.intro hsh.1 hRn))
        have HL := Lib.hid hl
        have HX3 := Lib.hid x3
        clear hr hr2 hRn hgood2 hsh n12 hv hl hb1 x3 HSTEP
        go_upto_region 17 with (fail)
        have hcls : DivCls X0.heap.size V1.heap.size [.slice qa2 a.arr.length cq2, .slice ca2 a.ctx.length cc2, .slice oa a.out.length oc, .int .i64 a.steps] [.slice qb s.arr.length cqb, .slice cb s.ctx.length ccb, .slice ob s.out.length ocb, .int .i64 s.steps] (V1.alloc (.cells #[.slice qb s.arr.length cqb, .slice cb s.ctx.length ccb, .slice ob s.out.length ocb, .int .i64 s.steps] 49)) := ⟨HX3.out.below ((Below.refl _ _).alloc (Nat.le_refl _) _) lt1, heap_new1 _ _⟩
        have _inst : Nonempty (CWorld (DivCls X0.heap.size V1.heap.size [.slice qa2 a.arr.length cq2, .slice ca2 a.ctx.length cc2, .slice oa a.out.length oc, .int .i64 a.steps] [.slice qb s.arr.length cqb, .slice cb s.ctx.length ccb, .slice ob s.out.length ocb, .int .i64 s.steps])) := ⟨⟨_, hcls⟩⟩
        have p0 : ∀ p : CWorld (DivCls X0.heap.size V1.heap.size [.slice qa2 a.arr.length cq2, .slice ca2 a.ctx.length cc2, .slice oa a.out.length oc, .int .i64 a.steps] [.slice qb s.arr.length cqb, .slice cb s.ctx.length ccb, .slice ob s.out.length ocb, .int .i64 s.steps]), p.w.cell? ⟨X0.heap.size, 2, none⟩ = some (.slice oa a.out.length oc) := fun p => p.h.1.cell 2
        have p1 : ∀ p : CWorld (DivCls X0.heap.size V1.heap.size [.slice qa2 a.arr.length cq2, .slice ca2 a.ctx.length cc2, .slice oa a.out.length oc, .int .i64 a.steps] [.slice qb s.arr.length cqb, .slice cb s.ctx.length ccb, .slice ob s.out.length ocb, .int .i64 s.steps]), p.w.cell? ⟨X0.heap.size, 3, none⟩ = some (.int .i64 a.steps) := fun p => p.h.1.cell 3
        have p2 : ∀ p : CWorld (DivCls X0.heap.size V1.heap.size [.slice qa2 a.arr.length cq2, .slice ca2 a.ctx.length cc2, .slice oa a.out.length oc, .int .i64 a.steps] [.slice qb s.arr.length cqb, .slice cb s.ctx.length ccb, .slice ob s.out.length ocb, .int .i64 s.steps]), p.w.cell? ⟨V1.heap.size, 2, none⟩ = some (.slice ob s.out.length ocb) := fun p => p.h.2.cell 2
        have p3 : ∀ p : CWorld (DivCls X0.heap.size V1.heap.size [.slice qa2 a.arr.length cq2, .slice ca2 a.ctx.length cc2, .slice oa a.out.length oc, .int .i64 a.steps] [.slice qb s.arr.length cqb, .slice cb s.ctx.length ccb, .slice ob s.out.length ocb, .int .i64 s.steps]), p.w.cell? ⟨V1.heap.size, 3, none⟩ = some (.int .i64 s.steps) := fun p => p.h.2.cell 3
        have p4 : ∀ p : CWorld (DivCls X0.heap.size V1.heap.size [.slice qa2 a.arr.length cq2, .slice ca2 a.ctx.length cc2, .slice oa a.out.length oc, .int .i64 a.steps] [.slice qb s.arr.length cqb, .slice cb s.ctx.length ccb, .slice ob s.out.length ocb, .int .i64 s.steps]), p.w.cell? ⟨V1.heap.size, 0, none⟩ = some (.slice qb s.arr.length cqb) := fun p => p.h.2.cell 0
        have p5 : ∀ p : CWorld (DivCls X0.heap.size V1.heap.size [.slice qa2 a.arr.length cq2, .slice ca2 a.ctx.length cc2, .slice oa a.out.length oc, .int .i64 a.steps] [.slice qb s.arr.length cqb, .slice cb s.ctx.length ccb, .slice ob s.out.length ocb, .int .i64 s.steps]), p.w.cell? ⟨V1.heap.size, 0 + 1, none⟩ = some (.slice cb s.ctx.length ccb) := fun p => p.h.2.cell 1
        refine wp_region_mix (Cls (DivCls X0.heap.size V1.heap.size [.slice qa2 a.arr.length cq2, .slice ca2 a.ctx.length cc2, .slice oa a.out.length oc, .int .i64 a.steps] [.slice qb s.arr.length cqb, .slice cb s.ctx.length ccb, .slice ob s.out.length ocb, .int .i64 s.steps])) [1, 3, 5, 8, 10] [0, 2, 4, 7, 9, 11] [(2, 0), (2, 2), (2, 4), (2, 7), (2, 9), (1, 1), (1, 3), (1, 5), (1, 8), (1, 10), (2, 11), (0, 6), (0, 12), (0, 13)] (by kernel_rfl) (by kernel_rfl) (fun c a d v w h => by cases d <;> exact h) ⟨⟨(V1.alloc (.cells #[.slice qb s.arr.length cqb, .slice cb s.ctx.length ccb, .slice ob s.out.length ocb, .int .i64 s.steps] 49)).drew, hcls⟩, rfl⟩ ?_
        simp only [getPlan, List.filterMap_cons, List.filterMap_nil, List.getElem?_toArray, List.getElem?_cons_succ, List.getElem?_cons_zero, Option.map_some]
        repeat ((first | refine wpPlan_pure (fun K hK => ?_) | refine wpPlan_float (fun K hK => ?_)); go_simp; refine hK _ ?_; clear hK K)
        clear p0 p1 p2 p3 p4 p5 hcls _inst
        have hown := own_same (w' := (V1.alloc (.cells #[.slice qb s.arr.length cqb, .slice cb s.ctx.length ccb, .slice ob s.out.length ocb, .int .i64 s.steps] 49)).drew) HF.out.out (fun k hk => by
          have h1 := (HF.out.out.lt k hk).2
          have h2 : k < V0.heap.size := Nat.lt_of_lt_of_le h1 HB0.out.1.size
          show (V1.alloc _).heap[k]? = _
          rw [Below.heap_alloc _ _ _ (Nat.lt_of_lt_of_le h2 HB1.out.size), HB1.out.block k h2, HB0.out.1.block k h1])
        have hrow : RowB (V1.alloc (.cells #[.slice qb s.arr.length cqb, .slice cb s.ctx.length ccb, .slice ob s.out.length ocb, .int .i64 s.steps] 49)).drew.heap.size (V1.alloc (.cells #[.slice qb s.arr.length cqb, .slice cb s.ctx.length ccb, .slice ob s.out.length ocb, .int .i64 s.steps] 49)).drew 1 ob s.out.length fun j _ => .int .u8 (s.out.getD j 0) :=
          (HL.out _ (by simp) (fun k _ hk => Below.heap_alloc _ _ _ hk)).2
        have HOWN := Lib.hid hown
        have HROW := Lib.hid hrow
        have hbase : X0.heap.size + 1 ≤ (V1.alloc (.cells #[.slice qb s.arr.length cqb, .slice cb s.ctx.length ccb, .slice ob s.out.length ocb, .int .i64 s.steps] 49)).drew.heap.size := by simp; omega
        clear hown hrow
        refine wpPlan_keep ?_
        refine wpList_app_row Try.elU8 rfl (.tmp 87) (.tmp 89) rfl (X0.heap.size + 1) (.slice oa a.out.length oc) a.out.length (ints .u8 a.out) rfl HOWN.out ob s.out.length ocb (fun j => .int .u8 (s.out.getD j 0)) rfl HROW.out (fun _ => rfl) (by omega) hbase ?_
        intro va vcap V3 hown3 hg3 hat3
        obtain ⟨y1, y2, y3, y4⟩ := div_round HF.out HB0.out.1 HB1.out HL.out hg3 hown3
        have Y1 := Lib.hid y1
        have Y2 := Lib.hid y2
        have Y4 := Lib.hid y4
        have b0 : V3.cell? ⟨X0.heap.size, 0, none⟩ = some (.slice qa2 a.arr.length cq2) := y2.cell 0
        have b1 : V3.cell? ⟨X0.heap.size, 0 + 1, none⟩ = some (.slice ca2 a.ctx.length cc2) := y2.cell 1
        have b2 : V3.cell? ⟨X0.heap.size, 0 + 1 + 1, none⟩ = some (.slice oa a.out.length oc) := y2.cell 2
        have b3 : V3.cell? ⟨X0.heap.size, 0 + 1 + 1 + 1, none⟩ = some (.int .i64 a.steps) := y2.cell 3
        have g0 := y2.frozen 0
        have g1 := y2.frozen (0 + 1)
        have g2 := y2.frozen (0 + 1 + 1)
        have g3 := y2.frozen (0 + 1 + 1 + 1)
        clear y1 y2 y4 hown3 hg3 hat3 HOWN HROW
        refine ⟨⟨⟨V3, Y2.out, Y1.out⟩, rfl⟩, ?_⟩
        refine wpPlan_tail (by kernel_rfl) ?_
        simp only [List.map_cons, List.map_nil]
        go_upto_region 10 with (fail)
        refine wp_gen (fun W => DivAt X0 ⟨s.arr, s.ctx, a.out ++ s.out, a.steps + s.steps⟩ qb cb va cqb ccb vcap W) ?_ ?_
        · refine Y4.out _ (fun k h2 => ?_) (by simp) rfl rfl rfl ?_
          · rw [Below.heap_setCell _ _ _ _ h2, Below.heap_setCell _ _ _ _ h2, Below.heap_setCell _ _ _ _ h2, Below.heap_setCell _ _ _ _ h2]
          · exact (((Y2.out.set 0 _).set 1 _).set 2 _).set 3 _
        intro W5 F5
        have HF5 := Lib.hid F5
        clear F5 b0 b1 b2 b3 g0 g1 g2 g3
        go_wp2
        go_roundw
        case rel => exact ⟨k + 1, ⟨s.arr, s.ctx, a.out ++ s.out, a.steps + s.steps⟩, qb, cb, va, cqb, ccb, vcap, by first | (simp; done) | (simp; omega), by omega, HNX.out.1, HNX.out.2.1, HNX.out.2.2, HF5.out⟩
        case measure => simp [intOf]; omega
    · have e1 : ((k : Int) == (data.length : Int)) = true := by first | (simp; omega) | (subst hkd; simp)
      have e2 : decide ((k : Int) < (data.length : Int)) = false := by simp; omega
      have hin0 : inp = 0 := by
        first
          | rfl
          | (rw [← hinp, hkd, List.getD_eq_getElem?_getD, List.getElem?_eq_none (Nat.le_refl _)]; rfl)
      have hdec : decide (k = data.length) = true := by first | (simp; omega) | (simpa using hkd)
      have hstep := feedGo_step (ars := ars) (regs := regs) (spills := spills) (cd := cd) (data := data) (fuel := 3000) (k := k) (a := a) hlt
      rw [HGO2.out] at hstep
      have HSTEP := Lib.hid hstep
      have HIN := Lib.hid (And.intro hinp (And.intro hdec (show inp = 0 ∧ u32 0 from ⟨hin0, hin0 ▸ i32⟩)))
      clear hstep hin0 hdec
      clear hlt hinp i32
      go_upto_region 14 with (fail)
      refine wp_gen (fun V0 => Below wr.heap.size wr V0 ∧ Blk V0 wr.heap.size [.int .u32 0, .bool true, .int .i64 (3000 - a.steps)] 44) ⟨(Below.refl _ _).alloc (Nat.le_refl _) _, heap_new1 _ _⟩ ?_
      rintro V0 ⟨hb0, kc⟩
      have x1 := (HX.out.2.1.below HF.out.bel (Nat.lt_trans hl4 hlX)).below hb0 (Nat.lt_trans (Nat.lt_trans hl4 hlX) rlt)
      have x3 := HF.out.all.below hb0 rlt
      have x4 := HF.out.rows hb0
      have xw : Below w.heap.size w wr := HX.out.1.trans (HF.out.bel.mono HX.out.1.size)
      have x5 := xw.trans (hb0.mono xw.size)
      have c0 : V0.cell? ⟨w.heap.size, 0, none⟩ = some (.slice arsA ars.length arsC) := x1.cell 0
      have c1 : V0.cell? ⟨w.heap.size, 0 + 1, none⟩ = some (.int .i64 regs) := x1.cell 1
      have c2 : V0.cell? ⟨w.heap.size, 0 + 1 + 1, none⟩ = some (.int .i64 spills) := x1.cell 2
      have c3 : V0.cell? ⟨w.heap.size, 0 + 1 + 1 + 1, none⟩ = some (.slice codeA cd.length codeC) := x1.cell 3
      have m0 : V0.cell? ⟨X0.heap.size, 0, none⟩ = some (.slice qa2 a.arr.length cq2) := x3.cell 0
      have m1 : V0.cell? ⟨X0.heap.size, 0 + 1, none⟩ = some (.slice ca2 a.ctx.length cc2) := x3.cell 1
      have d0 : V0.cell? ⟨wr.heap.size, 0, none⟩ = some (.int .u32 0) := kc.cell 0
      have d1 : V0.cell? ⟨wr.heap.size, 0 + 1, none⟩ = some (.bool true) := kc.cell 1
      have d2 : V0.cell? ⟨wr.heap.size, 0 + 1 + 1, none⟩ = some (.int .i64 (3000 - a.steps)) := kc.cell 2
      have HEX := Lib.hid (HRU.out V0 x5 qa2 cq2 ca2 cc2 a.arr a.ctx 0 true (3000 - a.steps) x4 HGD.out.fit HGD.out.ua HGD.out.uc HIN.out.2.2.2)
      have HB0 := Lib.hid (And.intro hb0 x5)
      clear x1 x3 x4 x5 xw hb0 kc r3
      go_wp2_with fail
      refine HEX.out.mono ?_
      rintro e V1 ⟨hb1, hpost⟩
      clear HEX c0 c1 c2 c3 m0 m1 d0 d1 d2
      have HB1 := Lib.hid hb1
      have hl1 : wr.heap.size < V1.heap.size + 1 := by have h1 := HB0.out.1.size; have h2 := hb1.size; omega
      cases hr : machRun ars regs spills cd a.arr a.ctx 0 true (3000 - a.steps) with
      | error n =>
        rw [hr] at hpost
        replace hpost : e = .returned (.tuple #[.agg #[.slice none 0 0, .slice none 0 0, .slice none 0 0, .int .i64 0], .int .i64 n]) := hpost
        subst hpost
        have hn0 : (n != 0) = true := by simpa using NeedsErr hr
        have hRn : R = .error n := by
          rw [HSTEP.out]
          unfold feedStep
          first
            | (rw [HIN.out.1, HIN.out.2.1, HIN.out.2.2.1, hr]; rfl)
            | (rw [HIN.out.1, HIN.out.2.1, hr]; rfl)
        have her := HR.out.2 n hRn
        subst her
        clear hr hRn hb1
        go_upto_region 16 with (fail)
        refine wp_gen (fun W => Below w.heap.size w W) ?_ ?_
        · have hwv := HB0.out.2.trans (HB1.out.mono HB0.out.2.size)
          exact hwv.alloc hwv.size _
        intro V2 hb2
        have H2' := Lib.hid hb2
        clear hb2
        go_wp2_with fail
        refine (awake_true V2).mono ?_
        rintro e V3 ⟨rfl, hb3⟩
        have H3 := Lib.hid (H2'.out.trans (hb3.mono H2'.out.size))
        clear hb3
        go_wp2
        go_ret
        exact ⟨rfl, H3.out⟩
      | ok s =>
        rw [hr] at hpost
        obtain ⟨v, rfl, hv⟩ := hpost
        obtain ⟨qb, cqb, cb, ccb, ob, ocb, rfl, hl⟩ := lift_run hv
        have hr2 : machRun ars regs spills cd a.arr a.ctx (data.getD k 0) (decide (k = data.length)) (3000 - a.steps) = .ok s := by
          first
            | (rw [HIN.out.1, HIN.out.2.1, HIN.out.2.2.1]; exact hr)
            | (rw [HIN.out.1, HIN.out.2.1]; exact hr)
        have n12 := mach_fuel HOK.out.arg HGD.out.ua HGD.out.uc HIN.out.2.2.2 hr
        have n1 := n12.1
        have n2 := n12.2.1
        have hsh := feedGo_short hr2 hos (by omega)
        have hgood2 : FGood ars 3000 ⟨s.arr, s.ctx, a.out ++ s.out, a.steps + s.steps⟩ := feedStep_good HOK.out.arg HD8.out HGD.out hsh.2
        have hRn : feedGo ars regs spills cd data 3000 (data.length + 1 - (k + 1)) (k + 1) ⟨s.arr, s.ctx, a.out ++ s.out, a.steps + s.steps⟩ = R := by
          rw [HSTEP.out, hsh.2]; rfl
        have o1 := (mach_out hr).1
        have hol := HGD.out.ol
        have x3 : Blk V1 X0.heap.size [.slice qa2 a.arr.length cq2, .slice ca2 a.ctx.length cc2, .slice oa a.out.length oc, .int .i64 a.steps] 49 := (HF.out.all.below HB0.out.1 rlt).below hb1 (Nat.lt_of_lt_of_le rlt HB0.out.1.size)
        have lt1 : X0.heap.size < V1.heap.size := x3.lt
        have HNX := Lib.hid (And.intro hgood2 (And.intro hsh.1 hRn))
        have HL := Lib.hid hl
        have HX3 := Lib.hid x3
        clear hr hr2 hRn hgood2 hsh n12 hv hl hb1 x3 HSTEP
        go_upto_region 17 with (fail)
        have hcls : DivCls X0.heap.size V1.heap.size [.slice qa2 a.arr.length cq2, .slice ca2 a.ctx.length cc2, .slice oa a.out.length oc, .int .i64 a.steps] [.slice qb s.arr.length cqb, .slice cb s.ctx.length ccb, .slice ob s.out.length ocb, .int .i64 s.steps] (V1.alloc (.cells #[.slice qb s.arr.length cqb, .slice cb s.ctx.length ccb, .slice ob s.out.length ocb, .int .i64 s.steps] 49)) := ⟨HX3.out.below ((Below.refl _ _).alloc (Nat.le_refl _) _) lt1, heap_new1 _ _⟩
        have _inst : Nonempty (CWorld (DivCls X0.heap.size V1.heap.size [.slice qa2 a.arr.length cq2, .slice ca2 a.ctx.length cc2, .slice oa a.out.length oc, .int .i64 a.steps] [.slice qb s.arr.length cqb, .slice cb s.ctx.length ccb, .slice ob s.out.length ocb, .int .i64 s.steps])) := ⟨⟨_, hcls⟩⟩
        have p0 : ∀ p : CWorld (DivCls X0.heap.size V1.heap.size [.slice qa2 a.arr.length cq2, .slice ca2 a.ctx.length cc2, .slice oa a.out.length oc, .int .i64 a.steps] [.slice qb s.arr.length cqb, .slice cb s.ctx.length ccb, .slice ob s.out.length ocb, .int .i64 s.steps]), p.w.cell? ⟨X0.heap.size, 2, none⟩ = some (.slice oa a.out.length oc) := fun p => p.h.1.cell 2
        have p1 : ∀ p : CWorld (DivCls X0.heap.size V1.heap.size [.slice qa2 a.arr.length cq2, .slice ca2 a.ctx.length cc2, .slice oa a.out.length oc, .int .i64 a.steps] [.slice qb s.arr.length cqb, .slice cb s.ctx.length ccb, .slice ob s.out.length ocb, .int .i64 s.steps]), p.w.cell? ⟨X0.heap.size, 3, none⟩ = some (.int .i64 a.steps) := fun p => p.h.1.cell 3
        have p2 : ∀ p : CWorld (DivCls X0.heap.size V1.heap.size [.slice qa2 a.arr.length cq2, .slice ca2 a.ctx.length cc2, .slice oa a.out.length oc, .int .i64 a.steps] [.slice qb s.arr.length cqb, .slice cb s.ctx.length ccb, .slice ob s.out.length ocb, .int .i64 s.steps]), p.w.cell? ⟨V1.heap.size, 2, none⟩ = some (.slice ob s.out.length ocb) := fun p => p.h.2.cell 2
        have p3 : ∀ p : CWorld (DivCls X0.heap.size V1.heap.size [.slice qa2 a.arr.length cq2, .slice ca2 a.ctx.length cc2, .slice oa a.out.length oc, .int .i64 a.steps] [.slice qb s.arr.length cqb, .slice cb s.ctx.length ccb, .slice ob s.out.length ocb, .int .i64 s.steps]), p.w.cell? ⟨V1.heap.size, 3, none⟩ = some (.int .i64 s.steps) := fun p => p.h.2.cell 3
        have p4 : ∀ p : CWorld (DivCls X0.heap.size V1.heap.size [.slice qa2 a.arr.length cq2, .slice ca2 a.ctx.length cc2, .slice oa a.out.length oc, .int .i64 a.steps] [.slice qb s.arr.length cqb, .slice cb s.ctx.length ccb, .slice ob s.out.length ocb, .int .i64 s.steps]), p.w.cell? ⟨V1.heap.size, 0, none⟩ = some (.slice qb s.arr.length cqb) := fun p => p.h.2.cell 0
        have p5 : ∀ p : CWorld (DivCls X0.heap.size V1.heap.size [.slice qa2 a.arr.length cq2, .slice ca2 a.ctx.length cc2, .slice oa a.out.length oc, .int .i64 a.steps] [.slice qb s.arr.length cqb, .slice cb s.ctx.length ccb, .slice ob s.out.length ocb, .int .i64 s.steps]), p.w.cell? ⟨V1.heap.size, 0 + 1, none⟩ = some (.slice cb s.ctx.length ccb) := fun p => p.h.2.cell 1
        refine wp_region_mix (Cls (DivCls X0.heap.size V1.heap.size [.slice qa2 a.arr.length cq2, .slice ca2 a.ctx.length cc2, .slice oa a.out.length oc, .int .i64 a.steps] [.slice qb s.arr.length cqb, .slice cb s.ctx.length ccb, .slice ob s.out.length ocb, .int .i64 s.steps])) [1, 3, 5, 8, 10] [0, 2, 4, 7, 9, 11] [(2, 0), (2, 2), (2, 4), (2, 7), (2, 9), (1, 1), (1, 3), (1, 5), (1, 8), (1, 10), (2, 11), (0, 6), (0, 12), (0, 13)] (by kernel_rfl) (by kernel_rfl) (fun c a d v w h => by cases d <;> exact h) ⟨⟨(V1.alloc (.cells #[.slice qb s.arr.length cqb, .slice cb s.ctx.length ccb, .slice ob s.out.length ocb, .int .i64 s.steps] 49)).drew, hcls⟩, rfl⟩ ?_
        simp only [getPlan, List.filterMap_cons, List.filterMap_nil, List.getElem?_toArray, List.getElem?_cons_succ, List.getElem?_cons_zero, Option.map_some]
        repeat ((first | refine wpPlan_pure (fun K hK => ?_) | refine wpPlan_float (fun K hK => ?_)); go_simp; refine hK _ ?_; clear hK K)
        clear p0 p1 p2 p3 p4 p5 hcls _inst
        have hown := own_same (w' := (V1.alloc (.cells #[.slice qb s.arr.length cqb, .slice cb s.ctx.length ccb, .slice ob s.out.length ocb, .int .i64 s.steps] 49)).drew) HF.out.out (fun k hk => by
          have h1 := (HF.out.out.lt k hk).2
          have h2 : k < V0.heap.size := Nat.lt_of_lt_of_le h1 HB0.out.1.size
          show (V1.alloc _).heap[k]? = _
          rw [Below.heap_alloc _ _ _ (Nat.lt_of_lt_of_le h2 HB1.out.size), HB1.out.block k h2, HB0.out.1.block k h1])
        have hrow : RowB (V1.alloc (.cells #[.slice qb s.arr.length cqb, .slice cb s.ctx.length ccb, .slice ob s.out.length ocb, .int .i64 s.steps] 49)).drew.heap.size (V1.alloc (.cells #[.slice qb s.arr.length cqb, .slice cb s.ctx.length ccb, .slice ob s.out.length ocb, .int .i64 s.steps] 49)).drew 1 ob s.out.length fun j _ => .int .u8 (s.out.getD j 0) :=
          (HL.out _ (by simp) (fun k _ hk => Below.heap_alloc _ _ _ hk)).2
        have HOWN := Lib.hid hown
        have HROW := Lib.hid hrow
        have hbase : X0.heap.size + 1 ≤ (V1.alloc (.cells #[.slice qb s.arr.length cqb, .slice cb s.ctx.length ccb, .slice ob s.out.length ocb, .int .i64 s.steps] 49)).drew.heap.size := by simp; omega
        clear hown hrow
        refine wpPlan_keep ?_
        refine wpList_app_row Try.elU8 rfl (.tmp 87) (.tmp 89) rfl (X0.heap.size + 1) (.slice oa a.out.length oc) a.out.length (ints .u8 a.out) rfl HOWN.out ob s.out.length ocb (fun j => .int .u8 (s.out.getD j 0)) rfl HROW.out (fun _ => rfl) (by omega) hbase ?_
        intro va vcap V3 hown3 hg3 hat3
        obtain ⟨y1, y2, y3, y4⟩ := div_round HF.out HB0.out.1 HB1.out HL.out hg3 hown3
        have Y1 := Lib.hid y1
        have Y2 := Lib.hid y2
        have Y4 := Lib.hid y4
        have b0 : V3.cell? ⟨X0.heap.size, 0, none⟩ = some (.slice qa2 a.arr.length cq2) := y2.cell 0
        have b1 : V3.cell? ⟨X0.heap.size, 0 + 1, none⟩ = some (.slice ca2 a.ctx.length cc2) := y2.cell 1
        have b2 : V3.cell? ⟨X0.heap.size, 0 + 1 + 1, none⟩ = some (.slice oa a.out.length oc) := y2.cell 2
        have b3 : V3.cell? ⟨X0.heap.size, 0 + 1 + 1 + 1, none⟩ = some (.int .i64 a.steps) := y2.cell 3
        have g0 := y2.frozen 0
        have g1 := y2.frozen (0 + 1)
        have g2 := y2.frozen (0 + 1 + 1)
        have g3 := y2.frozen (0 + 1 + 1 + 1)
        clear y1 y2 y4 hown3 hg3 hat3 HOWN HROW
        refine ⟨⟨⟨V3, Y2.out, Y1.out⟩, rfl⟩, ?_⟩
        refine wpPlan_tail (by kernel_rfl) ?_
        simp only [List.map_cons, List.map_nil]
        go_upto_region 10 with (fail)
        refine wp_gen (fun W => DivAt X0 ⟨s.arr, s.ctx, a.out ++ s.out, a.steps + s.steps⟩ qb cb va cqb ccb vcap W) ?_ ?_
        · refine Y4.out _ (fun k h2 => ?_) (by simp) rfl rfl rfl ?_
          · rw [Below.heap_setCell _ _ _ _ h2, Below.heap_setCell _ _ _ _ h2, Below.heap_setCell _ _ _ _ h2, Below.heap_setCell _ _ _ _ h2]
          · exact (((Y2.out.set 0 _).set 1 _).set 2 _).set 3 _
        intro W5 F5
        have HF5 := Lib.hid F5
        clear F5 b0 b1 b2 b3 g0 g1 g2 g3
        go_wp2
        go_roundw
        case rel => exact ⟨k + 1, ⟨s.arr, s.ctx, a.out ++ s.out, a.steps + s.steps⟩, qb, cb, va, cqb, ccb, vcap, by first | (simp; done) | (simp; omega), by omega, HNX.out.1, HNX.out.2.1, HNX.out.2.2, HF5.out⟩
        case measure => simp [intOf]; omega

theorem divides_walk (ars : List Ar) (regs spills : Int) (cd : List RI) (dA : Option Addr) (dC : Nat) (data : List Int) (v : Value) (w : World) (hc : CodeAt w ars regs spills cd v) (ok : CodeOk ars regs spills cd)
    (hD : RowB w.heap.size w 1 dA data.length fun j _ => .int .u8 (data.getD j 0)) (hd8 : ∀ n ∈ data, 0 ≤ n ∧ n < 256) :
    Calls Try.prog 8 #[v, .slice dA data.length dC] w fun e w' => e = .returned (.bool true) ∧ Below w.heap.size w w' := by
  obtain ⟨arsA, arsC, codeA, codeC, rfl, hA, hC⟩ := hc
  by_cases hidle : (!(fewB ars cd) || decide ((20 : Int) < (data.length : Int))) = true
  · exact divides_idle arsA codeA dA arsC codeC dC ars regs spills cd data w hA (fewB ars cd) rfl hidle
  · rw [Bool.or_eq_true] at hidle
    exact divides_main arsA codeA dA arsC codeC dC ars regs spills cd data w hA hC hD ok hd8 (by
      cases h : fewB ars cd with
      | true => rfl
      | false => exact absurd (.inl (by rw [h]; rfl)) hidle) (by
        have : ¬ (20 : Int) < (data.length : Int) := fun h => hidle (.inr (decide_eq_true h))
        omega)
end Go.Proofs.Ytefdnjhhaejgbaa

namespace Go.Proofs.Ytefdnjhhaejgbaa.machineDivides
open Go.ChangeShapes Go.WideShapes Go.ChangeAt Go.RowKit
open Go.ChangeMaps (open_string shut_string)
set_option linter.unusedVariables false

theorem own : ownKnob Try.prog.godebug = none := by kernel_rfl
theorem params_read : (Try.f8.params.toList.all fun t => Try.prog.readableRec t && decide (t < Try.prog.types.size)) = true := by kernel_rfl
theorem laid : laidOutB Try.prog = true := by kernel_rfl
theorem params_len : Try.f8.params.toList.length = 2 := by kernel_rfl

set_option maxRecDepth 100000 in
theorem lifted (os : Os) (started : os.Started) (H : Type) (enc : TypeId × Value → H) :
    ReturnsInHanded {} Try.checked os 8 .any (Rows.machineDividesSpec.pre6 enc Try.prog Try.f8 Rows.machineDividesRow.domain false) (Rows.machineDividesSpec.post enc Try.prog Try.f8 false true false false) := by
  refine law_row (C := Try.checked) (k := 8) (f := Try.f8) (s := Rows.machineDividesSpec) (tb := 4) own started (by kernel_rfl) Try.func8
    (ChangeSpec.witness6 (enc := enc) (C := Try.checked) false ⟨#[], #[.agg #[.slice none 0 0, .int .i64 0, .int .i64 0, .slice none 0 0], .slice none 0 0], []⟩ 8 (by kernel_rfl) (by kernel_rfl) (by kernel_rfl) (by kernel_rfl))
    laid ?_ rfl ?_ (by kernel_rfl) Try.underlying4 ?_
  · intro t ht
    have := List.all_eq_true.1 params_read t ht
    rw [Bool.and_eq_true, decide_eq_true_eq] at this
    exact this
  · intro ds hds
    rw [params_len] at hds
    match ds, hds with
    | [a, b], _ => rfl
  · intro W base args ds p hval hA
    rw [Try.params8] at hA hval
    obtain ⟨v0, vs0, d0, ds0, p0, q0, hargs, rfl, rfl, h0, r0⟩ := trodAll_cons hA
    obtain ⟨v1, vs1, d1, ds1, p1, q1, rfl, rfl, rfl, h1, r1⟩ := trodAll_cons r0
    obtain ⟨rfl, rfl, rfl⟩ := trodAll_nil r1
    obtain rfl : args = #[v0, v1] := by cases args; simp_all
    obtain ⟨ars, regs, spills, cd, hc, ok⟩ := open_code (hval 0 _ v0 rfl rfl) h0
    obtain ⟨dA, dC, data, rfl, _, hD, hd8⟩ := open_bytes (hval 1 _ v1 rfl rfl) h1
    exact divides_walk ars regs spills cd dA dC data v0 W hc ok hD hd8

theorem over : Rows.machineDividesRow.holds Try.pinned (OpenSpec.ofChange Rows.machineDividesSpec) :=
  OpenClaim.holds_of_wide 8 Try.f8 rfl rfl rfl rfl rfl rfl rfl ⟨rfl, rfl, rfl, rfl, rfl⟩ rfl rfl rfl rfl rfl (by kernel_rfl) Try.func8 (by kernel_rfl)
    (of_decide_eq_true (by kernel_rfl)) (by unfold Func.isWrapper; first | (rw [if_pos (by decide +kernel)]; kernel_rfl) | (rw [if_neg (by decide +kernel)]; exact ⟨rfl, rfl⟩))
    (fun os started H enc _ => lifted os started H enc)

/-- ████ THE STATEMENT ████ -/
theorem proved : Rows.MachineDividesSaid :=
  over
#print axioms proved
end Go.Proofs.Ytefdnjhhaejgbaa.machineDivides
