/- A part of the proof of MachineRuns: Rk. No condition. -/
import Derived.Test.YtefdnjhhaejgbaaGr30
import Derived.Test.YtefdnjhhaejgbaaGr15
import Derived.Test.YtefdnjhhaejgbaaGr35
set_option linter.unusedSimpArgs false
set_option linter.unusedVariables false
namespace Go.Proofs.Ytefdnjhhaejgbaa
open Go.RowKit
set_option linter.unusedVariables false

theorem fits_nz {ars : List Ar} {regs spills : Int} {cd : List RI} {arr : List (List Int)} {n : Nat} (G : InOrd ars regs spills cd) (hf : fitsB ars arr n = true) : ∀ a ∈ arr, 0 < a.length ∧ a.length ≤ 65536 := fun a ha => by
  obtain ⟨h1, h2, h3⟩ := fits_lens hf
  obtain ⟨k, hk, rfl⟩ := List.getElem_of_mem ha
  have e := h3 k hk
  have hm := G.hars (ars.getD k default) (by rw [List.getD_eq_getElem?_getD, List.getElem?_eq_getElem (by omega)]; exact List.getElem_mem _)
  rw [List.getD_eq_getElem?_getD, List.getElem?_eq_getElem hk, Option.getD_some] at e
  omega

set_option maxRecDepth 100000 in
set_option maxHeartbeats 1000000 in
theorem RRun_any (arsA codeA qa ca : Option Addr) (arsC codeC cq cc : Nat) (ars : List Ar) (regs spills : Int) (cd : List RI) (arr : List (List Int)) (ctx : List Int) (input : Int) (ended : Bool) (fuel : Int) (w : World)
    (hars : RowB w.heap.size w 2 arsA ars.length fun i j => (ars.getD i default).cell j) (hcd : RowB w.heap.size w 5 codeA cd.length fun i j => (cd.getD i default).cell j)
    (hg : GridR w qa arr) (hctx : RowB w.heap.size w 1 ca ctx.length fun j _ => .int .u32 (ctx.getD j 0))
    (hA : ars.length ≤ 9223372036854775806) (hC : cd.length ≤ 9223372036854775807) (harg : ∀ i ∈ cd, 0 ≤ i.arg ∧ i.arg < 4294967296) (hl : ∀ a ∈ arr, a.length ≤ 9223372036854775806) (ha : ∀ a ∈ arr, u32s a) (hc : u32s ctx) (hi : u32 input) :
    Calls Try.prog 19 #[.agg #[.slice arsA ars.length arsC, .int .i64 regs, .int .i64 spills, .slice codeA cd.length codeC], .agg #[.slice qa arr.length cq, .slice ca ctx.length cc], .agg #[.int .u32 input, .bool ended, .int .i64 fuel]] w
      (ExecPost w (machRun ars regs spills cd arr ctx input ended fuel)) := by
  have HARS := Lib.hid hars
  have HCD := Lib.hid hcd
  have HARG := Lib.hid harg
  have HG := Lib.hid hg
  have HCTX := Lib.hid hctx
  have HL := Lib.hid hl
  have HU := Lib.hid (And.intro ha (And.intro hc hi))
  clear hars hcd harg hg hctx hl ha hc hi
  obtain ⟨res, hres⟩ : ∃ res, machRun ars regs spills cd arr ctx input ended fuel = res := ⟨_, rfl⟩
  rw [hres]
  have HRES := Lib.hid hres
  clear hres
  go_enter Try.func19, Try.ntmps19
  go_upto_region 1 with (fail)
  refine wp_gen _ (run_boxes w [.slice arsA ars.length arsC, .int .i64 regs, .int .i64 spills, .slice codeA cd.length codeC] [.slice qa arr.length cq, .slice ca ctx.length cc] [.int .u32 input, .bool ended, .int .i64 fuel]) ?_
  rintro W ⟨hbW, k1, k2, k3, k4, hsz⟩
  have HCH := Lib.hid (RCheck_any arsA codeA arsC codeC ars regs spills cd W ((HARS.out.below hbW).mono hbW.size) ((HCD.out.below hbW).mono hbW.size) (by omega) hC HARG.out)
  have a0 : W.cell? ⟨w.heap.size, 0, none⟩ = some (.slice arsA ars.length arsC) := k1.cell 0
  have a1 : W.cell? ⟨w.heap.size, 0 + 1, none⟩ = some (.int .i64 regs) := k1.cell 1
  have a2 : W.cell? ⟨w.heap.size, 0 + 1 + 1, none⟩ = some (.int .i64 spills) := k1.cell 2
  have a3 : W.cell? ⟨w.heap.size, 0 + 1 + 1 + 1, none⟩ = some (.slice codeA cd.length codeC) := k1.cell 3
  have HW := Lib.hid (And.intro hbW (And.intro k1 (And.intro k2 (And.intro k3 (And.intro k4 hsz)))))
  clear hbW k1 k2 k3 k4 hsz
  obtain ⟨ce, hce⟩ : ∃ ce, chkCode ars regs spills cd = ce := ⟨_, rfl⟩
  have HCE := Lib.hid hce
  clear hce
  -- the end of the three ways with an error
  have ends : ∀ (Y : World) (er : Int), Below W.heap.size W Y → res = .error er →
      Blk Y (w.heap.size + 1 + 1 + 1) zeroRun 49 ∧ ExecPost w res (.returned (.tuple #[.agg #[.slice none 0 0, .slice none 0 0, .slice none 0 0, .int .i64 0], .int .i64 er]))
        ((((Y.setCell ⟨w.heap.size + 1 + 1 + 1, 0, none⟩ (.slice none 0 0)).setCell ⟨w.heap.size + 1 + 1 + 1, 1, none⟩ (.slice none 0 0)).setCell ⟨w.heap.size + 1 + 1 + 1, 2, none⟩ (.slice none 0 0)).setCell ⟨w.heap.size + 1 + 1 + 1, 3, none⟩ (.int .i64 0)) := by
    intro Y er hY hrr
    obtain ⟨hbW, _, _, _, k4, hsz⟩ := HW.out
    have hx : w.heap.size ≤ w.heap.size + 1 + 1 + 1 := by omega
    refine ⟨k4.below hY (by omega), ?_⟩
    rw [hrr]
    exact ⟨((((hbW.trans (hY.mono hbW.size)).setCell hx _).setCell hx _).setCell hx _).setCell hx _, rfl⟩
  have HEND := Lib.hid ends
  clear ends
  by_cases hz : ce.2 = 0
  rotate_left
  · have hne : (ce.2 != 0) = true := by simpa using hz
    have hrr : res = .error ce.2 := by rw [← HRES.out]; unfold machRun runRes; rw [HCE.out, if_pos hz]
    have HRR := Lib.hid hrr
    clear hz hrr
    go_wp2_with fail
    refine HCH.out.mono ?_
    rintro e Y ⟨⟨at_, he⟩, hbY⟩
    rw [HCE.out] at he
    subst he
    obtain ⟨hr9, hex⟩ := HEND.out Y ce.2 hbY HRR.out
    have z0 : Y.cell? ⟨w.heap.size + 1 + 1 + 1, 0, none⟩ = some (.slice none 0 0) := hr9.cell 0
    have z1 : Y.cell? ⟨w.heap.size + 1 + 1 + 1, 0 + 1, none⟩ = some (.slice none 0 0) := hr9.cell 1
    have z2 : Y.cell? ⟨w.heap.size + 1 + 1 + 1, 0 + 1 + 1, none⟩ = some (.slice none 0 0) := hr9.cell 2
    have z3 : Y.cell? ⟨w.heap.size + 1 + 1 + 1, 0 + 1 + 1 + 1, none⟩ = some (.int .i64 0) := hr9.cell 3
    have f0 := hr9.frozen 0
    have f1 := hr9.frozen (0 + 1)
    have f2 := hr9.frozen (0 + 1 + 1)
    have f3 := hr9.frozen (0 + 1 + 1 + 1)
    have HEX := Lib.hid hex
    clear hex
    go_wp2
    refine bodyPost_ret (v := .tuple #[.agg #[.slice none 0 0, .slice none 0 0, .slice none 0 0, .int .i64 0], .int .i64 ce.2]) ?_ rfl ?_
    · have e0 := ((((hr9.set 0 (.slice none 0 0)).set 1 (.slice none 0 0)).set 2 (.slice none 0 0)).set 3 (.int .i64 0))
      have y0 := e0.cell 0
      have y1 := e0.cell 1
      have y2 := e0.cell 2
      have y3 := e0.cell 3
      simp only [zeroRun, List.set_cons_zero, List.set_cons_succ, List.getElem?_cons_zero, List.getElem?_cons_succ] at y0 y1 y2 y3
      simp [results, Try.results19, go_sem, y0, y1, y2, y3]
    · exact HEX.out
  have G := chk_good (ars := ars) (regs := regs) (spills := spills) (cd := cd) (by rw [HCE.out]; exact hz)
  have HZ := Lib.hid hz
  have HGO := Lib.hid G
  clear hz G
  go_wp2_with fail
  refine HCH.out.mono ?_
  rintro e Y ⟨⟨at_, he⟩, hbY⟩
  rw [HCE.out, HZ.out] at he
  subst he
  clear a0 a1 a2 a3
  have l0 : w.heap.size + 3 < W.heap.size := by have := HW.out.2.2.2.2.2; omega
  have b1 : Blk Y w.heap.size [.slice arsA ars.length arsC, .int .i64 regs, .int .i64 spills, .slice codeA cd.length codeC] 25 := HW.out.2.1.below hbY (by omega)
  have b2 : Blk Y (w.heap.size + 1) [.slice qa arr.length cq, .slice ca ctx.length cc] 31 := HW.out.2.2.1.below hbY (by omega)
  have b3 : Blk Y (w.heap.size + 1 + 1) [.int .u32 input, .bool ended, .int .i64 fuel] 44 := HW.out.2.2.2.1.below hbY (by omega)
  have a0 : Y.cell? ⟨w.heap.size, 0, none⟩ = some (.slice arsA ars.length arsC) := b1.cell 0
  have m0 : Y.cell? ⟨w.heap.size + 1, 0, none⟩ = some (.slice qa arr.length cq) := b2.cell 0
  have m1 : Y.cell? ⟨w.heap.size + 1, 0 + 1, none⟩ = some (.slice ca ctx.length cc) := b2.cell 1
  have hwY : Below w.heap.size w Y := HW.out.1.trans (hbY.mono HW.out.1.size)
  have HFT := Lib.hid (fitsR arsA qa ca arsC cq cc ctx.length ars arr Y ((HARS.out.below hwY).mono hwY.size) (HG.out.below hwY) hA HL.out)
  have HY := Lib.hid (And.intro hbY (And.intro b1 (And.intro b2 (And.intro b3 hwY))))
  clear hbY b1 b2 b3 hwY HCH
  go_wp2_with fail
  refine HFT.out.mono ?_
  rintro e X ⟨he, hbX⟩
  have HBY := Lib.hid (show Below W.heap.size W X from HY.out.1.trans (hbX.mono HY.out.1.size))
  have lY : w.heap.size + 3 < Y.heap.size := by have := HY.out.1.size; omega
  cases hf : fitsB ars arr ctx.length
  · rw [hf] at he
    subst he
    have hrr : res = .error 3 := by rw [← HRES.out]; unfold machRun runRes; rw [HCE.out, if_neg (by simp [HZ.out]), if_pos hf]
    have HRR := Lib.hid hrr
    clear hf hrr hbX a0 m0 m1
    obtain ⟨hr9, hex⟩ := HEND.out X 3 HBY.out HRR.out
    have z0 : X.cell? ⟨w.heap.size + 1 + 1 + 1, 0, none⟩ = some (.slice none 0 0) := hr9.cell 0
    have z1 : X.cell? ⟨w.heap.size + 1 + 1 + 1, 0 + 1, none⟩ = some (.slice none 0 0) := hr9.cell 1
    have z2 : X.cell? ⟨w.heap.size + 1 + 1 + 1, 0 + 1 + 1, none⟩ = some (.slice none 0 0) := hr9.cell 2
    have z3 : X.cell? ⟨w.heap.size + 1 + 1 + 1, 0 + 1 + 1 + 1, none⟩ = some (.int .i64 0) := hr9.cell 3
    have f0 := hr9.frozen 0
    have f1 := hr9.frozen (0 + 1)
    have f2 := hr9.frozen (0 + 1 + 1)
    have f3 := hr9.frozen (0 + 1 + 1 + 1)
    have HEX := Lib.hid hex
    clear hex
    go_wp2
    refine bodyPost_ret (v := .tuple #[.agg #[.slice none 0 0, .slice none 0 0, .slice none 0 0, .int .i64 0], .int .i64 3]) ?_ rfl ?_
    · have e0 := ((((hr9.set 0 (.slice none 0 0)).set 1 (.slice none 0 0)).set 2 (.slice none 0 0)).set 3 (.int .i64 0))
      have y0 := e0.cell 0
      have y1 := e0.cell 1
      have y2 := e0.cell 2
      have y3 := e0.cell 3
      simp only [zeroRun, List.set_cons_zero, List.set_cons_succ, List.getElem?_cons_zero, List.getElem?_cons_succ] at y0 y1 y2 y3
      simp [results, Try.results19, go_sem, y0, y1, y2, y3]
    · exact HEX.out
  rw [hf] at he
  subst he
  have HF := Lib.hid hf
  clear hf
  have b1 : Blk X w.heap.size [.slice arsA ars.length arsC, .int .i64 regs, .int .i64 spills, .slice codeA cd.length codeC] 25 := HY.out.2.1.below hbX (by omega)
  have b2 : Blk X (w.heap.size + 1) [.slice qa arr.length cq, .slice ca ctx.length cc] 31 := HY.out.2.2.1.below hbX (by omega)
  have b3 : Blk X (w.heap.size + 1 + 1) [.int .u32 input, .bool ended, .int .i64 fuel] 44 := HY.out.2.2.2.1.below hbX (by omega)
  have hwX : Below w.heap.size w X := HY.out.2.2.2.2.trans (hbX.mono (by omega))
  have lX : w.heap.size + 3 < X.heap.size := by have := hbX.size; omega
  have d2 : X.cell? ⟨w.heap.size + 1 + 1, 2, none⟩ = some (.int .i64 fuel) := b3.cell 2
  clear a0 m0 m1
  have HX := Lib.hid (And.intro b1 (And.intro b2 (And.intro b3 hwX)))
  clear b1 b2 b3 hwX hbX
  by_cases h0 : fuel < 0
  · have hrr : res = .error 2 := by rw [← HRES.out]; unfold machRun runRes; rw [HCE.out, if_neg (by simp [HZ.out]), if_neg (by simp [HF.out]), if_pos (by omega)]
    have HRR := Lib.hid hrr
    have q0 : decide (fuel < 0) = true := by simpa using h0
    clear hrr
    obtain ⟨hr9, hex⟩ := HEND.out X 2 HBY.out HRR.out
    have z0 : X.cell? ⟨w.heap.size + 1 + 1 + 1, 0, none⟩ = some (.slice none 0 0) := hr9.cell 0
    have z1 : X.cell? ⟨w.heap.size + 1 + 1 + 1, 0 + 1, none⟩ = some (.slice none 0 0) := hr9.cell 1
    have z2 : X.cell? ⟨w.heap.size + 1 + 1 + 1, 0 + 1 + 1, none⟩ = some (.slice none 0 0) := hr9.cell 2
    have z3 : X.cell? ⟨w.heap.size + 1 + 1 + 1, 0 + 1 + 1 + 1, none⟩ = some (.int .i64 0) := hr9.cell 3
    have f0 := hr9.frozen 0
    have f1 := hr9.frozen (0 + 1)
    have f2 := hr9.frozen (0 + 1 + 1)
    have f3 := hr9.frozen (0 + 1 + 1 + 1)
    have HEX := Lib.hid hex
    clear hex
    go_wp2
    refine bodyPost_ret (v := .tuple #[.agg #[.slice none 0 0, .slice none 0 0, .slice none 0 0, .int .i64 0], .int .i64 2]) ?_ rfl ?_
    · have e0 := ((((hr9.set 0 (.slice none 0 0)).set 1 (.slice none 0 0)).set 2 (.slice none 0 0)).set 3 (.int .i64 0))
      have y0 := e0.cell 0
      have y1 := e0.cell 1
      have y2 := e0.cell 2
      have y3 := e0.cell 3
      simp only [zeroRun, List.set_cons_zero, List.set_cons_succ, List.getElem?_cons_zero, List.getElem?_cons_succ] at y0 y1 y2 y3
      simp [results, Try.results19, go_sem, y0, y1, y2, y3]
    · exact HEX.out
  by_cases h1 : 281474976710656 < fuel
  · have hrr : res = .error 2 := by rw [← HRES.out]; unfold machRun runRes; rw [HCE.out, if_neg (by simp [HZ.out]), if_neg (by simp [HF.out]), if_pos (by omega)]
    have HRR := Lib.hid hrr
    have q0 : decide (fuel < 0) = false := by simpa using h0
    have q1 : decide (281474976710656 < fuel) = true := by simpa using h1
    clear hrr
    obtain ⟨hr9, hex⟩ := HEND.out X 2 HBY.out HRR.out
    have z0 : X.cell? ⟨w.heap.size + 1 + 1 + 1, 0, none⟩ = some (.slice none 0 0) := hr9.cell 0
    have z1 : X.cell? ⟨w.heap.size + 1 + 1 + 1, 0 + 1, none⟩ = some (.slice none 0 0) := hr9.cell 1
    have z2 : X.cell? ⟨w.heap.size + 1 + 1 + 1, 0 + 1 + 1, none⟩ = some (.slice none 0 0) := hr9.cell 2
    have z3 : X.cell? ⟨w.heap.size + 1 + 1 + 1, 0 + 1 + 1 + 1, none⟩ = some (.int .i64 0) := hr9.cell 3
    have f0 := hr9.frozen 0
    have f1 := hr9.frozen (0 + 1)
    have f2 := hr9.frozen (0 + 1 + 1)
    have f3 := hr9.frozen (0 + 1 + 1 + 1)
    have HEX := Lib.hid hex
    clear hex
    go_wp2
    refine bodyPost_ret (v := .tuple #[.agg #[.slice none 0 0, .slice none 0 0, .slice none 0 0, .int .i64 0], .int .i64 2]) ?_ rfl ?_
    · have e0 := ((((hr9.set 0 (.slice none 0 0)).set 1 (.slice none 0 0)).set 2 (.slice none 0 0)).set 3 (.int .i64 0))
      have y0 := e0.cell 0
      have y1 := e0.cell 1
      have y2 := e0.cell 2
      have y3 := e0.cell 3
      simp only [zeroRun, List.set_cons_zero, List.set_cons_succ, List.getElem?_cons_zero, List.getElem?_cons_succ] at y0 y1 y2 y3
      simp [results, Try.results19, go_sem, y0, y1, y2, y3]
    · exact HEX.out
  have q0 : decide (fuel < 0) = false := by simpa using h0
  have q1 : decide (281474976710656 < fuel) = false := by simpa using h1
  have hfu : 0 ≤ fuel ∧ fuel ≤ 281474976710656 := by omega
  obtain ⟨t, R⟩ := good_tree HGO.out HARG.out input ended fuel
  have I := init_inv (input := input) (ended := ended) (fuel := fuel) HGO.out HF.out HU.out.1 HU.out.2.1 HU.out.2.2 hfu t
  have hrr : res = outRes cd.length (t.run (mkMC ars regs spills cd input ended fuel) ((mkMC ars regs spills cd input ended fuel).init arr ctx)) := by
    rw [← HRES.out]; unfold machRun runRes; rw [HCE.out, if_neg (by simp [HZ.out]), if_neg (by simp [HF.out]), if_neg (by omega)]
    exact mres_tree R rfl rfl I
  have hnz := fits_nz HGO.out HF.out
  obtain ⟨f1, f2, f3⟩ := fits_lens HF.out
  have e1 : (regs.toNat : Int) = regs := Int.toNat_of_nonneg HGO.out.hregs.1
  have e2 : (spills.toNat : Int) = spills := Int.toNat_of_nonneg HGO.out.hspl.1
  have hnA := HGO.out.hnA
  have hrun := rrun_any (mkMC ars regs spills cd input ended fuel) t R arr ctx I.fine arsA codeA qa ca arsC codeC cq cc X ((HCD.out.below HX.out.2.2.2).mono HX.out.2.2.2.size) ((HARS.out.below HX.out.2.2.2).mono HX.out.2.2.2.size)
    ((HG.out.below HX.out.2.2.2).toAt fun a ha => (hnz a ha).1) (((HCTX.out.below HX.out.2.2.2).mono HX.out.2.2.2.size).nums (by omega)) (by omega) hnz (by omega)
  simp only [mkMC, e1, e2] at hrun hrr
  rw [← hrr] at hrun
  have HRUN := Lib.hid hrun
  clear hrun hrr hnz f1 f2 f3 e1 e2 R I hfu
  have a0 : X.cell? ⟨w.heap.size, 0, none⟩ = some (.slice arsA ars.length arsC) := HX.out.1.cell 0
  have a1 : X.cell? ⟨w.heap.size, 0 + 1, none⟩ = some (.int .i64 regs) := HX.out.1.cell 1
  have a2 : X.cell? ⟨w.heap.size, 0 + 1 + 1, none⟩ = some (.int .i64 spills) := HX.out.1.cell 2
  have a3 : X.cell? ⟨w.heap.size, 0 + 1 + 1 + 1, none⟩ = some (.slice codeA cd.length codeC) := HX.out.1.cell 3
  have m0 : X.cell? ⟨w.heap.size + 1, 0, none⟩ = some (.slice qa arr.length cq) := HX.out.2.1.cell 0
  have m1 : X.cell? ⟨w.heap.size + 1, 0 + 1, none⟩ = some (.slice ca ctx.length cc) := HX.out.2.1.cell 1
  have d0 : X.cell? ⟨w.heap.size + 1 + 1, 0, none⟩ = some (.int .u32 input) := HX.out.2.2.1.cell 0
  have d1 : X.cell? ⟨w.heap.size + 1 + 1, 0 + 1, none⟩ = some (.bool ended) := HX.out.2.2.1.cell 1
  have d2' : X.cell? ⟨w.heap.size + 1 + 1, 0 + 1 + 1, none⟩ = some (.int .i64 fuel) := HX.out.2.2.1.cell 2
  go_wp2_with fail
  refine HRUN.out.mono ?_
  intro e V hex
  clear a0 a1 a2 a3 m0 m1 d0 d1 d2 d2'
  have hk4 : Blk X (w.heap.size + 1 + 1 + 1) zeroRun 49 := HW.out.2.2.2.2.1.below HBY.out (by omega)
  obtain ⟨hr9, qa', na, cq', ca', nb, cc', oa, no, oc, st, er, rfl, hfin⟩ := run_end HX.out.2.2.2 hk4 hex
  have z0 : V.cell? ⟨w.heap.size + 1 + 1 + 1, 0, none⟩ = some (.slice none 0 0) := hr9.cell 0
  have z1 : V.cell? ⟨w.heap.size + 1 + 1 + 1, 0 + 1, none⟩ = some (.slice none 0 0) := hr9.cell 1
  have z2 : V.cell? ⟨w.heap.size + 1 + 1 + 1, 0 + 1 + 1, none⟩ = some (.slice none 0 0) := hr9.cell 2
  have z3 : V.cell? ⟨w.heap.size + 1 + 1 + 1, 0 + 1 + 1 + 1, none⟩ = some (.int .i64 0) := hr9.cell 3
  have f0 := hr9.frozen 0
  have f1 := hr9.frozen (0 + 1)
  have f2 := hr9.frozen (0 + 1 + 1)
  have f3 := hr9.frozen (0 + 1 + 1 + 1)
  have HFIN := Lib.hid hfin
  clear hex hk4 hfin
  go_wp2
  refine bodyPost_ret (v := .tuple #[.agg #[.slice qa' na cq', .slice ca' nb cc', .slice oa no oc, .int .i64 st], .int .i64 er]) ?_ rfl ?_
  · have e0 := ((((hr9.set 0 (.slice qa' na cq')).set 1 (.slice ca' nb cc')).set 2 (.slice oa no oc)).set 3 (.int .i64 st))
    have y0 := e0.cell 0
    have y1 := e0.cell 1
    have y2 := e0.cell 2
    have y3 := e0.cell 3
    simp only [zeroRun, List.set_cons_zero, List.set_cons_succ, List.getElem?_cons_zero, List.getElem?_cons_succ] at y0 y1 y2 y3
    simp [results, Try.results19, go_sem, y0, y1, y2, y3]
  · exact HFIN.out
end Go.Proofs.Ytefdnjhhaejgbaa
