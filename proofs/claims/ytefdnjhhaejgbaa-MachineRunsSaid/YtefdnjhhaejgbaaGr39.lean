/-
  PROVED: 'Rows.MachineRunsSaid': MachineRuns returns true for all code, memories and calls. No condition.
-/
import Derived.OpenShut
import Derived.ProofKit
import Derived.ShutString
import Derived.WalkKit
import Derived.Test.YtefdnjhhaejgbaaGr38
import Derived.Test.YtefdnjhhaejgbaaGr37
import Derived.Test.YtefdnjhhaejgbaaGr25
import Derived.Test.YtefdnjhhaejgbaaGr36
import Derived.Test.YtefdnjhhaejgbaaGr35
import Derived.Test.YtefdnjhhaejgbaaRows
set_option linter.unusedSimpArgs false
set_option linter.unusedVariables false
namespace Go.Proofs.Ytefdnjhhaejgbaa
open Go.RowKit
set_option linter.unusedVariables false

theorem RunVal.res {w : World} {s : PS} {v : Value} (h : RunVal w s v) : ∃ qa cq ca cc oa oc, v = .agg #[.slice qa s.arr.length cq, .slice ca s.ctx.length cc, .slice oa s.out.length oc, .int .i64 s.steps] ∧ GridR w qa s.arr ∧ RowB w.heap.size w 1 ca s.ctx.length (fun j _ => .int .u32 (s.ctx.getD j 0)) ∧
    RowB w.heap.size w 1 oa s.out.length (fun j _ => .int .u8 (s.out.getD j 0)) := by
  obtain ⟨qa, cq, ca, cc, oa, oc, rfl, h1, h2, h3⟩ := h
  exact ⟨qa, cq, ca, cc, oa, oc, rfl, h1.toR, h2.row, h3⟩

theorem zeros_fit {ars : List Ar} (h : ∀ a ∈ ars, 1 ≤ a.size ∧ a.size ≤ 65536) : fitsB ars (zeros ars) 16 = true := by
  refine fits_all (by simp [zeros]) rfl (fun k hk => ?_)
  rw [zeros_getD ars k hk]
  have hm : ars.getD k default ∈ ars := by rw [List.getD_eq_getElem?_getD, List.getElem?_eq_getElem hk]; exact List.getElem_mem hk
  have := h _ hm
  refine fitB_all (by rw [List.length_replicate]; omega) (fun j hj => ?_)
  rw [List.length_replicate] at hj
  generalize (ars.getD k default).size.toNat = n at hj ⊢
  rw [List.getD_eq_getElem?_getD, List.getElem?_replicate, if_pos hj]
  decide
theorem zeros_u32 (ars : List Ar) : ∀ a ∈ zeros ars, u32s a := by
  intro a ha
  simp only [zeros, List.mem_map] at ha
  obtain ⟨x, _, rfl⟩ := ha
  intro y hy
  rw [List.eq_of_mem_replicate hy]; omega
theorem zeros_len {ars : List Ar} (h : ∀ a ∈ ars, 1 ≤ a.size ∧ a.size ≤ 65536) : ∀ a ∈ zeros ars, a.length ≤ 65536 := by
  intro a ha
  simp only [zeros, List.mem_map] at ha
  obtain ⟨x, hx, rfl⟩ := ha
  have := h x hx
  rw [List.length_replicate]; omega

def cdCells (arsA : Option Addr) (n arsC : Nat) (regs spills : Int) (codeA : Option Addr) (m codeC : Nat) : List Value := [.slice arsA n arsC, .int .i64 regs, .int .i64 spills, .slice codeA m codeC]


set_option maxRecDepth 100000 in
set_option maxHeartbeats 1000000 in
theorem needs_idle (arsA codeA : Option Addr) (arsC codeC : Nat) (ars : List Ar) (regs spills : Int) (cd : List RI) (input : Int) (ended : Bool) (w : World)
    (hA : RowB w.heap.size w 2 arsA ars.length fun i j => (ars.getD i default).cell j) (hC : RowB w.heap.size w 5 codeA cd.length fun i j => (cd.getD i default).cell j) (ok : CodeOk ars regs spills cd)
    (hf : fewB ars cd = false ∨ (chkCode ars regs spills cd).2 ≠ 0) :
    Calls Try.prog 5 #[.agg #[.slice arsA ars.length arsC, .int .i64 regs, .int .i64 spills, .slice codeA cd.length codeC], .int .u32 input, .bool ended] w fun e w' => e = .returned (.bool true) ∧ Below w.heap.size w w' := by
  have hW : Below w.heap.size w (w.alloc (.cells #[.slice arsA ars.length arsC, .int .i64 regs, .int .i64 spills, .slice codeA cd.length codeC] 25)) := (Below.refl _ _).alloc (Nat.le_refl _) _
  have HF := Lib.hid (few_any arsA codeA arsC codeC regs spills ars cd _ ((hA.below hW).mono hW.size))
  have HW := Lib.hid hW
  have HA := Lib.hid hA
  have HC := Lib.hid hC
  have OK := Lib.hid ok
  clear hW hA hC ok
  cases hfew : fewB ars cd with
  | false =>
    rw [hfew] at HF
    clear hf hfew
    go_enter Try.func5, Try.ntmps5
    go_wp2_with fail
    refine HF.out.mono ?_
    rintro e W2 ⟨rfl, hb2⟩
    have H2 := Lib.hid (HW.out.trans (hb2.mono HW.out.size))
    clear hb2 HF
    go_wp2_with fail
    refine (awake_true W2).mono ?_
    rintro e W3 ⟨rfl, hb3⟩
    have H3 := Lib.hid (H2.out.trans (hb3.mono H2.out.size))
    clear hb3
    go_wp2
    go_ret
    exact ⟨rfl, H3.out⟩
  | true =>
    have hchk : (chkCode ars regs spills cd).2 ≠ 0 := by
      rcases hf with h | h
      · rw [hfew] at h; cases h
      · exact h
    rw [hfew] at HF
    clear hf hfew
    go_enter Try.func5, Try.ntmps5
    go_wp2_with fail
    refine HF.out.mono ?_
    rintro e W2 ⟨rfl, hb2⟩
    have kc2 : Blk W2 w.heap.size [.slice arsA ars.length arsC, .int .i64 regs, .int .i64 spills, .slice codeA cd.length codeC] 25 := (show Blk (w.alloc _) w.heap.size _ _ from heap_new1 _ _).below hb2 (by simp)
    have hb2' := HW.out.trans (hb2.mono HW.out.size)
    have HST := Lib.hid (Start_any arsA codeA arsC codeC ars regs spills cd W2 ((HA.out.below hb2').mono hb2'.size) ((HC.out.below hb2').mono hb2'.size) OK.out.la OK.out.lc OK.out.arg)
    have H2 := Lib.hid hb2'
    have a0 : W2.cell? ⟨w.heap.size, 0, none⟩ = some (.slice arsA ars.length arsC) := kc2.cell 0
    have a1 : W2.cell? ⟨w.heap.size, 0 + 1, none⟩ = some (.int .i64 regs) := kc2.cell 1
    have a2 : W2.cell? ⟨w.heap.size, 0 + 1 + 1, none⟩ = some (.int .i64 spills) := kc2.cell 2
    have a3 : W2.cell? ⟨w.heap.size, 0 + 1 + 1 + 1, none⟩ = some (.slice codeA cd.length codeC) := kc2.cell 3
    clear hb2 hb2' HF kc2
    go_wp2_with fail
    refine HST.out.mono ?_
    rintro e Y1 ⟨hbY, hst⟩
    rw [if_neg hchk] at hst
    replace hst : e = .returned (.tuple #[.agg #[.slice none 0 0, .slice none 0 0], .int .i64 (chkCode ars regs spills cd).2]) := hst
    subst hst
    have hd : ((chkCode ars regs spills cd).2 != 0) = true := by simpa using hchk
    generalize (chkCode ars regs spills cd).2 = er at hd ⊢
    have HY := Lib.hid (H2.out.trans (hbY.mono H2.out.size))
    clear hbY hchk a0 a1 a2 a3 HST
    go_upto_region 5 with (fail)
    refine wp_gen (fun W => Below w.heap.size w W) (HY.out.alloc HY.out.size _) ?_
    intro W3 hb3
    have H3 := Lib.hid hb3
    clear hb3
    go_wp2_with fail
    refine (awake_true W3).mono ?_
    rintro e W4 ⟨rfl, hb4⟩
    have H4 := Lib.hid (H3.out.trans (hb4.mono H3.out.size))
    clear hb4
    go_wp2
    go_ret
    exact ⟨rfl, H4.out⟩
end Go.Proofs.Ytefdnjhhaejgbaa

namespace Go.Proofs.Ytefdnjhhaejgbaa
open Go.RowKit
set_option linter.unusedVariables false

theorem fits_sizes {ars : List Ar} {arr : List (List Int)} {n : Nat} (h : fitsB ars arr n = true) (hs : ∀ a ∈ ars, 1 ≤ a.size ∧ a.size ≤ 65536) : arr.length = ars.length ∧ n = 16 ∧ ∀ a ∈ arr, a.length ≤ 65536 := by
  obtain ⟨h1, h2, h3⟩ := fits_lens h
  refine ⟨h1, h2, fun a ha => ?_⟩
  obtain ⟨k, hk, rfl⟩ := List.getElem_of_mem ha
  have e := h3 k hk
  have hm := hs (ars.getD k default) (by rw [List.getD_eq_getElem?_getD, List.getElem?_eq_getElem (by omega)]; exact List.getElem_mem _)
  rw [List.getD_eq_getElem?_getD, List.getElem?_eq_getElem hk, Option.getD_some] at e
  omega

/-- what a result holds -/
structure FR where
  arr : List (List Int)
  ctx : List Int
  out : List Int
  steps : Int
  er : Int
def frOf : Except Int PS → FR
  | .ok s => ⟨s.arr, s.ctx, s.out, s.steps, 0⟩
  | .error n => ⟨[], [], [], 0, n⟩

theorem exec_form {w w' : World} {r : Except Int PS} {e : Ending} {f : FR} (hf : frOf r = f) (h : ExecPost w r e w') :
    Below w.heap.size w w' ∧ ∃ qa cq ca cc oa oc, e = .returned (.tuple #[.agg #[.slice qa f.arr.length cq, .slice ca f.ctx.length cc, .slice oa f.out.length oc, .int .i64 f.steps], .int .i64 f.er]) ∧ ResAt w' f.arr f.ctx f.out f.steps (.agg #[.slice qa f.arr.length cq, .slice ca f.ctx.length cc, .slice oa f.out.length oc, .int .i64 f.steps]) := by
  subst hf
  obtain ⟨hb, h⟩ := h
  refine ⟨hb, ?_⟩
  cases r with
  | ok s =>
    obtain ⟨v, rfl, hv⟩ := h
    obtain ⟨qa, cq, ca, cc, oa, oc, rfl, h1, h2, h3⟩ := (hv w' (fun _ _ => rfl) rfl).res
    exact ⟨qa, cq, ca, cc, oa, oc, rfl, qa, cq, ca, cc, oa, oc, rfl, h1, h2, h3⟩
  | error n =>
    refine ⟨none, 0, none, 0, none, 0, h, none, 0, none, 0, none, 0, rfl, fun k hk => ?_, fun k hk => ?_, fun k hk => ?_⟩
    · simp [frOf] at hk
    · simp [frOf] at hk
    · simp [frOf] at hk

def lightB (fuel : Int) : Bool := decide (fuel ≤ 5000) || decide (281474976710656 < fuel)

/-- the three boxes of the arguments -/
def RunBoxes3 (w : World) (c1 c2 c3 : List Value) (z : World) : Prop :=
  Below w.heap.size w z ∧ Blk z w.heap.size c1 25 ∧ Blk z (w.heap.size + 1) c2 31 ∧ Blk z (w.heap.size + 1 + 1) c3 44
theorem run_boxes3 (w : World) (c1 c2 c3 : List Value) : RunBoxes3 w c1 c2 c3 (((w.alloc (.cells c1.toArray 25)).alloc (.cells c2.toArray 31)).alloc (.cells c3.toArray 44)) := by
  refine ⟨(((Below.refl _ _).alloc (by simp) _).alloc (by simp) _).alloc (by simp; omega) _, ?_, ?_, ?_⟩
  · unfold Blk
    rw [Below.heap_alloc _ _ _ (by simp; omega), Below.heap_alloc _ _ _ (by simp)]
    exact heap_new1 _ _
  · unfold Blk
    rw [Below.heap_alloc _ _ _ (by simp)]
    exact heap_new2 _ _ _
  · unfold Blk
    exact heap_new3 _ _ _ _
theorem RunBoxes3.below {w z z' : World} {c1 c2 c3 : List Value} (h : RunBoxes3 w c1 c2 c3 z) (hb : Below z.heap.size z z') : RunBoxes3 w c1 c2 c3 z' :=
  ⟨h.1.trans (hb.mono h.1.size), h.2.1.below hb h.2.1.lt, h.2.2.1.below hb h.2.2.1.lt, h.2.2.2.below hb h.2.2.2.lt⟩

set_option maxRecDepth 100000 in
set_option maxHeartbeats 1000000 in
theorem runs_idle (arsA codeA qa ca : Option Addr) (arsC codeC cq cc : Nat) (ars : List Ar) (regs spills : Int) (cd : List RI) (arr : List (List Int)) (ctx : List Int) (input : Int) (ended : Bool) (fuel : Int) (w : World)
    (hA : RowB w.heap.size w 2 arsA ars.length fun i j => (ars.getD i default).cell j) (hg : GridR w qa arr) (mok : MemOk arr ctx) (h : fewB ars cd = false ∨ fewMemB arr ctx.length = false ∨ lightB fuel = false) :
    Calls Try.prog 4 #[.agg #[.slice arsA ars.length arsC, .int .i64 regs, .int .i64 spills, .slice codeA cd.length codeC], .agg #[.slice qa arr.length cq, .slice ca ctx.length cc], .agg #[.int .u32 input, .bool ended, .int .i64 fuel]] w fun e w' => e = .returned (.bool true) ∧ Below w.heap.size w w' := by
  have HF := Lib.hid (fun W (hb : Below w.heap.size w W) => few_any arsA codeA arsC codeC regs spills ars cd W ((hA.below hb).mono hb.size))
  have HM := Lib.hid (fun W (hb : Below w.heap.size w W) => fewMem_any qa ca cq cc ctx.length arr W (hg.below hb) mok.lr)
  have HL := Lib.hid (fun W => lightF_any fuel W)
  clear hA hg mok
  go_enter Try.func4, Try.ntmps4
  go_upto_region 1 with (fail)
  refine wp_gen _ (run_boxes3 w [.slice arsA ars.length arsC, .int .i64 regs, .int .i64 spills, .slice codeA cd.length codeC] [.slice qa arr.length cq, .slice ca ctx.length cc] [.int .u32 input, .bool ended, .int .i64 fuel]) ?_
  intro W hW
  have a0 : W.cell? ⟨w.heap.size, 0, none⟩ = some (.slice arsA ars.length arsC) := hW.2.1.cell 0
  have a1 : W.cell? ⟨w.heap.size, 0 + 1, none⟩ = some (.int .i64 regs) := hW.2.1.cell 1
  have a2 : W.cell? ⟨w.heap.size, 0 + 1 + 1, none⟩ = some (.int .i64 spills) := hW.2.1.cell 2
  have a3 : W.cell? ⟨w.heap.size, 0 + 1 + 1 + 1, none⟩ = some (.slice codeA cd.length codeC) := hW.2.1.cell 3
  have HW := Lib.hid hW
  clear hW
  go_wp2_with fail
  refine (HF.out W HW.out.1).mono ?_
  rintro e W2 ⟨rfl, hb2⟩
  have HW2 := Lib.hid (HW.out.below hb2)
  clear hb2 a0 a1 a2 a3 HF
  cases hf : fewB ars cd with
  | false =>
    clear hf h
    go_wp2_with fail
    refine (awake_true W2).mono ?_
    rintro e W3 ⟨rfl, hb3⟩
    have H3 := Lib.hid (HW2.out.below hb3).1
    clear hb3
    go_wp2
    go_ret
    exact ⟨rfl, H3.out⟩
  | true =>
    have m0 : W2.cell? ⟨w.heap.size + 1, 0, none⟩ = some (.slice qa arr.length cq) := HW2.out.2.2.1.cell 0
    have m1 : W2.cell? ⟨w.heap.size + 1, 0 + 1, none⟩ = some (.slice ca ctx.length cc) := HW2.out.2.2.1.cell 1
    go_wp2_with fail
    refine (HM.out W2 HW2.out.1).mono ?_
    rintro e W3 ⟨rfl, hb3⟩
    have HW3 := Lib.hid (HW2.out.below hb3)
    clear hb3 m0 m1 HM
    cases hm : fewMemB arr ctx.length with
    | false =>
      clear hf hm h
      go_wp2_with fail
      refine (awake_true W3).mono ?_
      rintro e W4 ⟨rfl, hb4⟩
      have H4 := Lib.hid (HW3.out.below hb4).1
      clear hb4
      go_wp2
      go_ret
      exact ⟨rfl, H4.out⟩
    | true =>
      have hl : lightB fuel = false := by
        rcases h with h | h | h
        · rw [hf] at h; cases h
        · rw [hm] at h; cases h
        · exact h
      have d2 : W3.cell? ⟨w.heap.size + 1 + 1, 2, none⟩ = some (.int .i64 fuel) := HW3.out.2.2.2.cell 2
      have HLT := Lib.hid hl
      clear hf hm h hl
      go_wp2_with fail
      refine (HL.out W3).mono ?_
      rintro e W4 ⟨rfl, rfl⟩
      have hl := HLT.out
      unfold lightB at hl
      rw [hl]
      clear hl d2
      go_wp2_with fail
      refine (awake_true W4).mono ?_
      rintro e W5 ⟨rfl, hb4⟩
      have H4 := Lib.hid (HW3.out.below hb4).1
      clear hb4
      go_wp2
      go_ret
      exact ⟨rfl, H4.out⟩

section
variable (arsA codeA qa ca : Option Addr) (arsC codeC cq cc : Nat) (ars : List Ar) (regs spills : Int) (cd : List RI) (arr : List (List Int)) (ctx : List Int) (input : Int) (ended : Bool) (fuel : Int) (w : World)
  (hA : RowB w.heap.size w 2 arsA ars.length fun i j => (ars.getD i default).cell j) (hC : RowB w.heap.size w 5 codeA cd.length fun i j => (cd.getD i default).cell j)
  (hg : GridR w qa arr) (hctx : RowB w.heap.size w 1 ca ctx.length fun j _ => .int .u32 (ctx.getD j 0)) (ok : CodeOk ars regs spills cd) (mok : MemOk arr ctx) (hi : u32 input)
include hA hC hg hctx ok mok hi

set_option maxRecDepth 100000 in
set_option maxHeartbeats 1000000 in
theorem runs_main (h1 : fewB ars cd = true) (h2 : fewMemB arr ctx.length = true) (h3 : lightB fuel = true) (f : FR) (hfr : frOf (machRun ars regs spills cd arr ctx input ended fuel) = f)
    (s1 : f.arr.length ≤ 65536) (s2 : f.ctx.length ≤ 65536) (s3 : ∀ a ∈ f.arr, a.length ≤ 65536) :
    Calls Try.prog 4 #[.agg #[.slice arsA ars.length arsC, .int .i64 regs, .int .i64 spills, .slice codeA cd.length codeC], .agg #[.slice qa arr.length cq, .slice ca ctx.length cc], .agg #[.int .u32 input, .bool ended, .int .i64 fuel]] w fun e w' => e = .returned (.bool true) ∧ Below w.heap.size w w' := by
  have hAl : ars.length ≤ 9223372036854775806 := by unfold fewB at h1; simp at h1; omega
  have hAr : ∀ a ∈ arr, a.length ≤ 9223372036854775806 := fun a ha => by unfold fewMemB at h2; simp at h2; have := h2.2 a ha; omega
  have hF := fun W (hb : Below w.heap.size w W) => few_any arsA codeA arsC codeC regs spills ars cd W ((hA.below hb).mono hb.size)
  rw [h1] at hF
  have hM := fun W (hb : Below w.heap.size w W) => fewMem_any qa ca cq cc ctx.length arr W (hg.below hb) mok.lr
  rw [h2] at hM
  have hL := fun W => lightF_any fuel W
  unfold lightB at h3
  rw [h3] at hL
  have HF := Lib.hid hF
  have HM := Lib.hid hM
  have HL := Lib.hid hL
  have HR1 := Lib.hid (fun W (hb : Below w.heap.size w W) => Run_is arsA codeA qa ca arsC codeC cq cc ars regs spills cd arr ctx input ended fuel W ((hA.below hb).mono hb.size) ((hC.below hb).mono hb.size) (hg.below hb) ((hctx.below hb).mono hb.size) hAl ok.lc ok.arg hAr mok.u mok.uc hi)
  have HR2 := Lib.hid (fun W (hb : Below w.heap.size w W) => RRun_any arsA codeA qa ca arsC codeC cq cc ars regs spills cd arr ctx input ended fuel W ((hA.below hb).mono hb.size) ((hC.below hb).mono hb.size) (hg.below hb) ((hctx.below hb).mono hb.size) hAl ok.lc ok.arg hAr mok.u mok.uc hi)
  have HFR := Lib.hid (fun (W W' : World) (e : Ending) (h : ExecPost W (machRun ars regs spills cd arr ctx input ended fuel) e W') => exec_form hfr h)
  have HSM := Lib.hid s3
  clear hA hC hg hctx ok mok hi h1 h2 h3 hAl hAr hF hM hL s3 hfr
  go_enter Try.func4, Try.ntmps4
  go_upto_region 1 with (fail)
  refine wp_gen _ (run_boxes3 w [.slice arsA ars.length arsC, .int .i64 regs, .int .i64 spills, .slice codeA cd.length codeC] [.slice qa arr.length cq, .slice ca ctx.length cc] [.int .u32 input, .bool ended, .int .i64 fuel]) ?_
  intro W hW
  have a0 : W.cell? ⟨w.heap.size, 0, none⟩ = some (.slice arsA ars.length arsC) := (hW).2.1.cell 0
  have a1 : W.cell? ⟨w.heap.size, 0 + 1, none⟩ = some (.int .i64 regs) := (hW).2.1.cell 1
  have a2 : W.cell? ⟨w.heap.size, 0 + 1 + 1, none⟩ = some (.int .i64 spills) := (hW).2.1.cell 2
  have a3 : W.cell? ⟨w.heap.size, 0 + 1 + 1 + 1, none⟩ = some (.slice codeA cd.length codeC) := (hW).2.1.cell 3
  have m0 : W.cell? ⟨w.heap.size + 1, 0, none⟩ = some (.slice qa arr.length cq) := (hW).2.2.1.cell 0
  have m1 : W.cell? ⟨w.heap.size + 1, 0 + 1, none⟩ = some (.slice ca ctx.length cc) := (hW).2.2.1.cell 1
  have d0 : W.cell? ⟨w.heap.size + 1 + 1, 0, none⟩ = some (.int .u32 input) := (hW).2.2.2.cell 0
  have d1 : W.cell? ⟨w.heap.size + 1 + 1, 0 + 1, none⟩ = some (.bool ended) := (hW).2.2.2.cell 1
  have d2 : W.cell? ⟨w.heap.size + 1 + 1, 0 + 1 + 1, none⟩ = some (.int .i64 fuel) := (hW).2.2.2.cell 2
  have d2' : W.cell? ⟨w.heap.size + 1 + 1, 2, none⟩ = some (.int .i64 fuel) := (hW).2.2.2.cell 2
  have HW := Lib.hid hW
  clear hW
  go_wp2_with fail
  refine (HF.out W HW.out.1).mono ?_
  rintro e W2 ⟨rfl, hb2⟩
  have HW2 := Lib.hid (HW.out.below hb2)
  clear hb2 a0 a1 a2 a3 m0 m1 d0 d1 d2 d2' HF
  have a0 : W2.cell? ⟨w.heap.size, 0, none⟩ = some (.slice arsA ars.length arsC) := (HW2.out).2.1.cell 0
  have a1 : W2.cell? ⟨w.heap.size, 0 + 1, none⟩ = some (.int .i64 regs) := (HW2.out).2.1.cell 1
  have a2 : W2.cell? ⟨w.heap.size, 0 + 1 + 1, none⟩ = some (.int .i64 spills) := (HW2.out).2.1.cell 2
  have a3 : W2.cell? ⟨w.heap.size, 0 + 1 + 1 + 1, none⟩ = some (.slice codeA cd.length codeC) := (HW2.out).2.1.cell 3
  have m0 : W2.cell? ⟨w.heap.size + 1, 0, none⟩ = some (.slice qa arr.length cq) := (HW2.out).2.2.1.cell 0
  have m1 : W2.cell? ⟨w.heap.size + 1, 0 + 1, none⟩ = some (.slice ca ctx.length cc) := (HW2.out).2.2.1.cell 1
  have d0 : W2.cell? ⟨w.heap.size + 1 + 1, 0, none⟩ = some (.int .u32 input) := (HW2.out).2.2.2.cell 0
  have d1 : W2.cell? ⟨w.heap.size + 1 + 1, 0 + 1, none⟩ = some (.bool ended) := (HW2.out).2.2.2.cell 1
  have d2 : W2.cell? ⟨w.heap.size + 1 + 1, 0 + 1 + 1, none⟩ = some (.int .i64 fuel) := (HW2.out).2.2.2.cell 2
  have d2' : W2.cell? ⟨w.heap.size + 1 + 1, 2, none⟩ = some (.int .i64 fuel) := (HW2.out).2.2.2.cell 2
  go_wp2_with fail
  refine (HM.out W2 HW2.out.1).mono ?_
  rintro e W3 ⟨rfl, hb3⟩
  have HW3 := Lib.hid (HW2.out.below hb3)
  clear hb3 a0 a1 a2 a3 m0 m1 d0 d1 d2 d2' HM
  have a0 : W3.cell? ⟨w.heap.size, 0, none⟩ = some (.slice arsA ars.length arsC) := (HW3.out).2.1.cell 0
  have a1 : W3.cell? ⟨w.heap.size, 0 + 1, none⟩ = some (.int .i64 regs) := (HW3.out).2.1.cell 1
  have a2 : W3.cell? ⟨w.heap.size, 0 + 1 + 1, none⟩ = some (.int .i64 spills) := (HW3.out).2.1.cell 2
  have a3 : W3.cell? ⟨w.heap.size, 0 + 1 + 1 + 1, none⟩ = some (.slice codeA cd.length codeC) := (HW3.out).2.1.cell 3
  have m0 : W3.cell? ⟨w.heap.size + 1, 0, none⟩ = some (.slice qa arr.length cq) := (HW3.out).2.2.1.cell 0
  have m1 : W3.cell? ⟨w.heap.size + 1, 0 + 1, none⟩ = some (.slice ca ctx.length cc) := (HW3.out).2.2.1.cell 1
  have d0 : W3.cell? ⟨w.heap.size + 1 + 1, 0, none⟩ = some (.int .u32 input) := (HW3.out).2.2.2.cell 0
  have d1 : W3.cell? ⟨w.heap.size + 1 + 1, 0 + 1, none⟩ = some (.bool ended) := (HW3.out).2.2.2.cell 1
  have d2 : W3.cell? ⟨w.heap.size + 1 + 1, 0 + 1 + 1, none⟩ = some (.int .i64 fuel) := (HW3.out).2.2.2.cell 2
  have d2' : W3.cell? ⟨w.heap.size + 1 + 1, 2, none⟩ = some (.int .i64 fuel) := (HW3.out).2.2.2.cell 2
  go_wp2_with fail
  refine (HL.out W3).mono ?_
  rintro e W4 ⟨rfl, rfl⟩
  go_wp2_with fail
  refine (HR1.out W4 HW3.out.1).mono ?_
  intro e Y1 hpost
  obtain ⟨hbY, qa1, cq1, ca1, cc1, oa1, oc1, rfl, hres1⟩ := HFR.out _ _ _ hpost
  have H3 := Lib.hid (And.intro (HW3.out.below hbY) hres1)
  clear hpost hbY hres1 a0 a1 a2 a3 m0 m1 d0 d1 d2 d2' HR1
  go_upto_region 4 with (fail)
  refine wp_gen (fun Z => RunBoxes3 w [.slice arsA ars.length arsC, .int .i64 regs, .int .i64 spills, .slice codeA cd.length codeC] [.slice qa arr.length cq, .slice ca ctx.length cc] [.int .u32 input, .bool ended, .int .i64 fuel] Z ∧
      Blk Z Y1.heap.size [.slice qa1 f.arr.length cq1, .slice ca1 f.ctx.length cc1, .slice oa1 f.out.length oc1, .int .i64 f.steps] 49 ∧ ResAt Z f.arr f.ctx f.out f.steps (.agg #[.slice qa1 f.arr.length cq1, .slice ca1 f.ctx.length cc1, .slice oa1 f.out.length oc1, .int .i64 f.steps])) ?_ ?_
  · have hbb : Below Y1.heap.size Y1 (Y1.alloc (.cells #[.slice qa1 f.arr.length cq1, .slice ca1 f.ctx.length cc1, .slice oa1 f.out.length oc1, .int .i64 f.steps] 49)) := (Below.refl _ _).alloc (Nat.le_refl _) _
    exact ⟨H3.out.1.below hbb, heap_new1 _ _, H3.out.2.below hbb⟩
  rintro Z1 ⟨hz1, hz2, hz3⟩
  have HZ1 := Lib.hid (And.intro hz1 (And.intro hz2 hz3))
  clear hz1 hz2 hz3 H3
  have a0 : Z1.cell? ⟨w.heap.size, 0, none⟩ = some (.slice arsA ars.length arsC) := (HZ1.out.1).2.1.cell 0
  have a1 : Z1.cell? ⟨w.heap.size, 0 + 1, none⟩ = some (.int .i64 regs) := (HZ1.out.1).2.1.cell 1
  have a2 : Z1.cell? ⟨w.heap.size, 0 + 1 + 1, none⟩ = some (.int .i64 spills) := (HZ1.out.1).2.1.cell 2
  have a3 : Z1.cell? ⟨w.heap.size, 0 + 1 + 1 + 1, none⟩ = some (.slice codeA cd.length codeC) := (HZ1.out.1).2.1.cell 3
  have m0 : Z1.cell? ⟨w.heap.size + 1, 0, none⟩ = some (.slice qa arr.length cq) := (HZ1.out.1).2.2.1.cell 0
  have m1 : Z1.cell? ⟨w.heap.size + 1, 0 + 1, none⟩ = some (.slice ca ctx.length cc) := (HZ1.out.1).2.2.1.cell 1
  have d0 : Z1.cell? ⟨w.heap.size + 1 + 1, 0, none⟩ = some (.int .u32 input) := (HZ1.out.1).2.2.2.cell 0
  have d1 : Z1.cell? ⟨w.heap.size + 1 + 1, 0 + 1, none⟩ = some (.bool ended) := (HZ1.out.1).2.2.2.cell 1
  have d2 : Z1.cell? ⟨w.heap.size + 1 + 1, 0 + 1 + 1, none⟩ = some (.int .i64 fuel) := (HZ1.out.1).2.2.2.cell 2
  have d2' : Z1.cell? ⟨w.heap.size + 1 + 1, 2, none⟩ = some (.int .i64 fuel) := (HZ1.out.1).2.2.2.cell 2
  go_wp2_with fail
  refine (HR2.out Z1 HZ1.out.1.1).mono ?_
  intro e Y2 hpost
  obtain ⟨hbY, qa2, cq2, ca2, cc2, oa2, oc2, rfl, hres2⟩ := HFR.out _ _ _ hpost
  have H4 := Lib.hid (And.intro (HZ1.out.1.below hbY).1 (And.intro (HZ1.out.2.1.below hbY HZ1.out.2.1.lt) (And.intro (HZ1.out.2.2.below hbY) hres2)))
  have hl1 : Y1.heap.size < Y2.heap.size := (HZ1.out.2.1.below hbY HZ1.out.2.1.lt).lt
  clear hpost hbY hres2 a0 a1 a2 a3 m0 m1 d0 d1 d2 d2' HR2 HFR
  go_upto_region 5 with (fail)
  refine wp_gen (fun Z => Below w.heap.size w Z ∧ Blk Z Y1.heap.size [.slice qa1 f.arr.length cq1, .slice ca1 f.ctx.length cc1, .slice oa1 f.out.length oc1, .int .i64 f.steps] 49 ∧ ResAt Z f.arr f.ctx f.out f.steps (.agg #[.slice qa1 f.arr.length cq1, .slice ca1 f.ctx.length cc1, .slice oa1 f.out.length oc1, .int .i64 f.steps]) ∧
      Blk Z Y2.heap.size [.slice qa2 f.arr.length cq2, .slice ca2 f.ctx.length cc2, .slice oa2 f.out.length oc2, .int .i64 f.steps] 49 ∧ ResAt Z f.arr f.ctx f.out f.steps (.agg #[.slice qa2 f.arr.length cq2, .slice ca2 f.ctx.length cc2, .slice oa2 f.out.length oc2, .int .i64 f.steps])) ?_ ?_
  · have hbb : Below Y2.heap.size Y2 (Y2.alloc (.cells #[.slice qa2 f.arr.length cq2, .slice ca2 f.ctx.length cc2, .slice oa2 f.out.length oc2, .int .i64 f.steps] 49)) := (Below.refl _ _).alloc (Nat.le_refl _) _
    obtain ⟨g1, g2, g3, g4⟩ := H4.out
    exact ⟨g1.trans (hbb.mono g1.size), g2.below hbb g2.lt, g3.below hbb, heap_new1 _ _, g4.below hbb⟩
  rintro Z2 ⟨g1, g2, g3, g4, g5⟩
  have HZ2 := Lib.hid (And.intro g1 (And.intro g2 (And.intro g3 (And.intro g4 g5))))
  clear g1 g2 g3 g4 g5 H4
  go_wp2_with fail
  refine (awake_true Z2).mono ?_
  rintro e Z3 ⟨rfl, hb3⟩
  obtain ⟨g1, g2, g3, g4, g5⟩ := HZ2.out
  have n1 := g2.below hb3 g2.lt
  have n2 := g4.below hb3 g4.lt
  have m0 : Z3.cell? ⟨Y1.heap.size, 0, none⟩ = some (.slice qa1 f.arr.length cq1) := n1.cell 0
  have m1 : Z3.cell? ⟨Y1.heap.size, 0 + 1, none⟩ = some (.slice ca1 f.ctx.length cc1) := n1.cell 1
  have m2 : Z3.cell? ⟨Y1.heap.size, 0 + 1 + 1, none⟩ = some (.slice oa1 f.out.length oc1) := n1.cell 2
  have m3 : Z3.cell? ⟨Y1.heap.size, 0 + 1 + 1 + 1, none⟩ = some (.int .i64 f.steps) := n1.cell 3
  have p0 : Z3.cell? ⟨Y2.heap.size, 0, none⟩ = some (.slice qa2 f.arr.length cq2) := n2.cell 0
  have p1 : Z3.cell? ⟨Y2.heap.size, 0 + 1, none⟩ = some (.slice ca2 f.ctx.length cc2) := n2.cell 1
  have p2 : Z3.cell? ⟨Y2.heap.size, 0 + 1 + 1, none⟩ = some (.slice oa2 f.out.length oc2) := n2.cell 2
  have p3 : Z3.cell? ⟨Y2.heap.size, 0 + 1 + 1 + 1, none⟩ = some (.int .i64 f.steps) := n2.cell 3
  have HSA := Lib.hid (same_run _ _ f.steps f.arr f.ctx f.out Z3 (g3.below hb3) (g5.below hb3) (by omega) (by omega) (fun a ha => by have := HSM.out a ha; omega))
  have H9 := Lib.hid (g1.trans (hb3.mono g1.size))
  clear hb3 g1 g2 g3 g4 g5 n1 n2 HZ2
  go_wp2_with fail
  refine HSA.out.mono ?_
  rintro e W8 ⟨rfl, hb8⟩
  have HB := Lib.hid (H9.out.trans (hb8.mono H9.out.size))
  have hee : (f.er == f.er) = true := by simp
  clear hb8 m0 m1 m2 m3 p0 p1 p2 p3
  go_wp2
  go_ret
  exact ⟨rfl, HB.out⟩
end

theorem runs_walk (ars : List Ar) (regs spills : Int) (cd : List RI) (arr : List (List Int)) (ctx : List Int) (input : Int) (ended : Bool) (fuel : Int) (v u : Value) (w : World) (hc : CodeAt w ars regs spills cd v) (ok : CodeOk ars regs spills cd) (hm : MemAt w arr ctx u) (mok : MemOk arr ctx) (hi : u32 input) :
    Calls Try.prog 4 #[v, u, .agg #[.int .u32 input, .bool ended, .int .i64 fuel]] w fun e w' => e = .returned (.bool true) ∧ Below w.heap.size w w' := by
  obtain ⟨arsA, arsC, codeA, codeC, rfl, hA, hC⟩ := hc
  obtain ⟨qa, cq, ca, cc, rfl, hg, hctx⟩ := hm
  cases h1 : fewB ars cd with
  | false => exact runs_idle arsA codeA qa ca arsC codeC cq cc ars regs spills cd arr ctx input ended fuel w hA hg mok (.inl h1)
  | true =>
    cases h2 : fewMemB arr ctx.length with
    | false => exact runs_idle arsA codeA qa ca arsC codeC cq cc ars regs spills cd arr ctx input ended fuel w hA hg mok (.inr (.inl h2))
    | true =>
      cases h3 : lightB fuel with
      | false => exact runs_idle arsA codeA qa ca arsC codeC cq cc ars regs spills cd arr ctx input ended fuel w hA hg mok (.inr (.inr h3))
      | true =>
        refine runs_main arsA codeA qa ca arsC codeC cq cc ars regs spills cd arr ctx input ended fuel w hA hC hg hctx ok mok hi h1 h2 h3 _ rfl ?_ ?_ ?_
        all_goals cases hr : machRun ars regs spills cd arr ctx input ended fuel with
          | error n => simp [frOf]
          | ok s =>
            obtain ⟨k1, k2, k3, k4⟩ := mach_ok hr
            have G := chk_good k1
            obtain ⟨_, _, f3, _⟩ := mach_fuel ok.arg mok.u mok.uc hi hr
            obtain ⟨g1, g2, g3⟩ := fits_sizes f3 G.hars
            have := G.hnA
            simp only [frOf]
            first
              | exact g3
              | omega
end Go.Proofs.Ytefdnjhhaejgbaa

namespace Go.Proofs.Ytefdnjhhaejgbaa.machineRuns
open Go.ChangeShapes Go.WideShapes Go.ChangeAt Go.RowKit
open Go.ChangeMaps (open_string shut_string)
set_option linter.unusedVariables false

theorem own : ownKnob Try.prog.godebug = none := by kernel_rfl
theorem params_read : (Try.f4.params.toList.all fun t => Try.prog.readableRec t && decide (t < Try.prog.types.size)) = true := by kernel_rfl
theorem laid : laidOutB Try.prog = true := by kernel_rfl
theorem params_len : Try.f4.params.toList.length = 3 := by kernel_rfl

set_option maxRecDepth 100000 in
theorem lifted (os : Os) (started : os.Started) (H : Type) (enc : TypeId × Value → H) :
    ReturnsInHanded {} Try.checked os 4 .any (Rows.machineRunsSpec.pre6 enc Try.prog Try.f4 Rows.machineRunsRow.domain false) (Rows.machineRunsSpec.post enc Try.prog Try.f4 false true false false) := by
  refine law_row (C := Try.checked) (k := 4) (f := Try.f4) (s := Rows.machineRunsSpec) (tb := 4) own started (by kernel_rfl) Try.func4
    (ChangeSpec.witness6 (enc := enc) (C := Try.checked) false ⟨#[], #[.agg #[.slice none 0 0, .int .i64 0, .int .i64 0, .slice none 0 0], .agg #[.slice none 0 0, .slice none 0 0], .agg #[.int .u32 0, .bool false, .int .i64 0]], []⟩ 8 (by kernel_rfl) (by kernel_rfl) (by kernel_rfl) (by kernel_rfl))
    laid ?_ rfl ?_ (by kernel_rfl) Try.underlying4 ?_
  · intro t ht
    have := List.all_eq_true.1 params_read t ht
    rw [Bool.and_eq_true, decide_eq_true_eq] at this
    exact this
  · intro ds hds
    rw [params_len] at hds
    match ds, hds with
    | [a, b, c], _ => rfl
  · intro W base args ds p hval hA
    rw [Try.params4] at hA hval
    obtain ⟨v0, vs0, d0, ds0, p0, q0, hargs, rfl, rfl, h0, r0⟩ := trodAll_cons hA
    obtain ⟨v1, vs1, d1, ds1, p1, q1, rfl, rfl, rfl, h1, r1⟩ := trodAll_cons r0
    obtain ⟨v2, vs2, d2, ds2, p2, q2, rfl, rfl, rfl, h2, r2⟩ := trodAll_cons r1
    obtain ⟨rfl, rfl, rfl⟩ := trodAll_nil r2
    obtain rfl : args = #[v0, v1, v2] := by cases args; simp_all
    obtain ⟨ars, regs, spills, cd, hc, ok⟩ := open_code (hval 0 _ v0 rfl rfl) h0
    obtain ⟨arr, ctx, hm, mok⟩ := open_mem (hval 1 _ v1 rfl rfl) h1
    obtain ⟨input, ended, fuel, rfl, hi, _⟩ := open_call (hval 2 _ v2 rfl rfl) h2
    exact runs_walk ars regs spills cd arr ctx input ended fuel v0 v1 W hc ok hm mok hi

theorem over : Rows.machineRunsRow.holds Try.pinned (OpenSpec.ofChange Rows.machineRunsSpec) :=
  OpenClaim.holds_of_wide 4 Try.f4 rfl rfl rfl rfl rfl rfl rfl ⟨rfl, rfl, rfl, rfl, rfl⟩ rfl rfl rfl rfl rfl (by kernel_rfl) Try.func4 (by kernel_rfl)
    (of_decide_eq_true (by kernel_rfl)) (by unfold Func.isWrapper; first | (rw [if_pos (by decide +kernel)]; kernel_rfl) | (rw [if_neg (by decide +kernel)]; exact ⟨rfl, rfl⟩))
    (fun os started H enc _ => lifted os started H enc)

/-- ████ THE STATEMENT ████ -/
theorem proved : Rows.MachineRunsSaid :=
  over
#print axioms proved
end Go.Proofs.Ytefdnjhhaejgbaa.machineRuns
