/-
  PROVED: 'Rows.MachineNeedsSaid': MachineNeeds returns true for all code, every input and both ends. No condition.
-/
import Derived.OpenShut
import Derived.ProofKit
import Derived.ShutString
import Derived.WalkKit
import Derived.Test.YtefdnjhhaejgbaaGn28
import Derived.Test.YtefdnjhhaejgbaaGn29
import Derived.Test.YtefdnjhhaejgbaaGn27
import Derived.Test.YtefdnjhhaejgbaaGn23
import Derived.Test.YtefdnjhhaejgbaaGn22
import Derived.Test.YtefdnjhhaejgbaaRows
set_option linter.unusedSimpArgs false
set_option linter.unusedVariables false
namespace Go.Proofs.Ytefdnjhhaejgbaa
open Go.RowKit
set_option linter.unusedVariables false

theorem RunVal.res {w : World} {s : PS} {v : Value} (h : RunVal w s v) : ∃ qa cq ca cc oa oc, v = .agg #[.slice qa s.arr.length cq, .slice ca s.ctx.length cc, .slice oa s.out.length oc, .int .i64 s.steps] ∧ GridR w qa s.arr ∧ RowB w.heap.size w 1 ca s.ctx.length (fun j _ => .int .u32 (s.ctx.getD j 0)) ∧
    RowB w.heap.size w 1 oa s.out.length (fun j _ => .int .u8 (s.out.getD j 0)) := by
  obtain ⟨qa, cq, ca, cc, oa, oc, rfl, h1, h2, h3⟩ := h
  exact ⟨qa, cq, ca, cc, oa, oc, rfl, h1.toR, h2.row, h3⟩

theorem zeros_fit {ars : List Ar} (h : ∀ a ∈ ars, 1 ≤ a.size ∧ a.size ≤ 65536) : fitsB ars (zeros ars) 16 = true := by
  refine fits_all (by simp [zeros]) rfl (fun k hk => ?_)
  rw [zeros_getD ars k hk]
  have hm : ars.getD k default ∈ ars := by rw [List.getD_eq_getElem?_getD, List.getElem?_eq_getElem hk]; exact List.getElem_mem hk
  have := h _ hm
  refine fitB_all (by rw [List.length_replicate]; omega) (fun j hj => ?_)
  rw [List.length_replicate] at hj
  generalize (ars.getD k default).size.toNat = n at hj ⊢
  rw [List.getD_eq_getElem?_getD, List.getElem?_replicate, if_pos hj]
  decide
theorem zeros_u32 (ars : List Ar) : ∀ a ∈ zeros ars, u32s a := by
  intro a ha
  simp only [zeros, List.mem_map] at ha
  obtain ⟨x, _, rfl⟩ := ha
  intro y hy
  rw [List.eq_of_mem_replicate hy]; omega
theorem zeros_len {ars : List Ar} (h : ∀ a ∈ ars, 1 ≤ a.size ∧ a.size ≤ 65536) : ∀ a ∈ zeros ars, a.length ≤ 65536 := by
  intro a ha
  simp only [zeros, List.mem_map] at ha
  obtain ⟨x, hx, rfl⟩ := ha
  have := h x hx
  rw [List.length_replicate]; omega

def cdCells (arsA : Option Addr) (n arsC : Nat) (regs spills : Int) (codeA : Option Addr) (m codeC : Nat) : List Value := [.slice arsA n arsC, .int .i64 regs, .int .i64 spills, .slice codeA m codeC]


set_option maxRecDepth 100000 in
set_option maxHeartbeats 1000000 in
theorem needs_idle (arsA codeA : Option Addr) (arsC codeC : Nat) (ars : List Ar) (regs spills : Int) (cd : List RI) (input : Int) (ended : Bool) (w : World)
    (hA : RowB w.heap.size w 2 arsA ars.length fun i j => (ars.getD i default).cell j) (hC : RowB w.heap.size w 5 codeA cd.length fun i j => (cd.getD i default).cell j) (ok : CodeOk ars regs spills cd)
    (hf : fewB ars cd = false ∨ (chkCode ars regs spills cd).2 ≠ 0) :
    Calls Try.prog 5 #[.agg #[.slice arsA ars.length arsC, .int .i64 regs, .int .i64 spills, .slice codeA cd.length codeC], .int .u32 input, .bool ended] w fun e w' => e = .returned (.bool true) ∧ Below w.heap.size w w' := by
  have hW : Below w.heap.size w (w.alloc (.cells #[.slice arsA ars.length arsC, .int .i64 regs, .int .i64 spills, .slice codeA cd.length codeC] 25)) := (Below.refl _ _).alloc (Nat.le_refl _) _
  have HF := Lib.hid (few_any arsA codeA arsC codeC regs spills ars cd _ ((hA.below hW).mono hW.size))
  have HW := Lib.hid hW
  have HA := Lib.hid hA
  have HC := Lib.hid hC
  have OK := Lib.hid ok
  clear hW hA hC ok
  cases hfew : fewB ars cd with
  | false =>
    rw [hfew] at HF
    clear hf hfew
    go_enter Try.func5, Try.ntmps5
    go_wp2_with fail
    refine HF.out.mono ?_
    rintro e W2 ⟨rfl, hb2⟩
    have H2 := Lib.hid (HW.out.trans (hb2.mono HW.out.size))
    clear hb2 HF
    go_wp2_with fail
    refine (awake_true W2).mono ?_
    rintro e W3 ⟨rfl, hb3⟩
    have H3 := Lib.hid (H2.out.trans (hb3.mono H2.out.size))
    clear hb3
    go_wp2
    go_ret
    exact ⟨rfl, H3.out⟩
  | true =>
    have hchk : (chkCode ars regs spills cd).2 ≠ 0 := by
      rcases hf with h | h
      · rw [hfew] at h; cases h
      · exact h
    rw [hfew] at HF
    clear hf hfew
    go_enter Try.func5, Try.ntmps5
    go_wp2_with fail
    refine HF.out.mono ?_
    rintro e W2 ⟨rfl, hb2⟩
    have kc2 : Blk W2 w.heap.size [.slice arsA ars.length arsC, .int .i64 regs, .int .i64 spills, .slice codeA cd.length codeC] 25 := (show Blk (w.alloc _) w.heap.size _ _ from heap_new1 _ _).below hb2 (by simp)
    have hb2' := HW.out.trans (hb2.mono HW.out.size)
    have HST := Lib.hid (Start_any arsA codeA arsC codeC ars regs spills cd W2 ((HA.out.below hb2').mono hb2'.size) ((HC.out.below hb2').mono hb2'.size) OK.out.la OK.out.lc OK.out.arg)
    have H2 := Lib.hid hb2'
    have a0 : W2.cell? ⟨w.heap.size, 0, none⟩ = some (.slice arsA ars.length arsC) := kc2.cell 0
    have a1 : W2.cell? ⟨w.heap.size, 0 + 1, none⟩ = some (.int .i64 regs) := kc2.cell 1
    have a2 : W2.cell? ⟨w.heap.size, 0 + 1 + 1, none⟩ = some (.int .i64 spills) := kc2.cell 2
    have a3 : W2.cell? ⟨w.heap.size, 0 + 1 + 1 + 1, none⟩ = some (.slice codeA cd.length codeC) := kc2.cell 3
    clear hb2 hb2' HF kc2
    go_wp2_with fail
    refine HST.out.mono ?_
    rintro e Y1 ⟨hbY, hst⟩
    rw [if_neg hchk] at hst
    replace hst : e = .returned (.tuple #[.agg #[.slice none 0 0, .slice none 0 0], .int .i64 (chkCode ars regs spills cd).2]) := hst
    subst hst
    have hd : ((chkCode ars regs spills cd).2 != 0) = true := by simpa using hchk
    generalize (chkCode ars regs spills cd).2 = er at hd ⊢
    have HY := Lib.hid (H2.out.trans (hbY.mono H2.out.size))
    clear hbY hchk a0 a1 a2 a3 HST
    go_upto_region 5 with (fail)
    refine wp_gen (fun W => Below w.heap.size w W) (HY.out.alloc HY.out.size _) ?_
    intro W3 hb3
    have H3 := Lib.hid hb3
    clear hb3
    go_wp2_with fail
    refine (awake_true W3).mono ?_
    rintro e W4 ⟨rfl, hb4⟩
    have H4 := Lib.hid (H3.out.trans (hb4.mono H3.out.size))
    clear hb4
    go_wp2
    go_ret
    exact ⟨rfl, H4.out⟩
end Go.Proofs.Ytefdnjhhaejgbaa

namespace Go.Proofs.Ytefdnjhhaejgbaa
open Go.RowKit
set_option linter.unusedVariables false

theorem fits_small {ars : List Ar} {arr : List (List Int)} {n : Nat} (h : fitsB ars arr n = true) (hs : ∀ a ∈ ars, 1 ≤ a.size ∧ a.size ≤ 65536) : arr.length = ars.length ∧ n = 16 ∧ ∀ a ∈ arr, a.length ≤ 65536 := by
  obtain ⟨h1, h2, h3⟩ := fits_lens h
  refine ⟨h1, h2, fun a ha => ?_⟩
  obtain ⟨k, hk, rfl⟩ := List.getElem_of_mem ha
  have e := h3 k hk
  have hm := hs (ars.getD k default) (by rw [List.getD_eq_getElem?_getD, List.getElem?_eq_getElem (by omega)]; exact List.getElem_mem _)
  rw [List.getD_eq_getElem?_getD, List.getElem?_eq_getElem hk, Option.getD_some] at e
  omega

theorem u32s_rep (n : Nat) : u32s (List.replicate n 0) := fun x hx => by rw [List.eq_of_mem_replicate hx]; decide

theorem tick_ne {c : MC} {s : PS} {e : Int} (h : tick c s = .error e) : e ≠ 0 := by
  unfold tick at h
  split at h
  · cases h
  · cases h; decide
theorem effect_ne {c : MC} {s : PS} {i : RI} {e : Int} (h : effect c s i = .error e) : e ≠ 0 := by
  unfold effect at h
  by_cases h0 : i.op = 0
  · rw [if_pos h0] at h
    cases h
  rw [if_neg h0] at h
  by_cases h36 : i.op = 36
  · rw [if_pos h36] at h
    cases h
  rw [if_neg h36] at h
  by_cases h37 : i.op = 37
  · rw [if_pos h37] at h
    cases h
  rw [if_neg h37] at h
  by_cases h38 : i.op = 38
  · rw [if_pos h38] at h
    cases h
  rw [if_neg h38] at h
  by_cases h32 : i.op = 32
  · rw [if_pos h32] at h
    cases h
  rw [if_neg h32] at h
  by_cases h33 : i.op = 33
  · rw [if_pos h33] at h
    cases h
  rw [if_neg h33] at h
  by_cases h34 : i.op = 34
  · rw [if_pos h34] at h
    split at h
    · cases h
    · cases h; decide
  rw [if_neg h34] at h
  by_cases h35 : i.op = 35
  · rw [if_pos h35] at h
    cases h
  rw [if_neg h35] at h
  by_cases h3 : i.op = 3
  · rw [if_pos h3] at h
    split at h
    · cases h
    · cases h; decide
  rw [if_neg h3] at h
  by_cases h4 : i.op = 4
  · rw [if_pos h4] at h
    split at h
    · cases h
    · cases h; decide
  rw [if_neg h4] at h
  by_cases h27 : i.op = 27
  · rw [if_pos h27] at h
    cases h
  rw [if_neg h27] at h
  by_cases h28 : i.op = 28
  · rw [if_pos h28] at h
    cases h
  rw [if_neg h28] at h
  by_cases h29 : i.op = 29
  · rw [if_pos h29] at h
    split at h
    · cases h; decide
    · split at h
      · cases h
      · exact tick_ne h
  rw [if_neg h29] at h
  by_cases h30 : i.op = 30
  · rw [if_pos h30] at h
    cases h
  rw [if_neg h30] at h
  by_cases h31 : i.op = 31
  · rw [if_pos h31] at h
    split at h
    · cases h
    · split at h
      · cases h
      · split at h
        · cases h
        · exact tick_ne h
  rw [if_neg h31] at h
  split at h
  · cases h
  · cases h; assumption
theorem mstep_ne {c : MC} {s : PS} {e : Int} (h : mstep c s = .error e) : e ≠ 0 := by
  unfold mstep at h
  dsimp only at h
  split at h
  · cases ht : tick c s with
    | error n => rw [ht] at h; cases h; exact tick_ne ht
    | ok s1 =>
      rw [ht] at h
      cases he : effect c s1 (c.cd.getD s.pc default) with
      | error n => simp only [Except.bind, he] at h; cases h; exact effect_ne he
      | ok s2 => simp only [Except.bind, he] at h; cases h
  · cases he : effect c s (c.cd.getD s.pc default) with
    | error n => simp only [Except.bind, he] at h; cases h; exact effect_ne he
    | ok s2 => simp only [Except.bind, he] at h; cases h
theorem mrun_ne {c : MC} : ∀ (n : Nat) {s : PS} {e : Int}, mrun c n s = .error e → e ≠ 0
  | 0, s, e, h => by cases h
  | n + 1, s, e, h => by
    rw [mrun] at h
    split at h
    · cases hm : mstep c s with
      | error k => rw [hm] at h; cases h; exact mstep_ne hm
      | ok s1 => rw [hm] at h; exact mrun_ne n h
    · cases h

theorem NeedsErr {ars : List Ar} {regs spills : Int} {cd : List RI} {arr : List (List Int)} {ctx : List Int} {input : Int} {ended : Bool} {F n : Int} (h : machRun ars regs spills cd arr ctx input ended F = .error n) : n ≠ 0 := by
  unfold machRun runRes at h
  split at h
  · cases h; assumption
  · split at h
    · cases h; decide
    · split at h
      · cases h; decide
      · exact mrun_ne _ h

set_option maxRecDepth 100000 in
set_option maxHeartbeats 1000000 in
theorem needs_a (arsA codeA : Option Addr) (arsC codeC : Nat) (ars : List Ar) (regs spills : Int) (cd : List RI) (input : Int) (ended : Bool) (t : T) (w : World)
    (hA : RowB w.heap.size w 2 arsA ars.length fun i j => (ars.getD i default).cell j) (hC : RowB w.heap.size w 5 codeA cd.length fun i j => (cd.getD i default).cell j) (ok : CodeOk ars regs spills cd) (hi : u32 input)
    (hfew : fewB ars cd = true) (hchk : (chkCode ars regs spills cd).2 = 0) (ht : cd = t.flat ∧ t.wf false 8) (b er : Int) (hbe : boundRes (chkCode ars regs spills cd).2 (t.bd 0) = (b, er)) (q1 : (er == 0) = false) (q2 : decide (b < 4000) = true) (hb0 : 0 ≤ b)
    (h19 : machRun ars regs spills cd (zeros ars) (List.replicate 16 0) input ended 4000 = .error 19 → 4000 = (4000 : Int)) :
    Calls Try.prog 5 #[.agg #[.slice arsA ars.length arsC, .int .i64 regs, .int .i64 spills, .slice codeA cd.length codeC], .int .u32 input, .bool ended] w fun e w' => e = .returned (.bool true) ∧ Below w.heap.size w w' := by
  have hW : Below w.heap.size w (w.alloc (.cells #[.slice arsA ars.length arsC, .int .i64 regs, .int .i64 spills, .slice codeA cd.length codeC] 25)) := (Below.refl _ _).alloc (Nat.le_refl _) _
  have hF := few_any arsA codeA arsC codeC regs spills ars cd _ ((hA.below hW).mono hW.size)
  rw [hfew] at hF
  have HF := Lib.hid hF
  have HW := Lib.hid hW
  have G := chk_good hchk
  obtain ⟨ms, hms⟩ : ∃ ms, zeros ars = ms := ⟨_, rfl⟩
  obtain ⟨cx, hcx⟩ : ∃ cx : List Int, List.replicate 16 0 = cx := ⟨_, rfl⟩
  have hzf := zeros_fit G.hars
  have hzu := zeros_u32 ars
  have hzl := zeros_len G.hars
  have hcu := u32s_rep 16
  have hcl : (List.replicate 16 (0 : Int)).length = 16 := List.length_replicate
  have HST := Lib.hid (fun W (hb : Below w.heap.size w W) => Start_any arsA codeA arsC codeC ars regs spills cd W ((hA.below hb).mono hb.size) ((hC.below hb).mono hb.size) ok.la ok.lc ok.arg)
  have HBO := Lib.hid (fun W (hb : Below w.heap.size w W) => Bound_any arsA codeA arsC codeC ars regs spills cd t W ((hA.below hb).mono hb.size) ((hC.below hb).mono hb.size) ok.la ok.lc ok.arg (fun _ => ht))
  unfold StartPost at HST
  rw [hms, hcx] at HST h19
  rw [hcx] at hcu
  rw [hms] at hzf hzu hzl
  rw [hcx] at hcl
  rw [hbe] at HBO
  dsimp only at HBO
  rw [← hcl] at hzf
  have hAl : ars.length ≤ 9223372036854775806 := by have := G.hnA; omega
  have HFI := Lib.hid (fun W (hb : Below w.heap.size w W) qa cq ca cc n arr (hg : GridR W qa arr) (hl : ∀ a ∈ arr, a.length ≤ 65536) => fitsR arsA qa ca arsC cq cc n ars arr W ((hA.below hb).mono hb.size) hg hAl (fun a ha => by have := hl a ha; omega))
  have HRU := Lib.hid (fun W (hb : Below w.heap.size w W) qa cq ca cc F (hg : GridR W qa ms) (hx : RowB W.heap.size W 1 ca cx.length fun j _ => .int .u32 (cx.getD j 0)) =>
    Run_is arsA codeA qa ca arsC codeC cq cc ars regs spills cd ms cx input ended F W ((hA.below hb).mono hb.size) ((hC.below hb).mono hb.size) hg hx hAl ok.lc ok.arg (fun a ha => by have := hzl a ha; omega) hzu hcu hi)
  have HFU := Lib.hid (fun (s : PS) F (h : machRun ars regs spills cd ms cx input ended F = .ok s) => mach_fuel ok.arg hzu hcu hi h)
  have HSM := Lib.hid G.hars
  have HCK := Lib.hid hchk
  have H19 := Lib.hid h19
  clear hW hF hA hC ok hi hfew ht hbe G hms hcx hzf hzu hzl hcu hcl hchk h19
  go_enter Try.func5, Try.ntmps5
  go_wp2_with fail
  refine HF.out.mono ?_
  rintro e W2 ⟨rfl, hb2⟩
  have kc2 : Blk W2 w.heap.size [.slice arsA ars.length arsC, .int .i64 regs, .int .i64 spills, .slice codeA cd.length codeC] 25 := (show Blk (w.alloc _) w.heap.size _ _ from heap_new1 _ _).below hb2 (by simp)
  have H2 := Lib.hid (HW.out.trans (hb2.mono HW.out.size))
  have K2 := Lib.hid kc2
  have a0 : W2.cell? ⟨w.heap.size, 0, none⟩ = some (.slice arsA ars.length arsC) := kc2.cell 0
  have a1 : W2.cell? ⟨w.heap.size, 0 + 1, none⟩ = some (.int .i64 regs) := kc2.cell 1
  have a2 : W2.cell? ⟨w.heap.size, 0 + 1 + 1, none⟩ = some (.int .i64 spills) := kc2.cell 2
  have a3 : W2.cell? ⟨w.heap.size, 0 + 1 + 1 + 1, none⟩ = some (.slice codeA cd.length codeC) := kc2.cell 3
  clear hb2 HF kc2 HW
  go_wp2_with fail
  refine (HST.out W2 H2.out).mono ?_
  rintro e Y1 ⟨hbY, hst⟩
  rw [if_pos HCK.out] at hst
  obtain ⟨v, rfl, hmv⟩ := hst
  obtain ⟨qa, cq, ca, cc, rfl, hg, hx⟩ := hmv Y1 (fun _ _ => rfl)
  have H3 := Lib.hid (And.intro (H2.out.trans (hbY.mono H2.out.size)) (And.intro (K2.out.below hbY K2.out.lt) (And.intro hg.toR hx.row)))
  have hlt : w.heap.size < Y1.heap.size := Nat.lt_of_lt_of_le K2.out.lt hbY.size
  clear hbY hg hx a0 a1 a2 a3 hmv K2 H2 HST
  go_upto_region 7 with (fail)
  refine wp_gen (fun W => Below w.heap.size w W ∧ Blk W w.heap.size [.slice arsA ars.length arsC, .int .i64 regs, .int .i64 spills, .slice codeA cd.length codeC] 25 ∧ Blk W Y1.heap.size [.slice qa ms.length cq, .slice ca cx.length cc] 31 ∧ GridR W qa ms ∧ (RowB W.heap.size W 1 ca cx.length fun j _ => .int .u32 (cx.getD j 0))) ?_ ?_
  · have hbb : Below Y1.heap.size Y1 (Y1.alloc (.cells #[.slice qa ms.length cq, .slice ca cx.length cc] 31)) := (Below.refl _ _).alloc (Nat.le_refl _) _
    exact ⟨H3.out.1.trans (hbb.mono H3.out.1.size), H3.out.2.1.below hbb hlt, heap_new1 _ _, H3.out.2.2.1.below hbb, (H3.out.2.2.2.below hbb).mono hbb.size⟩
  clear H3
  rintro W3 ⟨hb3, kc3, km3, hg3, hx3⟩
  have a0 : W3.cell? ⟨w.heap.size, 0, none⟩ = some (.slice arsA ars.length arsC) := kc3.cell 0
  have a1 : W3.cell? ⟨w.heap.size, 0 + 1, none⟩ = some (.int .i64 regs) := kc3.cell 1
  have a2 : W3.cell? ⟨w.heap.size, 0 + 1 + 1, none⟩ = some (.int .i64 spills) := kc3.cell 2
  have a3 : W3.cell? ⟨w.heap.size, 0 + 1 + 1 + 1, none⟩ = some (.slice codeA cd.length codeC) := kc3.cell 3
  have H3 := Lib.hid (And.intro hb3 (And.intro kc3 (And.intro km3 (And.intro hg3 hx3))))
  clear hb3 kc3 km3 hg3 hx3
  go_wp2_with fail
  refine (HBO.out W3 H3.out.1).mono ?_
  rintro e W4 ⟨rfl, hb4⟩
  dsimp only
  obtain ⟨hb3, kc3, km3, hg3, hx3⟩ := H3.out
  have kc4 := kc3.below hb4 kc3.lt
  have km4 := km3.below hb4 km3.lt
  have a0 : W4.cell? ⟨w.heap.size, 0, none⟩ = some (.slice arsA ars.length arsC) := kc4.cell 0
  have a1 : W4.cell? ⟨w.heap.size, 0 + 1, none⟩ = some (.int .i64 regs) := kc4.cell 1
  have a2 : W4.cell? ⟨w.heap.size, 0 + 1 + 1, none⟩ = some (.int .i64 spills) := kc4.cell 2
  have a3 : W4.cell? ⟨w.heap.size, 0 + 1 + 1 + 1, none⟩ = some (.slice codeA cd.length codeC) := kc4.cell 3
  have m0 : W4.cell? ⟨Y1.heap.size, 0, none⟩ = some (.slice qa ms.length cq) := km4.cell 0
  have m1 : W4.cell? ⟨Y1.heap.size, 0 + 1, none⟩ = some (.slice ca cx.length cc) := km4.cell 1
  have hb4' := hb3.trans (hb4.mono hb3.size)
  have H4 := Lib.hid (And.intro hb4' (And.intro kc4 (And.intro km4 (And.intro (hg3.below hb4) ((hx3.below hb4).mono hb4.size)))))
  clear hb3 kc3 km3 hg3 hx3 kc4 km4 hb4 hb4' H3 HBO
  go_wp2_with fail
  refine (HRU.out W4 H4.out.1 qa cq ca cc _ H4.out.2.2.2.1 H4.out.2.2.2.2).mono ?_
  rintro e W5 ⟨hb5, hst⟩
  obtain ⟨hb4, kc4, km4, hg4, hx4⟩ := H4.out
  have H5 := Lib.hid (And.intro (hb4.trans (hb5.mono hb4.size)) (And.intro (kc4.below hb5 kc4.lt) (And.intro (km4.below hb5 km4.lt) (And.intro (hg4.below hb5) ((hx4.below hb5).mono hb5.size)))))
  clear hb4 kc4 km4 hg4 hx4 H4 a0 a1 a2 a3 m0 m1
  cases hr : machRun ars regs spills cd ms cx input ended 4000 with
  | error n =>
    rw [hr] at hst
    replace hst : e = .returned (.tuple #[.agg #[.slice none 0 0, .slice none 0 0, .slice none 0 0, .int .i64 0], .int .i64 n]) := hst
    subst hst
    have hn0 := NeedsErr hr
    by_cases hn : n = 19
    · subst hn
      have hd : ((4000 : Int) == 4000) = true := by first | rfl | exact beq_iff_eq.2 (H19.out hr)
      have HB5 := Lib.hid hb5
      clear hr hn0 hb5
      go_upto_region 12 with (fail)
      refine wp_gen (fun W => Below w.heap.size w W) (H5.out.1.alloc H5.out.1.size _) ?_
      intro W6 hb6
      have H6 := Lib.hid hb6
      clear hb6 H5
      go_wp2_with fail
      refine (awake_true W6).mono ?_
      rintro e W7 ⟨rfl, hb7⟩
      have H7 := Lib.hid (H6.out.trans (hb7.mono H6.out.size))
      clear hb7
      go_wp2
      go_ret
      exact ⟨rfl, H7.out⟩
    · have hd : (n == 19) = false := by simpa using hn
      have hd2 : (n != 0) = true := by simpa using hn0
      clear hr hn0 hb5 hn
      go_upto_region 14 with (fail)
      refine wp_gen (fun W => Below w.heap.size w W) (H5.out.1.alloc H5.out.1.size _) ?_
      intro W6 hb6
      have H6 := Lib.hid hb6
      clear hb6 H5
      go_wp2_with fail
      refine (awake_true W6).mono ?_
      rintro e W7 ⟨rfl, hb7⟩
      have H7 := Lib.hid (H6.out.trans (hb7.mono H6.out.size))
      clear hb7
      go_wp2
      go_ret
      exact ⟨rfl, H7.out⟩
  | ok s =>
    rw [hr] at hst
    obtain ⟨v, rfl, hv⟩ := hst
    obtain ⟨qb, cqb, cb, ccb, ob, ocb, rfl, hgb, hxb, hob⟩ := (hv W5 (fun _ _ => rfl) rfl).res
    have hres : ResAt W5 s.arr s.ctx s.out s.steps (.agg #[.slice qb s.arr.length cqb, .slice cb s.ctx.length ccb, .slice ob s.out.length ocb, .int .i64 s.steps]) := ⟨qb, cqb, cb, ccb, ob, ocb, rfl, hgb, hxb, hob⟩
    obtain ⟨n1, n2, n3, n4, n5, n6, n7⟩ := HFU.out s _ hr
    obtain ⟨l1, l2, l3⟩ := fits_small n3 HSM.out
    have HRES := Lib.hid (And.intro hres (And.intro hgb hxb))
    have HNF := Lib.hid n3
    have HN6 := Lib.hid n6
    have HN7 := Lib.hid n7
    have HL3 := Lib.hid (And.intro l1 (And.intro l2 l3))
    have p1 : decide (s.steps < 0) = false := by simp; omega
    have p2 : decide (4000 < s.steps) = false := by simp; omega
    have n8 : s.steps ≤ 4000 := by
      first
        | omega
        | (have : b < 4000 := by simpa using q2
           omega)
    have hl5 : Y1.heap.size < W5.heap.size := H5.out.2.2.1.lt
    clear hb5 hv hgb hxb hob hres n2 n3 n4 n5 n6 n7 l1 l2 l3 hr H19 HSM HFU
    go_upto_region 15 with (fail)
    refine wp_gen (fun W => Below w.heap.size w W ∧ Blk W w.heap.size [.slice arsA ars.length arsC, .int .i64 regs, .int .i64 spills, .slice codeA cd.length codeC] 25 ∧ Blk W Y1.heap.size [.slice qa ms.length cq, .slice ca cx.length cc] 31 ∧ GridR W qa ms ∧ (RowB W.heap.size W 1 ca cx.length fun j _ => .int .u32 (cx.getD j 0)) ∧
        Blk W W5.heap.size [.slice qb s.arr.length cqb, .slice cb s.ctx.length ccb, .slice ob s.out.length ocb, .int .i64 s.steps] 49 ∧ ResAt W s.arr s.ctx s.out s.steps (.agg #[.slice qb s.arr.length cqb, .slice cb s.ctx.length ccb, .slice ob s.out.length ocb, .int .i64 s.steps]) ∧ GridR W qb s.arr) ?_ ?_
    · have hbb : Below W5.heap.size W5 (W5.alloc (.cells #[.slice qb s.arr.length cqb, .slice cb s.ctx.length ccb, .slice ob s.out.length ocb, .int .i64 s.steps] 49)) := (Below.refl _ _).alloc (Nat.le_refl _) _
      obtain ⟨hb5, kc5, km5, hg5, hx5⟩ := H5.out
      exact ⟨hb5.trans (hbb.mono hb5.size), kc5.below hbb kc5.lt, km5.below hbb km5.lt, hg5.below hbb, (hx5.below hbb).mono hbb.size, heap_new1 _ _, HRES.out.1.below hbb, HRES.out.2.1.below hbb⟩
    clear H5 HRES
    rintro W6 ⟨hb6, kc6, km6, hg6, hx6, kr6, hr6, hq6⟩
    have a0 : W6.cell? ⟨w.heap.size, 0, none⟩ = some (.slice arsA ars.length arsC) := kc6.cell 0
    have r0 : W6.cell? ⟨W5.heap.size, 0, none⟩ = some (.slice qb s.arr.length cqb) := kr6.cell 0
    have r1 : W6.cell? ⟨W5.heap.size, 0 + 1, none⟩ = some (.slice cb s.ctx.length ccb) := kr6.cell 1
    have r3 : W6.cell? ⟨W5.heap.size, 3, none⟩ = some (.int .i64 s.steps) := kr6.cell 3
    have hfit := HFI.out W6 hb6 qb cqb cb ccb s.ctx.length s.arr hq6 HL3.out.2.2
    rw [HNF.out] at hfit
    have HFIT := Lib.hid hfit
    have H6 := Lib.hid (And.intro hb6 (And.intro kc6 (And.intro km6 (And.intro hg6 (And.intro hx6 (And.intro kr6 hr6))))))
    clear hb6 kc6 km6 hg6 hx6 kr6 hr6 hq6 hfit
    go_wp2_with fail
    refine HFIT.out.mono ?_
    rintro e W7 ⟨rfl, hb7⟩
    obtain ⟨hb6, kc6, km6, hg6, hx6, kr6, hr6⟩ := H6.out
    have kc7 := kc6.below hb7 kc6.lt
    have km7 := km6.below hb7 km6.lt
    have kr7 := kr6.below hb7 kr6.lt
    have a0 : W7.cell? ⟨w.heap.size, 0, none⟩ = some (.slice arsA ars.length arsC) := kc7.cell 0
    have a1 : W7.cell? ⟨w.heap.size, 0 + 1, none⟩ = some (.int .i64 regs) := kc7.cell 1
    have a2 : W7.cell? ⟨w.heap.size, 0 + 1 + 1, none⟩ = some (.int .i64 spills) := kc7.cell 2
    have a3 : W7.cell? ⟨w.heap.size, 0 + 1 + 1 + 1, none⟩ = some (.slice codeA cd.length codeC) := kc7.cell 3
    have m0 : W7.cell? ⟨Y1.heap.size, 0, none⟩ = some (.slice qa ms.length cq) := km7.cell 0
    have m1 : W7.cell? ⟨Y1.heap.size, 0 + 1, none⟩ = some (.slice ca cx.length cc) := km7.cell 1
    have r3 : W7.cell? ⟨W5.heap.size, 3, none⟩ = some (.int .i64 s.steps) := kr7.cell 3
    have H7 := Lib.hid (And.intro (hb6.trans (hb7.mono hb6.size)) (And.intro kc7 (And.intro km7 (And.intro (hg6.below hb7) (And.intro ((hx6.below hb7).mono hb7.size) (And.intro kr7 (hr6.below hb7)))))))
    clear hb6 kc6 km6 hg6 hx6 kr6 hr6 hb7 kc7 km7 kr7 H6 HFIT HFI r0 r1 p1 p2
    go_wp2_with fail
    refine (HRU.out W7 H7.out.1 qa cq ca cc _ H7.out.2.2.2.1 H7.out.2.2.2.2.1).mono ?_
    rintro e W8 ⟨hb8, hst⟩
    rw [HN6.out] at hst
    obtain ⟨v, rfl, hv⟩ := hst
    obtain ⟨qd, cqd, cd2, ccd, od, ocd, rfl, hgd, hxd, hod⟩ := (hv W8 (fun _ _ => rfl) rfl).res
    have hres2 : ResAt W8 s.arr s.ctx s.out s.steps (.agg #[.slice qd s.arr.length cqd, .slice cd2 s.ctx.length ccd, .slice od s.out.length ocd, .int .i64 s.steps]) := ⟨qd, cqd, cd2, ccd, od, ocd, rfl, hgd, hxd, hod⟩
    obtain ⟨hb7, kc7, km7, hg7, hx7, kr7, hr7⟩ := H7.out
    have hl8 : W5.heap.size < W8.heap.size := Nat.lt_of_lt_of_le kr7.lt hb8.size
    have H8 := Lib.hid (And.intro (hb7.trans (hb8.mono hb7.size)) (And.intro (kc7.below hb8 kc7.lt) (And.intro (km7.below hb8 km7.lt) (And.intro (hg7.below hb8) (And.intro ((hx7.below hb8).mono hb8.size) (And.intro (kr7.below hb8 kr7.lt) (And.intro (hr7.below hb8) hres2)))))))
    clear hb7 kc7 km7 hg7 hx7 kr7 hr7 hb8 hv hgd hxd hod hres2 H7 a0 a1 a2 a3 m0 m1 r3 HN6
    go_upto_region 18 with (fail)
    refine wp_gen (fun W => Below w.heap.size w W ∧ Blk W w.heap.size [.slice arsA ars.length arsC, .int .i64 regs, .int .i64 spills, .slice codeA cd.length codeC] 25 ∧ Blk W Y1.heap.size [.slice qa ms.length cq, .slice ca cx.length cc] 31 ∧ GridR W qa ms ∧ (RowB W.heap.size W 1 ca cx.length fun j _ => .int .u32 (cx.getD j 0)) ∧
        Blk W W5.heap.size [.slice qb s.arr.length cqb, .slice cb s.ctx.length ccb, .slice ob s.out.length ocb, .int .i64 s.steps] 49 ∧ ResAt W s.arr s.ctx s.out s.steps (.agg #[.slice qb s.arr.length cqb, .slice cb s.ctx.length ccb, .slice ob s.out.length ocb, .int .i64 s.steps]) ∧
        Blk W W8.heap.size [.slice qd s.arr.length cqd, .slice cd2 s.ctx.length ccd, .slice od s.out.length ocd, .int .i64 s.steps] 49 ∧ ResAt W s.arr s.ctx s.out s.steps (.agg #[.slice qd s.arr.length cqd, .slice cd2 s.ctx.length ccd, .slice od s.out.length ocd, .int .i64 s.steps])) ?_ ?_
    · have hbb : Below W8.heap.size W8 (W8.alloc (.cells #[.slice qd s.arr.length cqd, .slice cd2 s.ctx.length ccd, .slice od s.out.length ocd, .int .i64 s.steps] 49)) := (Below.refl _ _).alloc (Nat.le_refl _) _
      obtain ⟨hb5, kc5, km5, hg5, hx5, kr5, hr5, hq5⟩ := H8.out
      exact ⟨hb5.trans (hbb.mono hb5.size), kc5.below hbb kc5.lt, km5.below hbb km5.lt, hg5.below hbb, (hx5.below hbb).mono hbb.size, kr5.below hbb kr5.lt, hr5.below hbb, heap_new1 _ _, hq5.below hbb⟩
    clear H8
    rintro W9 ⟨hb9, kc9, km9, hg9, hx9, kr9, hr9, ks9, hs9⟩
    have r0 : W9.cell? ⟨W5.heap.size, 0, none⟩ = some (.slice qb s.arr.length cqb) := kr9.cell 0
    have r1 : W9.cell? ⟨W5.heap.size, 0 + 1, none⟩ = some (.slice cb s.ctx.length ccb) := kr9.cell 1
    have r2 : W9.cell? ⟨W5.heap.size, 0 + 1 + 1, none⟩ = some (.slice ob s.out.length ocb) := kr9.cell 2
    have r3 : W9.cell? ⟨W5.heap.size, 0 + 1 + 1 + 1, none⟩ = some (.int .i64 s.steps) := kr9.cell 3
    have s0 : W9.cell? ⟨W8.heap.size, 0, none⟩ = some (.slice qd s.arr.length cqd) := ks9.cell 0
    have s1 : W9.cell? ⟨W8.heap.size, 0 + 1, none⟩ = some (.slice cd2 s.ctx.length ccd) := ks9.cell 1
    have s2 : W9.cell? ⟨W8.heap.size, 0 + 1 + 1, none⟩ = some (.slice od s.out.length ocd) := ks9.cell 2
    have s3 : W9.cell? ⟨W8.heap.size, 0 + 1 + 1 + 1, none⟩ = some (.int .i64 s.steps) := ks9.cell 3
    have HSA := Lib.hid (same_run _ _ s.steps s.arr s.ctx s.out W9 hr9 hs9 (by have := HL3.out.1; omega) (by have := HL3.out.2.1; omega) (fun a ha => by have := HL3.out.2.2 a ha; omega))
    have H9 := Lib.hid (And.intro hb9 (And.intro kc9 (And.intro km9 (And.intro hg9 (And.intro hx9 kr9)))))
    clear hb9 kc9 km9 hg9 hx9 kr9 hr9 ks9 hs9
    go_wp2_with fail
    refine HSA.out.mono ?_
    rintro e WA ⟨rfl, hbA⟩
    obtain ⟨hb9, kc9, km9, hg9, hx9, kr9⟩ := H9.out
    have kcA := kc9.below hbA kc9.lt
    have kmA := km9.below hbA km9.lt
    have krA := kr9.below hbA kr9.lt
    have a0 : WA.cell? ⟨w.heap.size, 0, none⟩ = some (.slice arsA ars.length arsC) := kcA.cell 0
    have a1 : WA.cell? ⟨w.heap.size, 0 + 1, none⟩ = some (.int .i64 regs) := kcA.cell 1
    have a2 : WA.cell? ⟨w.heap.size, 0 + 1 + 1, none⟩ = some (.int .i64 spills) := kcA.cell 2
    have a3 : WA.cell? ⟨w.heap.size, 0 + 1 + 1 + 1, none⟩ = some (.slice codeA cd.length codeC) := kcA.cell 3
    have m0 : WA.cell? ⟨Y1.heap.size, 0, none⟩ = some (.slice qa ms.length cq) := kmA.cell 0
    have m1 : WA.cell? ⟨Y1.heap.size, 0 + 1, none⟩ = some (.slice ca cx.length cc) := kmA.cell 1
    have r3 : WA.cell? ⟨W5.heap.size, 3, none⟩ = some (.int .i64 s.steps) := krA.cell 3
    have HA := Lib.hid (And.intro (hb9.trans (hbA.mono hb9.size)) (And.intro (hg9.below hbA) ((hx9.below hbA).mono hbA.size)))
    clear hb9 kc9 km9 hg9 hx9 kr9 hbA kcA kmA krA H9 HSA r0 r1 r2 s0 s1 s2 s3
    by_cases h0 : s.steps = 0
    · have p3 : (s.steps == 0) = true := by simpa using h0
      clear h0 a0 a1 a2 a3 m0 m1 HN7
      go_wp2_with fail
      refine (awake_true WA).mono ?_
      rintro e WB ⟨rfl, hbB⟩
      have HB := Lib.hid (HA.out.1.trans (hbB.mono HA.out.1.size))
      clear hbB
      go_wp2
      go_ret
      exact ⟨rfl, HB.out⟩
    · have p3 : (s.steps == 0) = false := by simpa using h0
      have hpos : 0 < s.steps := by omega
      have HN := Lib.hid (HN7.out hpos)
      clear h0 HN7
      go_wp2_with fail
      refine (HRU.out WA HA.out.1 qa cq ca cc _ HA.out.2.1 HA.out.2.2).mono ?_
      rintro e WB ⟨hbB, hst⟩
      rw [HN.out] at hst
      replace hst : e = .returned (.tuple #[.agg #[.slice none 0 0, .slice none 0 0, .slice none 0 0, .int .i64 0], .int .i64 19]) := hst
      subst hst
      have HB := Lib.hid (HA.out.1.trans (hbB.mono HA.out.1.size))
      clear hbB a0 a1 a2 a3 m0 m1 r3
      go_upto_region 23 with (fail)
      refine wp_gen (fun W => Below w.heap.size w W) (HB.out.alloc HB.out.size _) ?_
      intro WC hbC
      have HC := Lib.hid hbC
      clear hbC HB
      go_wp2_with fail
      refine (awake_true WC).mono ?_
      rintro e WD ⟨rfl, hbD⟩
      have HD := Lib.hid (HC.out.trans (hbD.mono HC.out.size))
      clear hbD
      go_wp2
      go_ret
      exact ⟨rfl, HD.out⟩
set_option maxRecDepth 100000 in
set_option maxHeartbeats 1000000 in
theorem needs_b (arsA codeA : Option Addr) (arsC codeC : Nat) (ars : List Ar) (regs spills : Int) (cd : List RI) (input : Int) (ended : Bool) (t : T) (w : World)
    (hA : RowB w.heap.size w 2 arsA ars.length fun i j => (ars.getD i default).cell j) (hC : RowB w.heap.size w 5 codeA cd.length fun i j => (cd.getD i default).cell j) (ok : CodeOk ars regs spills cd) (hi : u32 input)
    (hfew : fewB ars cd = true) (hchk : (chkCode ars regs spills cd).2 = 0) (ht : cd = t.flat ∧ t.wf false 8) (b er : Int) (hbe : boundRes (chkCode ars regs spills cd).2 (t.bd 0) = (b, er)) (q1 : (er == 0) = true) (q2 : decide (b < 4000) = false) (hb0 : 0 ≤ b)
    (h19 : machRun ars regs spills cd (zeros ars) (List.replicate 16 0) input ended 4000 = .error 19 → 4000 = (4000 : Int)) :
    Calls Try.prog 5 #[.agg #[.slice arsA ars.length arsC, .int .i64 regs, .int .i64 spills, .slice codeA cd.length codeC], .int .u32 input, .bool ended] w fun e w' => e = .returned (.bool true) ∧ Below w.heap.size w w' := by
  have hW : Below w.heap.size w (w.alloc (.cells #[.slice arsA ars.length arsC, .int .i64 regs, .int .i64 spills, .slice codeA cd.length codeC] 25)) := (Below.refl _ _).alloc (Nat.le_refl _) _
  have hF := few_any arsA codeA arsC codeC regs spills ars cd _ ((hA.below hW).mono hW.size)
  rw [hfew] at hF
  have HF := Lib.hid hF
  have HW := Lib.hid hW
  have G := chk_good hchk
  obtain ⟨ms, hms⟩ : ∃ ms, zeros ars = ms := ⟨_, rfl⟩
  obtain ⟨cx, hcx⟩ : ∃ cx : List Int, List.replicate 16 0 = cx := ⟨_, rfl⟩
  have hzf := zeros_fit G.hars
  have hzu := zeros_u32 ars
  have hzl := zeros_len G.hars
  have hcu := u32s_rep 16
  have hcl : (List.replicate 16 (0 : Int)).length = 16 := List.length_replicate
  have HST := Lib.hid (fun W (hb : Below w.heap.size w W) => Start_any arsA codeA arsC codeC ars regs spills cd W ((hA.below hb).mono hb.size) ((hC.below hb).mono hb.size) ok.la ok.lc ok.arg)
  have HBO := Lib.hid (fun W (hb : Below w.heap.size w W) => Bound_any arsA codeA arsC codeC ars regs spills cd t W ((hA.below hb).mono hb.size) ((hC.below hb).mono hb.size) ok.la ok.lc ok.arg (fun _ => ht))
  unfold StartPost at HST
  rw [hms, hcx] at HST h19
  rw [hcx] at hcu
  rw [hms] at hzf hzu hzl
  rw [hcx] at hcl
  rw [hbe] at HBO
  dsimp only at HBO
  rw [← hcl] at hzf
  have hAl : ars.length ≤ 9223372036854775806 := by have := G.hnA; omega
  have HFI := Lib.hid (fun W (hb : Below w.heap.size w W) qa cq ca cc n arr (hg : GridR W qa arr) (hl : ∀ a ∈ arr, a.length ≤ 65536) => fitsR arsA qa ca arsC cq cc n ars arr W ((hA.below hb).mono hb.size) hg hAl (fun a ha => by have := hl a ha; omega))
  have HRU := Lib.hid (fun W (hb : Below w.heap.size w W) qa cq ca cc F (hg : GridR W qa ms) (hx : RowB W.heap.size W 1 ca cx.length fun j _ => .int .u32 (cx.getD j 0)) =>
    Run_is arsA codeA qa ca arsC codeC cq cc ars regs spills cd ms cx input ended F W ((hA.below hb).mono hb.size) ((hC.below hb).mono hb.size) hg hx hAl ok.lc ok.arg (fun a ha => by have := hzl a ha; omega) hzu hcu hi)
  have HFU := Lib.hid (fun (s : PS) F (h : machRun ars regs spills cd ms cx input ended F = .ok s) => mach_fuel ok.arg hzu hcu hi h)
  have HSM := Lib.hid G.hars
  have HCK := Lib.hid hchk
  have H19 := Lib.hid h19
  clear hW hF hA hC ok hi hfew ht hbe G hms hcx hzf hzu hzl hcu hcl hchk h19
  go_enter Try.func5, Try.ntmps5
  go_wp2_with fail
  refine HF.out.mono ?_
  rintro e W2 ⟨rfl, hb2⟩
  have kc2 : Blk W2 w.heap.size [.slice arsA ars.length arsC, .int .i64 regs, .int .i64 spills, .slice codeA cd.length codeC] 25 := (show Blk (w.alloc _) w.heap.size _ _ from heap_new1 _ _).below hb2 (by simp)
  have H2 := Lib.hid (HW.out.trans (hb2.mono HW.out.size))
  have K2 := Lib.hid kc2
  have a0 : W2.cell? ⟨w.heap.size, 0, none⟩ = some (.slice arsA ars.length arsC) := kc2.cell 0
  have a1 : W2.cell? ⟨w.heap.size, 0 + 1, none⟩ = some (.int .i64 regs) := kc2.cell 1
  have a2 : W2.cell? ⟨w.heap.size, 0 + 1 + 1, none⟩ = some (.int .i64 spills) := kc2.cell 2
  have a3 : W2.cell? ⟨w.heap.size, 0 + 1 + 1 + 1, none⟩ = some (.slice codeA cd.length codeC) := kc2.cell 3
  clear hb2 HF kc2 HW
  go_wp2_with fail
  refine (HST.out W2 H2.out).mono ?_
  rintro e Y1 ⟨hbY, hst⟩
  rw [if_pos HCK.out] at hst
  obtain ⟨v, rfl, hmv⟩ := hst
  obtain ⟨qa, cq, ca, cc, rfl, hg, hx⟩ := hmv Y1 (fun _ _ => rfl)
  have H3 := Lib.hid (And.intro (H2.out.trans (hbY.mono H2.out.size)) (And.intro (K2.out.below hbY K2.out.lt) (And.intro hg.toR hx.row)))
  have hlt : w.heap.size < Y1.heap.size := Nat.lt_of_lt_of_le K2.out.lt hbY.size
  clear hbY hg hx a0 a1 a2 a3 hmv K2 H2 HST
  go_upto_region 7 with (fail)
  refine wp_gen (fun W => Below w.heap.size w W ∧ Blk W w.heap.size [.slice arsA ars.length arsC, .int .i64 regs, .int .i64 spills, .slice codeA cd.length codeC] 25 ∧ Blk W Y1.heap.size [.slice qa ms.length cq, .slice ca cx.length cc] 31 ∧ GridR W qa ms ∧ (RowB W.heap.size W 1 ca cx.length fun j _ => .int .u32 (cx.getD j 0))) ?_ ?_
  · have hbb : Below Y1.heap.size Y1 (Y1.alloc (.cells #[.slice qa ms.length cq, .slice ca cx.length cc] 31)) := (Below.refl _ _).alloc (Nat.le_refl _) _
    exact ⟨H3.out.1.trans (hbb.mono H3.out.1.size), H3.out.2.1.below hbb hlt, heap_new1 _ _, H3.out.2.2.1.below hbb, (H3.out.2.2.2.below hbb).mono hbb.size⟩
  clear H3
  rintro W3 ⟨hb3, kc3, km3, hg3, hx3⟩
  have a0 : W3.cell? ⟨w.heap.size, 0, none⟩ = some (.slice arsA ars.length arsC) := kc3.cell 0
  have a1 : W3.cell? ⟨w.heap.size, 0 + 1, none⟩ = some (.int .i64 regs) := kc3.cell 1
  have a2 : W3.cell? ⟨w.heap.size, 0 + 1 + 1, none⟩ = some (.int .i64 spills) := kc3.cell 2
  have a3 : W3.cell? ⟨w.heap.size, 0 + 1 + 1 + 1, none⟩ = some (.slice codeA cd.length codeC) := kc3.cell 3
  have H3 := Lib.hid (And.intro hb3 (And.intro kc3 (And.intro km3 (And.intro hg3 hx3))))
  clear hb3 kc3 km3 hg3 hx3
  go_wp2_with fail
  refine (HBO.out W3 H3.out.1).mono ?_
  rintro e W4 ⟨rfl, hb4⟩
  dsimp only
  obtain ⟨hb3, kc3, km3, hg3, hx3⟩ := H3.out
  have kc4 := kc3.below hb4 kc3.lt
  have km4 := km3.below hb4 km3.lt
  have a0 : W4.cell? ⟨w.heap.size, 0, none⟩ = some (.slice arsA ars.length arsC) := kc4.cell 0
  have a1 : W4.cell? ⟨w.heap.size, 0 + 1, none⟩ = some (.int .i64 regs) := kc4.cell 1
  have a2 : W4.cell? ⟨w.heap.size, 0 + 1 + 1, none⟩ = some (.int .i64 spills) := kc4.cell 2
  have a3 : W4.cell? ⟨w.heap.size, 0 + 1 + 1 + 1, none⟩ = some (.slice codeA cd.length codeC) := kc4.cell 3
  have m0 : W4.cell? ⟨Y1.heap.size, 0, none⟩ = some (.slice qa ms.length cq) := km4.cell 0
  have m1 : W4.cell? ⟨Y1.heap.size, 0 + 1, none⟩ = some (.slice ca cx.length cc) := km4.cell 1
  have hb4' := hb3.trans (hb4.mono hb3.size)
  have H4 := Lib.hid (And.intro hb4' (And.intro kc4 (And.intro km4 (And.intro (hg3.below hb4) ((hx3.below hb4).mono hb4.size)))))
  clear hb3 kc3 km3 hg3 hx3 kc4 km4 hb4 hb4' H3 HBO
  go_wp2_with fail
  refine (HRU.out W4 H4.out.1 qa cq ca cc _ H4.out.2.2.2.1 H4.out.2.2.2.2).mono ?_
  rintro e W5 ⟨hb5, hst⟩
  obtain ⟨hb4, kc4, km4, hg4, hx4⟩ := H4.out
  have H5 := Lib.hid (And.intro (hb4.trans (hb5.mono hb4.size)) (And.intro (kc4.below hb5 kc4.lt) (And.intro (km4.below hb5 km4.lt) (And.intro (hg4.below hb5) ((hx4.below hb5).mono hb5.size)))))
  clear hb4 kc4 km4 hg4 hx4 H4 a0 a1 a2 a3 m0 m1
  cases hr : machRun ars regs spills cd ms cx input ended 4000 with
  | error n =>
    rw [hr] at hst
    replace hst : e = .returned (.tuple #[.agg #[.slice none 0 0, .slice none 0 0, .slice none 0 0, .int .i64 0], .int .i64 n]) := hst
    subst hst
    have hn0 := NeedsErr hr
    by_cases hn : n = 19
    · subst hn
      have hd : ((4000 : Int) == 4000) = true := by first | rfl | exact beq_iff_eq.2 (H19.out hr)
      have HB5 := Lib.hid hb5
      clear hr hn0 hb5
      go_upto_region 12 with (fail)
      refine wp_gen (fun W => Below w.heap.size w W) (H5.out.1.alloc H5.out.1.size _) ?_
      intro W6 hb6
      have H6 := Lib.hid hb6
      clear hb6 H5
      go_wp2_with fail
      refine (awake_true W6).mono ?_
      rintro e W7 ⟨rfl, hb7⟩
      have H7 := Lib.hid (H6.out.trans (hb7.mono H6.out.size))
      clear hb7
      go_wp2
      go_ret
      exact ⟨rfl, H7.out⟩
    · have hd : (n == 19) = false := by simpa using hn
      have hd2 : (n != 0) = true := by simpa using hn0
      clear hr hn0 hb5 hn
      go_upto_region 14 with (fail)
      refine wp_gen (fun W => Below w.heap.size w W) (H5.out.1.alloc H5.out.1.size _) ?_
      intro W6 hb6
      have H6 := Lib.hid hb6
      clear hb6 H5
      go_wp2_with fail
      refine (awake_true W6).mono ?_
      rintro e W7 ⟨rfl, hb7⟩
      have H7 := Lib.hid (H6.out.trans (hb7.mono H6.out.size))
      clear hb7
      go_wp2
      go_ret
      exact ⟨rfl, H7.out⟩
  | ok s =>
    rw [hr] at hst
    obtain ⟨v, rfl, hv⟩ := hst
    obtain ⟨qb, cqb, cb, ccb, ob, ocb, rfl, hgb, hxb, hob⟩ := (hv W5 (fun _ _ => rfl) rfl).res
    have hres : ResAt W5 s.arr s.ctx s.out s.steps (.agg #[.slice qb s.arr.length cqb, .slice cb s.ctx.length ccb, .slice ob s.out.length ocb, .int .i64 s.steps]) := ⟨qb, cqb, cb, ccb, ob, ocb, rfl, hgb, hxb, hob⟩
    obtain ⟨n1, n2, n3, n4, n5, n6, n7⟩ := HFU.out s _ hr
    obtain ⟨l1, l2, l3⟩ := fits_small n3 HSM.out
    have HRES := Lib.hid (And.intro hres (And.intro hgb hxb))
    have HNF := Lib.hid n3
    have HN6 := Lib.hid n6
    have HN7 := Lib.hid n7
    have HL3 := Lib.hid (And.intro l1 (And.intro l2 l3))
    have p1 : decide (s.steps < 0) = false := by simp; omega
    have p2 : decide (4000 < s.steps) = false := by simp; omega
    have n8 : s.steps ≤ 4000 := by
      first
        | omega
        | (have : b < 4000 := by simpa using q2
           omega)
    have hl5 : Y1.heap.size < W5.heap.size := H5.out.2.2.1.lt
    clear hb5 hv hgb hxb hob hres n2 n3 n4 n5 n6 n7 l1 l2 l3 hr H19 HSM HFU
    go_upto_region 15 with (fail)
    refine wp_gen (fun W => Below w.heap.size w W ∧ Blk W w.heap.size [.slice arsA ars.length arsC, .int .i64 regs, .int .i64 spills, .slice codeA cd.length codeC] 25 ∧ Blk W Y1.heap.size [.slice qa ms.length cq, .slice ca cx.length cc] 31 ∧ GridR W qa ms ∧ (RowB W.heap.size W 1 ca cx.length fun j _ => .int .u32 (cx.getD j 0)) ∧
        Blk W W5.heap.size [.slice qb s.arr.length cqb, .slice cb s.ctx.length ccb, .slice ob s.out.length ocb, .int .i64 s.steps] 49 ∧ ResAt W s.arr s.ctx s.out s.steps (.agg #[.slice qb s.arr.length cqb, .slice cb s.ctx.length ccb, .slice ob s.out.length ocb, .int .i64 s.steps]) ∧ GridR W qb s.arr) ?_ ?_
    · have hbb : Below W5.heap.size W5 (W5.alloc (.cells #[.slice qb s.arr.length cqb, .slice cb s.ctx.length ccb, .slice ob s.out.length ocb, .int .i64 s.steps] 49)) := (Below.refl _ _).alloc (Nat.le_refl _) _
      obtain ⟨hb5, kc5, km5, hg5, hx5⟩ := H5.out
      exact ⟨hb5.trans (hbb.mono hb5.size), kc5.below hbb kc5.lt, km5.below hbb km5.lt, hg5.below hbb, (hx5.below hbb).mono hbb.size, heap_new1 _ _, HRES.out.1.below hbb, HRES.out.2.1.below hbb⟩
    clear H5 HRES
    rintro W6 ⟨hb6, kc6, km6, hg6, hx6, kr6, hr6, hq6⟩
    have a0 : W6.cell? ⟨w.heap.size, 0, none⟩ = some (.slice arsA ars.length arsC) := kc6.cell 0
    have r0 : W6.cell? ⟨W5.heap.size, 0, none⟩ = some (.slice qb s.arr.length cqb) := kr6.cell 0
    have r1 : W6.cell? ⟨W5.heap.size, 0 + 1, none⟩ = some (.slice cb s.ctx.length ccb) := kr6.cell 1
    have r3 : W6.cell? ⟨W5.heap.size, 3, none⟩ = some (.int .i64 s.steps) := kr6.cell 3
    have hfit := HFI.out W6 hb6 qb cqb cb ccb s.ctx.length s.arr hq6 HL3.out.2.2
    rw [HNF.out] at hfit
    have HFIT := Lib.hid hfit
    have H6 := Lib.hid (And.intro hb6 (And.intro kc6 (And.intro km6 (And.intro hg6 (And.intro hx6 (And.intro kr6 hr6))))))
    clear hb6 kc6 km6 hg6 hx6 kr6 hr6 hq6 hfit
    go_wp2_with fail
    refine HFIT.out.mono ?_
    rintro e W7 ⟨rfl, hb7⟩
    obtain ⟨hb6, kc6, km6, hg6, hx6, kr6, hr6⟩ := H6.out
    have kc7 := kc6.below hb7 kc6.lt
    have km7 := km6.below hb7 km6.lt
    have kr7 := kr6.below hb7 kr6.lt
    have a0 : W7.cell? ⟨w.heap.size, 0, none⟩ = some (.slice arsA ars.length arsC) := kc7.cell 0
    have a1 : W7.cell? ⟨w.heap.size, 0 + 1, none⟩ = some (.int .i64 regs) := kc7.cell 1
    have a2 : W7.cell? ⟨w.heap.size, 0 + 1 + 1, none⟩ = some (.int .i64 spills) := kc7.cell 2
    have a3 : W7.cell? ⟨w.heap.size, 0 + 1 + 1 + 1, none⟩ = some (.slice codeA cd.length codeC) := kc7.cell 3
    have m0 : W7.cell? ⟨Y1.heap.size, 0, none⟩ = some (.slice qa ms.length cq) := km7.cell 0
    have m1 : W7.cell? ⟨Y1.heap.size, 0 + 1, none⟩ = some (.slice ca cx.length cc) := km7.cell 1
    have r3 : W7.cell? ⟨W5.heap.size, 3, none⟩ = some (.int .i64 s.steps) := kr7.cell 3
    have H7 := Lib.hid (And.intro (hb6.trans (hb7.mono hb6.size)) (And.intro kc7 (And.intro km7 (And.intro (hg6.below hb7) (And.intro ((hx6.below hb7).mono hb7.size) (And.intro kr7 (hr6.below hb7)))))))
    clear hb6 kc6 km6 hg6 hx6 kr6 hr6 hb7 kc7 km7 kr7 H6 HFIT HFI r0 r1 p1 p2
    go_wp2_with fail
    refine (HRU.out W7 H7.out.1 qa cq ca cc _ H7.out.2.2.2.1 H7.out.2.2.2.2.1).mono ?_
    rintro e W8 ⟨hb8, hst⟩
    rw [HN6.out] at hst
    obtain ⟨v, rfl, hv⟩ := hst
    obtain ⟨qd, cqd, cd2, ccd, od, ocd, rfl, hgd, hxd, hod⟩ := (hv W8 (fun _ _ => rfl) rfl).res
    have hres2 : ResAt W8 s.arr s.ctx s.out s.steps (.agg #[.slice qd s.arr.length cqd, .slice cd2 s.ctx.length ccd, .slice od s.out.length ocd, .int .i64 s.steps]) := ⟨qd, cqd, cd2, ccd, od, ocd, rfl, hgd, hxd, hod⟩
    obtain ⟨hb7, kc7, km7, hg7, hx7, kr7, hr7⟩ := H7.out
    have hl8 : W5.heap.size < W8.heap.size := Nat.lt_of_lt_of_le kr7.lt hb8.size
    have H8 := Lib.hid (And.intro (hb7.trans (hb8.mono hb7.size)) (And.intro (kc7.below hb8 kc7.lt) (And.intro (km7.below hb8 km7.lt) (And.intro (hg7.below hb8) (And.intro ((hx7.below hb8).mono hb8.size) (And.intro (kr7.below hb8 kr7.lt) (And.intro (hr7.below hb8) hres2)))))))
    clear hb7 kc7 km7 hg7 hx7 kr7 hr7 hb8 hv hgd hxd hod hres2 H7 a0 a1 a2 a3 m0 m1 r3 HN6
    go_upto_region 18 with (fail)
    refine wp_gen (fun W => Below w.heap.size w W ∧ Blk W w.heap.size [.slice arsA ars.length arsC, .int .i64 regs, .int .i64 spills, .slice codeA cd.length codeC] 25 ∧ Blk W Y1.heap.size [.slice qa ms.length cq, .slice ca cx.length cc] 31 ∧ GridR W qa ms ∧ (RowB W.heap.size W 1 ca cx.length fun j _ => .int .u32 (cx.getD j 0)) ∧
        Blk W W5.heap.size [.slice qb s.arr.length cqb, .slice cb s.ctx.length ccb, .slice ob s.out.length ocb, .int .i64 s.steps] 49 ∧ ResAt W s.arr s.ctx s.out s.steps (.agg #[.slice qb s.arr.length cqb, .slice cb s.ctx.length ccb, .slice ob s.out.length ocb, .int .i64 s.steps]) ∧
        Blk W W8.heap.size [.slice qd s.arr.length cqd, .slice cd2 s.ctx.length ccd, .slice od s.out.length ocd, .int .i64 s.steps] 49 ∧ ResAt W s.arr s.ctx s.out s.steps (.agg #[.slice qd s.arr.length cqd, .slice cd2 s.ctx.length ccd, .slice od s.out.length ocd, .int .i64 s.steps])) ?_ ?_
    · have hbb : Below W8.heap.size W8 (W8.alloc (.cells #[.slice qd s.arr.length cqd, .slice cd2 s.ctx.length ccd, .slice od s.out.length ocd, .int .i64 s.steps] 49)) := (Below.refl _ _).alloc (Nat.le_refl _) _
      obtain ⟨hb5, kc5, km5, hg5, hx5, kr5, hr5, hq5⟩ := H8.out
      exact ⟨hb5.trans (hbb.mono hb5.size), kc5.below hbb kc5.lt, km5.below hbb km5.lt, hg5.below hbb, (hx5.below hbb).mono hbb.size, kr5.below hbb kr5.lt, hr5.below hbb, heap_new1 _ _, hq5.below hbb⟩
    clear H8
    rintro W9 ⟨hb9, kc9, km9, hg9, hx9, kr9, hr9, ks9, hs9⟩
    have r0 : W9.cell? ⟨W5.heap.size, 0, none⟩ = some (.slice qb s.arr.length cqb) := kr9.cell 0
    have r1 : W9.cell? ⟨W5.heap.size, 0 + 1, none⟩ = some (.slice cb s.ctx.length ccb) := kr9.cell 1
    have r2 : W9.cell? ⟨W5.heap.size, 0 + 1 + 1, none⟩ = some (.slice ob s.out.length ocb) := kr9.cell 2
    have r3 : W9.cell? ⟨W5.heap.size, 0 + 1 + 1 + 1, none⟩ = some (.int .i64 s.steps) := kr9.cell 3
    have s0 : W9.cell? ⟨W8.heap.size, 0, none⟩ = some (.slice qd s.arr.length cqd) := ks9.cell 0
    have s1 : W9.cell? ⟨W8.heap.size, 0 + 1, none⟩ = some (.slice cd2 s.ctx.length ccd) := ks9.cell 1
    have s2 : W9.cell? ⟨W8.heap.size, 0 + 1 + 1, none⟩ = some (.slice od s.out.length ocd) := ks9.cell 2
    have s3 : W9.cell? ⟨W8.heap.size, 0 + 1 + 1 + 1, none⟩ = some (.int .i64 s.steps) := ks9.cell 3
    have HSA := Lib.hid (same_run _ _ s.steps s.arr s.ctx s.out W9 hr9 hs9 (by have := HL3.out.1; omega) (by have := HL3.out.2.1; omega) (fun a ha => by have := HL3.out.2.2 a ha; omega))
    have H9 := Lib.hid (And.intro hb9 (And.intro kc9 (And.intro km9 (And.intro hg9 (And.intro hx9 kr9)))))
    clear hb9 kc9 km9 hg9 hx9 kr9 hr9 ks9 hs9
    go_wp2_with fail
    refine HSA.out.mono ?_
    rintro e WA ⟨rfl, hbA⟩
    obtain ⟨hb9, kc9, km9, hg9, hx9, kr9⟩ := H9.out
    have kcA := kc9.below hbA kc9.lt
    have kmA := km9.below hbA km9.lt
    have krA := kr9.below hbA kr9.lt
    have a0 : WA.cell? ⟨w.heap.size, 0, none⟩ = some (.slice arsA ars.length arsC) := kcA.cell 0
    have a1 : WA.cell? ⟨w.heap.size, 0 + 1, none⟩ = some (.int .i64 regs) := kcA.cell 1
    have a2 : WA.cell? ⟨w.heap.size, 0 + 1 + 1, none⟩ = some (.int .i64 spills) := kcA.cell 2
    have a3 : WA.cell? ⟨w.heap.size, 0 + 1 + 1 + 1, none⟩ = some (.slice codeA cd.length codeC) := kcA.cell 3
    have m0 : WA.cell? ⟨Y1.heap.size, 0, none⟩ = some (.slice qa ms.length cq) := kmA.cell 0
    have m1 : WA.cell? ⟨Y1.heap.size, 0 + 1, none⟩ = some (.slice ca cx.length cc) := kmA.cell 1
    have r3 : WA.cell? ⟨W5.heap.size, 3, none⟩ = some (.int .i64 s.steps) := krA.cell 3
    have HA := Lib.hid (And.intro (hb9.trans (hbA.mono hb9.size)) (And.intro (hg9.below hbA) ((hx9.below hbA).mono hbA.size)))
    clear hb9 kc9 km9 hg9 hx9 kr9 hbA kcA kmA krA H9 HSA r0 r1 r2 s0 s1 s2 s3
    by_cases h0 : s.steps = 0
    · have p3 : (s.steps == 0) = true := by simpa using h0
      clear h0 a0 a1 a2 a3 m0 m1 HN7
      go_wp2_with fail
      refine (awake_true WA).mono ?_
      rintro e WB ⟨rfl, hbB⟩
      have HB := Lib.hid (HA.out.1.trans (hbB.mono HA.out.1.size))
      clear hbB
      go_wp2
      go_ret
      exact ⟨rfl, HB.out⟩
    · have p3 : (s.steps == 0) = false := by simpa using h0
      have hpos : 0 < s.steps := by omega
      have HN := Lib.hid (HN7.out hpos)
      clear h0 HN7
      go_wp2_with fail
      refine (HRU.out WA HA.out.1 qa cq ca cc _ HA.out.2.1 HA.out.2.2).mono ?_
      rintro e WB ⟨hbB, hst⟩
      rw [HN.out] at hst
      replace hst : e = .returned (.tuple #[.agg #[.slice none 0 0, .slice none 0 0, .slice none 0 0, .int .i64 0], .int .i64 19]) := hst
      subst hst
      have HB := Lib.hid (HA.out.1.trans (hbB.mono HA.out.1.size))
      clear hbB a0 a1 a2 a3 m0 m1 r3
      go_upto_region 23 with (fail)
      refine wp_gen (fun W => Below w.heap.size w W) (HB.out.alloc HB.out.size _) ?_
      intro WC hbC
      have HC := Lib.hid hbC
      clear hbC HB
      go_wp2_with fail
      refine (awake_true WC).mono ?_
      rintro e WD ⟨rfl, hbD⟩
      have HD := Lib.hid (HC.out.trans (hbD.mono HC.out.size))
      clear hbD
      go_wp2
      go_ret
      exact ⟨rfl, HD.out⟩
set_option maxRecDepth 100000 in
set_option maxHeartbeats 1000000 in
theorem needs_c (arsA codeA : Option Addr) (arsC codeC : Nat) (ars : List Ar) (regs spills : Int) (cd : List RI) (input : Int) (ended : Bool) (t : T) (w : World)
    (hA : RowB w.heap.size w 2 arsA ars.length fun i j => (ars.getD i default).cell j) (hC : RowB w.heap.size w 5 codeA cd.length fun i j => (cd.getD i default).cell j) (ok : CodeOk ars regs spills cd) (hi : u32 input)
    (hfew : fewB ars cd = true) (hchk : (chkCode ars regs spills cd).2 = 0) (ht : cd = t.flat ∧ t.wf false 8) (b er : Int) (hbe : boundRes (chkCode ars regs spills cd).2 (t.bd 0) = (b, er)) (q1 : (er == 0) = true) (q2 : decide (b < 4000) = true) (hb0 : 0 ≤ b)
    (h19 : machRun ars regs spills cd (zeros ars) (List.replicate 16 0) input ended b = .error 19 → b = (4000 : Int)) :
    Calls Try.prog 5 #[.agg #[.slice arsA ars.length arsC, .int .i64 regs, .int .i64 spills, .slice codeA cd.length codeC], .int .u32 input, .bool ended] w fun e w' => e = .returned (.bool true) ∧ Below w.heap.size w w' := by
  have hW : Below w.heap.size w (w.alloc (.cells #[.slice arsA ars.length arsC, .int .i64 regs, .int .i64 spills, .slice codeA cd.length codeC] 25)) := (Below.refl _ _).alloc (Nat.le_refl _) _
  have hF := few_any arsA codeA arsC codeC regs spills ars cd _ ((hA.below hW).mono hW.size)
  rw [hfew] at hF
  have HF := Lib.hid hF
  have HW := Lib.hid hW
  have G := chk_good hchk
  obtain ⟨ms, hms⟩ : ∃ ms, zeros ars = ms := ⟨_, rfl⟩
  obtain ⟨cx, hcx⟩ : ∃ cx : List Int, List.replicate 16 0 = cx := ⟨_, rfl⟩
  have hzf := zeros_fit G.hars
  have hzu := zeros_u32 ars
  have hzl := zeros_len G.hars
  have hcu := u32s_rep 16
  have hcl : (List.replicate 16 (0 : Int)).length = 16 := List.length_replicate
  have HST := Lib.hid (fun W (hb : Below w.heap.size w W) => Start_any arsA codeA arsC codeC ars regs spills cd W ((hA.below hb).mono hb.size) ((hC.below hb).mono hb.size) ok.la ok.lc ok.arg)
  have HBO := Lib.hid (fun W (hb : Below w.heap.size w W) => Bound_any arsA codeA arsC codeC ars regs spills cd t W ((hA.below hb).mono hb.size) ((hC.below hb).mono hb.size) ok.la ok.lc ok.arg (fun _ => ht))
  unfold StartPost at HST
  rw [hms, hcx] at HST h19
  rw [hcx] at hcu
  rw [hms] at hzf hzu hzl
  rw [hcx] at hcl
  rw [hbe] at HBO
  dsimp only at HBO
  rw [← hcl] at hzf
  have hAl : ars.length ≤ 9223372036854775806 := by have := G.hnA; omega
  have HFI := Lib.hid (fun W (hb : Below w.heap.size w W) qa cq ca cc n arr (hg : GridR W qa arr) (hl : ∀ a ∈ arr, a.length ≤ 65536) => fitsR arsA qa ca arsC cq cc n ars arr W ((hA.below hb).mono hb.size) hg hAl (fun a ha => by have := hl a ha; omega))
  have HRU := Lib.hid (fun W (hb : Below w.heap.size w W) qa cq ca cc F (hg : GridR W qa ms) (hx : RowB W.heap.size W 1 ca cx.length fun j _ => .int .u32 (cx.getD j 0)) =>
    Run_is arsA codeA qa ca arsC codeC cq cc ars regs spills cd ms cx input ended F W ((hA.below hb).mono hb.size) ((hC.below hb).mono hb.size) hg hx hAl ok.lc ok.arg (fun a ha => by have := hzl a ha; omega) hzu hcu hi)
  have HFU := Lib.hid (fun (s : PS) F (h : machRun ars regs spills cd ms cx input ended F = .ok s) => mach_fuel ok.arg hzu hcu hi h)
  have HSM := Lib.hid G.hars
  have HCK := Lib.hid hchk
  have H19 := Lib.hid h19
  clear hW hF hA hC ok hi hfew ht hbe G hms hcx hzf hzu hzl hcu hcl hchk h19
  go_enter Try.func5, Try.ntmps5
  go_wp2_with fail
  refine HF.out.mono ?_
  rintro e W2 ⟨rfl, hb2⟩
  have kc2 : Blk W2 w.heap.size [.slice arsA ars.length arsC, .int .i64 regs, .int .i64 spills, .slice codeA cd.length codeC] 25 := (show Blk (w.alloc _) w.heap.size _ _ from heap_new1 _ _).below hb2 (by simp)
  have H2 := Lib.hid (HW.out.trans (hb2.mono HW.out.size))
  have K2 := Lib.hid kc2
  have a0 : W2.cell? ⟨w.heap.size, 0, none⟩ = some (.slice arsA ars.length arsC) := kc2.cell 0
  have a1 : W2.cell? ⟨w.heap.size, 0 + 1, none⟩ = some (.int .i64 regs) := kc2.cell 1
  have a2 : W2.cell? ⟨w.heap.size, 0 + 1 + 1, none⟩ = some (.int .i64 spills) := kc2.cell 2
  have a3 : W2.cell? ⟨w.heap.size, 0 + 1 + 1 + 1, none⟩ = some (.slice codeA cd.length codeC) := kc2.cell 3
  clear hb2 HF kc2 HW
  go_wp2_with fail
  refine (HST.out W2 H2.out).mono ?_
  rintro e Y1 ⟨hbY, hst⟩
  rw [if_pos HCK.out] at hst
  obtain ⟨v, rfl, hmv⟩ := hst
  obtain ⟨qa, cq, ca, cc, rfl, hg, hx⟩ := hmv Y1 (fun _ _ => rfl)
  have H3 := Lib.hid (And.intro (H2.out.trans (hbY.mono H2.out.size)) (And.intro (K2.out.below hbY K2.out.lt) (And.intro hg.toR hx.row)))
  have hlt : w.heap.size < Y1.heap.size := Nat.lt_of_lt_of_le K2.out.lt hbY.size
  clear hbY hg hx a0 a1 a2 a3 hmv K2 H2 HST
  go_upto_region 7 with (fail)
  refine wp_gen (fun W => Below w.heap.size w W ∧ Blk W w.heap.size [.slice arsA ars.length arsC, .int .i64 regs, .int .i64 spills, .slice codeA cd.length codeC] 25 ∧ Blk W Y1.heap.size [.slice qa ms.length cq, .slice ca cx.length cc] 31 ∧ GridR W qa ms ∧ (RowB W.heap.size W 1 ca cx.length fun j _ => .int .u32 (cx.getD j 0))) ?_ ?_
  · have hbb : Below Y1.heap.size Y1 (Y1.alloc (.cells #[.slice qa ms.length cq, .slice ca cx.length cc] 31)) := (Below.refl _ _).alloc (Nat.le_refl _) _
    exact ⟨H3.out.1.trans (hbb.mono H3.out.1.size), H3.out.2.1.below hbb hlt, heap_new1 _ _, H3.out.2.2.1.below hbb, (H3.out.2.2.2.below hbb).mono hbb.size⟩
  clear H3
  rintro W3 ⟨hb3, kc3, km3, hg3, hx3⟩
  have a0 : W3.cell? ⟨w.heap.size, 0, none⟩ = some (.slice arsA ars.length arsC) := kc3.cell 0
  have a1 : W3.cell? ⟨w.heap.size, 0 + 1, none⟩ = some (.int .i64 regs) := kc3.cell 1
  have a2 : W3.cell? ⟨w.heap.size, 0 + 1 + 1, none⟩ = some (.int .i64 spills) := kc3.cell 2
  have a3 : W3.cell? ⟨w.heap.size, 0 + 1 + 1 + 1, none⟩ = some (.slice codeA cd.length codeC) := kc3.cell 3
  have H3 := Lib.hid (And.intro hb3 (And.intro kc3 (And.intro km3 (And.intro hg3 hx3))))
  clear hb3 kc3 km3 hg3 hx3
  go_wp2_with fail
  refine (HBO.out W3 H3.out.1).mono ?_
  rintro e W4 ⟨rfl, hb4⟩
  dsimp only
  obtain ⟨hb3, kc3, km3, hg3, hx3⟩ := H3.out
  have kc4 := kc3.below hb4 kc3.lt
  have km4 := km3.below hb4 km3.lt
  have a0 : W4.cell? ⟨w.heap.size, 0, none⟩ = some (.slice arsA ars.length arsC) := kc4.cell 0
  have a1 : W4.cell? ⟨w.heap.size, 0 + 1, none⟩ = some (.int .i64 regs) := kc4.cell 1
  have a2 : W4.cell? ⟨w.heap.size, 0 + 1 + 1, none⟩ = some (.int .i64 spills) := kc4.cell 2
  have a3 : W4.cell? ⟨w.heap.size, 0 + 1 + 1 + 1, none⟩ = some (.slice codeA cd.length codeC) := kc4.cell 3
  have m0 : W4.cell? ⟨Y1.heap.size, 0, none⟩ = some (.slice qa ms.length cq) := km4.cell 0
  have m1 : W4.cell? ⟨Y1.heap.size, 0 + 1, none⟩ = some (.slice ca cx.length cc) := km4.cell 1
  have hb4' := hb3.trans (hb4.mono hb3.size)
  have H4 := Lib.hid (And.intro hb4' (And.intro kc4 (And.intro km4 (And.intro (hg3.below hb4) ((hx3.below hb4).mono hb4.size)))))
  clear hb3 kc3 km3 hg3 hx3 kc4 km4 hb4 hb4' H3 HBO
  go_wp2_with fail
  refine (HRU.out W4 H4.out.1 qa cq ca cc _ H4.out.2.2.2.1 H4.out.2.2.2.2).mono ?_
  rintro e W5 ⟨hb5, hst⟩
  obtain ⟨hb4, kc4, km4, hg4, hx4⟩ := H4.out
  have H5 := Lib.hid (And.intro (hb4.trans (hb5.mono hb4.size)) (And.intro (kc4.below hb5 kc4.lt) (And.intro (km4.below hb5 km4.lt) (And.intro (hg4.below hb5) ((hx4.below hb5).mono hb5.size)))))
  clear hb4 kc4 km4 hg4 hx4 H4 a0 a1 a2 a3 m0 m1
  cases hr : machRun ars regs spills cd ms cx input ended b with
  | error n =>
    rw [hr] at hst
    replace hst : e = .returned (.tuple #[.agg #[.slice none 0 0, .slice none 0 0, .slice none 0 0, .int .i64 0], .int .i64 n]) := hst
    subst hst
    have hn0 := NeedsErr hr
    by_cases hn : n = 19
    · subst hn
      have hd : ((b : Int) == 4000) = true := by first | rfl | exact beq_iff_eq.2 (H19.out hr)
      have HB5 := Lib.hid hb5
      clear hr hn0 hb5
      go_upto_region 12 with (fail)
      refine wp_gen (fun W => Below w.heap.size w W) (H5.out.1.alloc H5.out.1.size _) ?_
      intro W6 hb6
      have H6 := Lib.hid hb6
      clear hb6 H5
      go_wp2_with fail
      refine (awake_true W6).mono ?_
      rintro e W7 ⟨rfl, hb7⟩
      have H7 := Lib.hid (H6.out.trans (hb7.mono H6.out.size))
      clear hb7
      go_wp2
      go_ret
      exact ⟨rfl, H7.out⟩
    · have hd : (n == 19) = false := by simpa using hn
      have hd2 : (n != 0) = true := by simpa using hn0
      clear hr hn0 hb5 hn
      go_upto_region 14 with (fail)
      refine wp_gen (fun W => Below w.heap.size w W) (H5.out.1.alloc H5.out.1.size _) ?_
      intro W6 hb6
      have H6 := Lib.hid hb6
      clear hb6 H5
      go_wp2_with fail
      refine (awake_true W6).mono ?_
      rintro e W7 ⟨rfl, hb7⟩
      have H7 := Lib.hid (H6.out.trans (hb7.mono H6.out.size))
      clear hb7
      go_wp2
      go_ret
      exact ⟨rfl, H7.out⟩
  | ok s =>
    rw [hr] at hst
    obtain ⟨v, rfl, hv⟩ := hst
    obtain ⟨qb, cqb, cb, ccb, ob, ocb, rfl, hgb, hxb, hob⟩ := (hv W5 (fun _ _ => rfl) rfl).res
    have hres : ResAt W5 s.arr s.ctx s.out s.steps (.agg #[.slice qb s.arr.length cqb, .slice cb s.ctx.length ccb, .slice ob s.out.length ocb, .int .i64 s.steps]) := ⟨qb, cqb, cb, ccb, ob, ocb, rfl, hgb, hxb, hob⟩
    obtain ⟨n1, n2, n3, n4, n5, n6, n7⟩ := HFU.out s _ hr
    obtain ⟨l1, l2, l3⟩ := fits_small n3 HSM.out
    have HRES := Lib.hid (And.intro hres (And.intro hgb hxb))
    have HNF := Lib.hid n3
    have HN6 := Lib.hid n6
    have HN7 := Lib.hid n7
    have HL3 := Lib.hid (And.intro l1 (And.intro l2 l3))
    have p1 : decide (s.steps < 0) = false := by simp; omega
    have p2 : decide (b < s.steps) = false := by simp; omega
    have n8 : s.steps ≤ 4000 := by
      first
        | omega
        | (have : b < 4000 := by simpa using q2
           omega)
    have hl5 : Y1.heap.size < W5.heap.size := H5.out.2.2.1.lt
    clear hb5 hv hgb hxb hob hres n2 n3 n4 n5 n6 n7 l1 l2 l3 hr H19 HSM HFU
    go_upto_region 15 with (fail)
    refine wp_gen (fun W => Below w.heap.size w W ∧ Blk W w.heap.size [.slice arsA ars.length arsC, .int .i64 regs, .int .i64 spills, .slice codeA cd.length codeC] 25 ∧ Blk W Y1.heap.size [.slice qa ms.length cq, .slice ca cx.length cc] 31 ∧ GridR W qa ms ∧ (RowB W.heap.size W 1 ca cx.length fun j _ => .int .u32 (cx.getD j 0)) ∧
        Blk W W5.heap.size [.slice qb s.arr.length cqb, .slice cb s.ctx.length ccb, .slice ob s.out.length ocb, .int .i64 s.steps] 49 ∧ ResAt W s.arr s.ctx s.out s.steps (.agg #[.slice qb s.arr.length cqb, .slice cb s.ctx.length ccb, .slice ob s.out.length ocb, .int .i64 s.steps]) ∧ GridR W qb s.arr) ?_ ?_
    · have hbb : Below W5.heap.size W5 (W5.alloc (.cells #[.slice qb s.arr.length cqb, .slice cb s.ctx.length ccb, .slice ob s.out.length ocb, .int .i64 s.steps] 49)) := (Below.refl _ _).alloc (Nat.le_refl _) _
      obtain ⟨hb5, kc5, km5, hg5, hx5⟩ := H5.out
      exact ⟨hb5.trans (hbb.mono hb5.size), kc5.below hbb kc5.lt, km5.below hbb km5.lt, hg5.below hbb, (hx5.below hbb).mono hbb.size, heap_new1 _ _, HRES.out.1.below hbb, HRES.out.2.1.below hbb⟩
    clear H5 HRES
    rintro W6 ⟨hb6, kc6, km6, hg6, hx6, kr6, hr6, hq6⟩
    have a0 : W6.cell? ⟨w.heap.size, 0, none⟩ = some (.slice arsA ars.length arsC) := kc6.cell 0
    have r0 : W6.cell? ⟨W5.heap.size, 0, none⟩ = some (.slice qb s.arr.length cqb) := kr6.cell 0
    have r1 : W6.cell? ⟨W5.heap.size, 0 + 1, none⟩ = some (.slice cb s.ctx.length ccb) := kr6.cell 1
    have r3 : W6.cell? ⟨W5.heap.size, 3, none⟩ = some (.int .i64 s.steps) := kr6.cell 3
    have hfit := HFI.out W6 hb6 qb cqb cb ccb s.ctx.length s.arr hq6 HL3.out.2.2
    rw [HNF.out] at hfit
    have HFIT := Lib.hid hfit
    have H6 := Lib.hid (And.intro hb6 (And.intro kc6 (And.intro km6 (And.intro hg6 (And.intro hx6 (And.intro kr6 hr6))))))
    clear hb6 kc6 km6 hg6 hx6 kr6 hr6 hq6 hfit
    go_wp2_with fail
    refine HFIT.out.mono ?_
    rintro e W7 ⟨rfl, hb7⟩
    obtain ⟨hb6, kc6, km6, hg6, hx6, kr6, hr6⟩ := H6.out
    have kc7 := kc6.below hb7 kc6.lt
    have km7 := km6.below hb7 km6.lt
    have kr7 := kr6.below hb7 kr6.lt
    have a0 : W7.cell? ⟨w.heap.size, 0, none⟩ = some (.slice arsA ars.length arsC) := kc7.cell 0
    have a1 : W7.cell? ⟨w.heap.size, 0 + 1, none⟩ = some (.int .i64 regs) := kc7.cell 1
    have a2 : W7.cell? ⟨w.heap.size, 0 + 1 + 1, none⟩ = some (.int .i64 spills) := kc7.cell 2
    have a3 : W7.cell? ⟨w.heap.size, 0 + 1 + 1 + 1, none⟩ = some (.slice codeA cd.length codeC) := kc7.cell 3
    have m0 : W7.cell? ⟨Y1.heap.size, 0, none⟩ = some (.slice qa ms.length cq) := km7.cell 0
    have m1 : W7.cell? ⟨Y1.heap.size, 0 + 1, none⟩ = some (.slice ca cx.length cc) := km7.cell 1
    have r3 : W7.cell? ⟨W5.heap.size, 3, none⟩ = some (.int .i64 s.steps) := kr7.cell 3
    have H7 := Lib.hid (And.intro (hb6.trans (hb7.mono hb6.size)) (And.intro kc7 (And.intro km7 (And.intro (hg6.below hb7) (And.intro ((hx6.below hb7).mono hb7.size) (And.intro kr7 (hr6.below hb7)))))))
    clear hb6 kc6 km6 hg6 hx6 kr6 hr6 hb7 kc7 km7 kr7 H6 HFIT HFI r0 r1 p1 p2
    go_wp2_with fail
    refine (HRU.out W7 H7.out.1 qa cq ca cc _ H7.out.2.2.2.1 H7.out.2.2.2.2.1).mono ?_
    rintro e W8 ⟨hb8, hst⟩
    rw [HN6.out] at hst
    obtain ⟨v, rfl, hv⟩ := hst
    obtain ⟨qd, cqd, cd2, ccd, od, ocd, rfl, hgd, hxd, hod⟩ := (hv W8 (fun _ _ => rfl) rfl).res
    have hres2 : ResAt W8 s.arr s.ctx s.out s.steps (.agg #[.slice qd s.arr.length cqd, .slice cd2 s.ctx.length ccd, .slice od s.out.length ocd, .int .i64 s.steps]) := ⟨qd, cqd, cd2, ccd, od, ocd, rfl, hgd, hxd, hod⟩
    obtain ⟨hb7, kc7, km7, hg7, hx7, kr7, hr7⟩ := H7.out
    have hl8 : W5.heap.size < W8.heap.size := Nat.lt_of_lt_of_le kr7.lt hb8.size
    have H8 := Lib.hid (And.intro (hb7.trans (hb8.mono hb7.size)) (And.intro (kc7.below hb8 kc7.lt) (And.intro (km7.below hb8 km7.lt) (And.intro (hg7.below hb8) (And.intro ((hx7.below hb8).mono hb8.size) (And.intro (kr7.below hb8 kr7.lt) (And.intro (hr7.below hb8) hres2)))))))
    clear hb7 kc7 km7 hg7 hx7 kr7 hr7 hb8 hv hgd hxd hod hres2 H7 a0 a1 a2 a3 m0 m1 r3 HN6
    go_upto_region 18 with (fail)
    refine wp_gen (fun W => Below w.heap.size w W ∧ Blk W w.heap.size [.slice arsA ars.length arsC, .int .i64 regs, .int .i64 spills, .slice codeA cd.length codeC] 25 ∧ Blk W Y1.heap.size [.slice qa ms.length cq, .slice ca cx.length cc] 31 ∧ GridR W qa ms ∧ (RowB W.heap.size W 1 ca cx.length fun j _ => .int .u32 (cx.getD j 0)) ∧
        Blk W W5.heap.size [.slice qb s.arr.length cqb, .slice cb s.ctx.length ccb, .slice ob s.out.length ocb, .int .i64 s.steps] 49 ∧ ResAt W s.arr s.ctx s.out s.steps (.agg #[.slice qb s.arr.length cqb, .slice cb s.ctx.length ccb, .slice ob s.out.length ocb, .int .i64 s.steps]) ∧
        Blk W W8.heap.size [.slice qd s.arr.length cqd, .slice cd2 s.ctx.length ccd, .slice od s.out.length ocd, .int .i64 s.steps] 49 ∧ ResAt W s.arr s.ctx s.out s.steps (.agg #[.slice qd s.arr.length cqd, .slice cd2 s.ctx.length ccd, .slice od s.out.length ocd, .int .i64 s.steps])) ?_ ?_
    · have hbb : Below W8.heap.size W8 (W8.alloc (.cells #[.slice qd s.arr.length cqd, .slice cd2 s.ctx.length ccd, .slice od s.out.length ocd, .int .i64 s.steps] 49)) := (Below.refl _ _).alloc (Nat.le_refl _) _
      obtain ⟨hb5, kc5, km5, hg5, hx5, kr5, hr5, hq5⟩ := H8.out
      exact ⟨hb5.trans (hbb.mono hb5.size), kc5.below hbb kc5.lt, km5.below hbb km5.lt, hg5.below hbb, (hx5.below hbb).mono hbb.size, kr5.below hbb kr5.lt, hr5.below hbb, heap_new1 _ _, hq5.below hbb⟩
    clear H8
    rintro W9 ⟨hb9, kc9, km9, hg9, hx9, kr9, hr9, ks9, hs9⟩
    have r0 : W9.cell? ⟨W5.heap.size, 0, none⟩ = some (.slice qb s.arr.length cqb) := kr9.cell 0
    have r1 : W9.cell? ⟨W5.heap.size, 0 + 1, none⟩ = some (.slice cb s.ctx.length ccb) := kr9.cell 1
    have r2 : W9.cell? ⟨W5.heap.size, 0 + 1 + 1, none⟩ = some (.slice ob s.out.length ocb) := kr9.cell 2
    have r3 : W9.cell? ⟨W5.heap.size, 0 + 1 + 1 + 1, none⟩ = some (.int .i64 s.steps) := kr9.cell 3
    have s0 : W9.cell? ⟨W8.heap.size, 0, none⟩ = some (.slice qd s.arr.length cqd) := ks9.cell 0
    have s1 : W9.cell? ⟨W8.heap.size, 0 + 1, none⟩ = some (.slice cd2 s.ctx.length ccd) := ks9.cell 1
    have s2 : W9.cell? ⟨W8.heap.size, 0 + 1 + 1, none⟩ = some (.slice od s.out.length ocd) := ks9.cell 2
    have s3 : W9.cell? ⟨W8.heap.size, 0 + 1 + 1 + 1, none⟩ = some (.int .i64 s.steps) := ks9.cell 3
    have HSA := Lib.hid (same_run _ _ s.steps s.arr s.ctx s.out W9 hr9 hs9 (by have := HL3.out.1; omega) (by have := HL3.out.2.1; omega) (fun a ha => by have := HL3.out.2.2 a ha; omega))
    have H9 := Lib.hid (And.intro hb9 (And.intro kc9 (And.intro km9 (And.intro hg9 (And.intro hx9 kr9)))))
    clear hb9 kc9 km9 hg9 hx9 kr9 hr9 ks9 hs9
    go_wp2_with fail
    refine HSA.out.mono ?_
    rintro e WA ⟨rfl, hbA⟩
    obtain ⟨hb9, kc9, km9, hg9, hx9, kr9⟩ := H9.out
    have kcA := kc9.below hbA kc9.lt
    have kmA := km9.below hbA km9.lt
    have krA := kr9.below hbA kr9.lt
    have a0 : WA.cell? ⟨w.heap.size, 0, none⟩ = some (.slice arsA ars.length arsC) := kcA.cell 0
    have a1 : WA.cell? ⟨w.heap.size, 0 + 1, none⟩ = some (.int .i64 regs) := kcA.cell 1
    have a2 : WA.cell? ⟨w.heap.size, 0 + 1 + 1, none⟩ = some (.int .i64 spills) := kcA.cell 2
    have a3 : WA.cell? ⟨w.heap.size, 0 + 1 + 1 + 1, none⟩ = some (.slice codeA cd.length codeC) := kcA.cell 3
    have m0 : WA.cell? ⟨Y1.heap.size, 0, none⟩ = some (.slice qa ms.length cq) := kmA.cell 0
    have m1 : WA.cell? ⟨Y1.heap.size, 0 + 1, none⟩ = some (.slice ca cx.length cc) := kmA.cell 1
    have r3 : WA.cell? ⟨W5.heap.size, 3, none⟩ = some (.int .i64 s.steps) := krA.cell 3
    have HA := Lib.hid (And.intro (hb9.trans (hbA.mono hb9.size)) (And.intro (hg9.below hbA) ((hx9.below hbA).mono hbA.size)))
    clear hb9 kc9 km9 hg9 hx9 kr9 hbA kcA kmA krA H9 HSA r0 r1 r2 s0 s1 s2 s3
    by_cases h0 : s.steps = 0
    · have p3 : (s.steps == 0) = true := by simpa using h0
      clear h0 a0 a1 a2 a3 m0 m1 HN7
      go_wp2_with fail
      refine (awake_true WA).mono ?_
      rintro e WB ⟨rfl, hbB⟩
      have HB := Lib.hid (HA.out.1.trans (hbB.mono HA.out.1.size))
      clear hbB
      go_wp2
      go_ret
      exact ⟨rfl, HB.out⟩
    · have p3 : (s.steps == 0) = false := by simpa using h0
      have hpos : 0 < s.steps := by omega
      have HN := Lib.hid (HN7.out hpos)
      clear h0 HN7
      go_wp2_with fail
      refine (HRU.out WA HA.out.1 qa cq ca cc _ HA.out.2.1 HA.out.2.2).mono ?_
      rintro e WB ⟨hbB, hst⟩
      rw [HN.out] at hst
      replace hst : e = .returned (.tuple #[.agg #[.slice none 0 0, .slice none 0 0, .slice none 0 0, .int .i64 0], .int .i64 19]) := hst
      subst hst
      have HB := Lib.hid (HA.out.1.trans (hbB.mono HA.out.1.size))
      clear hbB a0 a1 a2 a3 m0 m1 r3
      go_upto_region 23 with (fail)
      refine wp_gen (fun W => Below w.heap.size w W) (HB.out.alloc HB.out.size _) ?_
      intro WC hbC
      have HC := Lib.hid hbC
      clear hbC HB
      go_wp2_with fail
      refine (awake_true WC).mono ?_
      rintro e WD ⟨rfl, hbD⟩
      have HD := Lib.hid (HC.out.trans (hbD.mono HC.out.size))
      clear hbD
      go_wp2
      go_ret
      exact ⟨rfl, HD.out⟩
end Go.Proofs.Ytefdnjhhaejgbaa

namespace Go.Proofs.Ytefdnjhhaejgbaa
open Go.RowKit
set_option linter.unusedVariables false

theorem needs_walk (ars : List Ar) (regs spills : Int) (cd : List RI) (input : Int) (ended : Bool) (v : Value) (w : World) (hc : CodeAt w ars regs spills cd v) (ok : CodeOk ars regs spills cd) (hi : u32 input) :
    Calls Try.prog 5 #[v, .int .u32 input, .bool ended] w fun e w' => e = .returned (.bool true) ∧ Below w.heap.size w w' := by
  obtain ⟨arsA, arsC, codeA, codeC, rfl, hA, hC⟩ := hc
  by_cases hf : fewB ars cd = false ∨ (chkCode ars regs spills cd).2 ≠ 0
  · exact needs_idle arsA codeA arsC codeC ars regs spills cd input ended w hA hC ok hf
  have hfew : fewB ars cd = true := by
    cases h : fewB ars cd with
    | true => rfl
    | false => exact absurd (.inl h) hf
  have hchk : (chkCode ars regs spills cd).2 = 0 := Classical.byContradiction fun h => hf (.inr h)
  obtain ⟨t, R⟩ := good_tree (chk_good hchk) ok.arg input ended 0
  obtain ⟨e1, e2, _, _, _⟩ := R
  have ht : cd = t.flat ∧ t.wf false 8 := ⟨e1, e2⟩
  have hrange := T.bd_range True t 0 (fun i hi => (ok.arg i (by rw [ht.1]; exact hi)).1) (by unfold BY; omega)
  by_cases hB : BY ≤ t.bd 0
  · exact needs_a arsA codeA arsC codeC ars regs spills cd input ended t w hA hC ok hi hfew hchk ht 0 18 (by unfold boundRes; rw [if_neg (by simpa using hchk), if_pos hB]) rfl rfl (by omega) (fun _ => rfl)
  have hbe : boundRes (chkCode ars regs spills cd).2 (t.bd 0) = (t.bd 0, 0) := by unfold boundRes; rw [if_neg (by simpa using hchk), if_neg hB]
  by_cases h4 : t.bd 0 < 4000
  · exact needs_c arsA codeA arsC codeC ars regs spills cd input ended t w hA hC ok hi hfew hchk ht (t.bd 0) 0 hbe rfl (by simpa using h4) hrange.1
      (fun h => absurd h (mach_bound ok.arg (zeros_u32 ars) (u32s_rep 16) hi ht (by omega) (Int.le_refl _)))
  · exact needs_b arsA codeA arsC codeC ars regs spills cd input ended t w hA hC ok hi hfew hchk ht (t.bd 0) 0 hbe rfl (by simpa using h4) hrange.1 (fun _ => rfl)
end Go.Proofs.Ytefdnjhhaejgbaa

namespace Go.Proofs.Ytefdnjhhaejgbaa.machineNeeds
open Go.ChangeShapes Go.WideShapes Go.ChangeAt Go.RowKit
open Go.ChangeMaps (open_string shut_string)
set_option linter.unusedVariables false

theorem own : ownKnob Try.prog.godebug = none := by kernel_rfl
theorem params_read : (Try.f5.params.toList.all fun t => Try.prog.readableRec t && decide (t < Try.prog.types.size)) = true := by kernel_rfl
theorem laid : laidOutB Try.prog = true := by kernel_rfl
theorem params_len : Try.f5.params.toList.length = 3 := by kernel_rfl

set_option maxRecDepth 100000 in
theorem lifted (os : Os) (started : os.Started) (H : Type) (enc : TypeId × Value → H) :
    ReturnsInHanded {} Try.checked os 5 .any (Rows.machineNeedsSpec.pre6 enc Try.prog Try.f5 Rows.machineNeedsRow.domain false) (Rows.machineNeedsSpec.post enc Try.prog Try.f5 false true false false) := by
  refine law_row (C := Try.checked) (k := 5) (f := Try.f5) (s := Rows.machineNeedsSpec) (tb := 4) own started (by kernel_rfl) Try.func5
    (ChangeSpec.witness6 (enc := enc) (C := Try.checked) false ⟨#[], #[.agg #[.slice none 0 0, .int .i64 0, .int .i64 0, .slice none 0 0], .int .u32 0, .bool false], []⟩ 8 (by kernel_rfl) (by kernel_rfl) (by kernel_rfl) (by kernel_rfl))
    laid ?_ rfl ?_ (by kernel_rfl) Try.underlying4 ?_
  · intro t ht
    have := List.all_eq_true.1 params_read t ht
    rw [Bool.and_eq_true, decide_eq_true_eq] at this
    exact this
  · intro ds hds
    rw [params_len] at hds
    match ds, hds with
    | [a, b, c], _ => rfl
  · intro W base args ds p hval hA
    rw [Try.params5] at hA hval
    obtain ⟨v0, vs0, d0, ds0, p0, q0, hargs, rfl, rfl, h0, r0⟩ := trodAll_cons hA
    obtain ⟨v1, vs1, d1, ds1, p1, q1, rfl, rfl, rfl, h1, r1⟩ := trodAll_cons r0
    obtain ⟨v2, vs2, d2, ds2, p2, q2, rfl, rfl, rfl, h2, r2⟩ := trodAll_cons r1
    obtain ⟨rfl, rfl, rfl⟩ := trodAll_nil r2
    obtain rfl : args = #[v0, v1, v2] := by cases args; simp_all
    obtain ⟨ars, regs, spills, cd, hc, ok⟩ := open_code (hval 0 _ v0 rfl rfl) h0
    obtain ⟨a1, rfl, rfl, rfl, w1⟩ := open_int Try.underlying42 (hval 1 _ v1 rfl rfl) h1
    obtain ⟨a2, rfl, rfl, rfl⟩ := open_bool Try.underlying4 (hval 2 _ v2 rfl rfl) h2
    exact needs_walk ars regs spills cd a1 a2 v0 W hc ok (wf_u32 w1)

theorem over : Rows.machineNeedsRow.holds Try.pinned (OpenSpec.ofChange Rows.machineNeedsSpec) :=
  OpenClaim.holds_of_wide 5 Try.f5 rfl rfl rfl rfl rfl rfl rfl ⟨rfl, rfl, rfl, rfl, rfl⟩ rfl rfl rfl rfl rfl (by kernel_rfl) Try.func5 (by kernel_rfl)
    (of_decide_eq_true (by kernel_rfl)) (by unfold Func.isWrapper; first | (rw [if_pos (by decide +kernel)]; kernel_rfl) | (rw [if_neg (by decide +kernel)]; exact ⟨rfl, rfl⟩))
    (fun os started H enc _ => lifted os started H enc)

/-- ████ THE STATEMENT ████ -/
theorem proved : Rows.MachineNeedsSaid :=
  over
#print axioms proved
end Go.Proofs.Ytefdnjhhaejgbaa.machineNeeds
