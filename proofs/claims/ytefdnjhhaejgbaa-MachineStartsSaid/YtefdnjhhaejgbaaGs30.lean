/- A part of the proof of MachineStarts: Sv Sw Fa Fb Fo Pi Sx. No condition. -/
import Derived.Test.YtefdnjhhaejgbaaGs28
import Derived.Test.YtefdnjhhaejgbaaGs29
import Derived.Test.YtefdnjhhaejgbaaGs27
import Derived.Test.YtefdnjhhaejgbaaGs23
import Derived.Test.YtefdnjhhaejgbaaGs20
import Derived.Test.YtefdnjhhaejgbaaGs13
import Derived.Test.YtefdnjhhaejgbaaGs22
set_option linter.unusedSimpArgs false
set_option linter.unusedVariables false
namespace Go.Proofs.Ytefdnjhhaejgbaa
open Go.RowKit
set_option linter.unusedVariables false

theorem RunVal.res {w : World} {s : PS} {v : Value} (h : RunVal w s v) : ∃ qa cq ca cc oa oc, v = .agg #[.slice qa s.arr.length cq, .slice ca s.ctx.length cc, .slice oa s.out.length oc, .int .i64 s.steps] ∧ GridR w qa s.arr ∧ RowB w.heap.size w 1 ca s.ctx.length (fun j _ => .int .u32 (s.ctx.getD j 0)) ∧
    RowB w.heap.size w 1 oa s.out.length (fun j _ => .int .u8 (s.out.getD j 0)) := by
  obtain ⟨qa, cq, ca, cc, oa, oc, rfl, h1, h2, h3⟩ := h
  exact ⟨qa, cq, ca, cc, oa, oc, rfl, h1.toR, h2.row, h3⟩

theorem zeros_fit {ars : List Ar} (h : ∀ a ∈ ars, 1 ≤ a.size ∧ a.size ≤ 65536) : fitsB ars (zeros ars) 16 = true := by
  refine fits_all (by simp [zeros]) rfl (fun k hk => ?_)
  rw [zeros_getD ars k hk]
  have hm : ars.getD k default ∈ ars := by rw [List.getD_eq_getElem?_getD, List.getElem?_eq_getElem hk]; exact List.getElem_mem hk
  have := h _ hm
  refine fitB_all (by rw [List.length_replicate]; omega) (fun j hj => ?_)
  rw [List.length_replicate] at hj
  generalize (ars.getD k default).size.toNat = n at hj ⊢
  rw [List.getD_eq_getElem?_getD, List.getElem?_replicate, if_pos hj]
  decide
theorem zeros_u32 (ars : List Ar) : ∀ a ∈ zeros ars, u32s a := by
  intro a ha
  simp only [zeros, List.mem_map] at ha
  obtain ⟨x, _, rfl⟩ := ha
  intro y hy
  rw [List.eq_of_mem_replicate hy]; omega
theorem zeros_len {ars : List Ar} (h : ∀ a ∈ ars, 1 ≤ a.size ∧ a.size ≤ 65536) : ∀ a ∈ zeros ars, a.length ≤ 65536 := by
  intro a ha
  simp only [zeros, List.mem_map] at ha
  obtain ⟨x, hx, rfl⟩ := ha
  have := h x hx
  rw [List.length_replicate]; omega

def cdCells (arsA : Option Addr) (n arsC : Nat) (regs spills : Int) (codeA : Option Addr) (m codeC : Nat) : List Value := [.slice arsA n arsC, .int .i64 regs, .int .i64 spills, .slice codeA m codeC]


set_option maxRecDepth 100000 in
set_option maxHeartbeats 1000000 in
theorem needs_idle (arsA codeA : Option Addr) (arsC codeC : Nat) (ars : List Ar) (regs spills : Int) (cd : List RI) (input : Int) (ended : Bool) (w : World)
    (hA : RowB w.heap.size w 2 arsA ars.length fun i j => (ars.getD i default).cell j) (hC : RowB w.heap.size w 5 codeA cd.length fun i j => (cd.getD i default).cell j) (ok : CodeOk ars regs spills cd)
    (hf : fewB ars cd = false ∨ (chkCode ars regs spills cd).2 ≠ 0) :
    Calls Try.prog 5 #[.agg #[.slice arsA ars.length arsC, .int .i64 regs, .int .i64 spills, .slice codeA cd.length codeC], .int .u32 input, .bool ended] w fun e w' => e = .returned (.bool true) ∧ Below w.heap.size w w' := by
  have hW : Below w.heap.size w (w.alloc (.cells #[.slice arsA ars.length arsC, .int .i64 regs, .int .i64 spills, .slice codeA cd.length codeC] 25)) := (Below.refl _ _).alloc (Nat.le_refl _) _
  have HF := Lib.hid (few_any arsA codeA arsC codeC regs spills ars cd _ ((hA.below hW).mono hW.size))
  have HW := Lib.hid hW
  have HA := Lib.hid hA
  have HC := Lib.hid hC
  have OK := Lib.hid ok
  clear hW hA hC ok
  cases hfew : fewB ars cd with
  | false =>
    rw [hfew] at HF
    clear hf hfew
    go_enter Try.func5, Try.ntmps5
    go_wp2_with fail
    refine HF.out.mono ?_
    rintro e W2 ⟨rfl, hb2⟩
    have H2 := Lib.hid (HW.out.trans (hb2.mono HW.out.size))
    clear hb2 HF
    go_wp2_with fail
    refine (awake_true W2).mono ?_
    rintro e W3 ⟨rfl, hb3⟩
    have H3 := Lib.hid (H2.out.trans (hb3.mono H2.out.size))
    clear hb3
    go_wp2
    go_ret
    exact ⟨rfl, H3.out⟩
  | true =>
    have hchk : (chkCode ars regs spills cd).2 ≠ 0 := by
      rcases hf with h | h
      · rw [hfew] at h; cases h
      · exact h
    rw [hfew] at HF
    clear hf hfew
    go_enter Try.func5, Try.ntmps5
    go_wp2_with fail
    refine HF.out.mono ?_
    rintro e W2 ⟨rfl, hb2⟩
    have kc2 : Blk W2 w.heap.size [.slice arsA ars.length arsC, .int .i64 regs, .int .i64 spills, .slice codeA cd.length codeC] 25 := (show Blk (w.alloc _) w.heap.size _ _ from heap_new1 _ _).below hb2 (by simp)
    have hb2' := HW.out.trans (hb2.mono HW.out.size)
    have HST := Lib.hid (Start_any arsA codeA arsC codeC ars regs spills cd W2 ((HA.out.below hb2').mono hb2'.size) ((HC.out.below hb2').mono hb2'.size) OK.out.la OK.out.lc OK.out.arg)
    have H2 := Lib.hid hb2'
    have a0 : W2.cell? ⟨w.heap.size, 0, none⟩ = some (.slice arsA ars.length arsC) := kc2.cell 0
    have a1 : W2.cell? ⟨w.heap.size, 0 + 1, none⟩ = some (.int .i64 regs) := kc2.cell 1
    have a2 : W2.cell? ⟨w.heap.size, 0 + 1 + 1, none⟩ = some (.int .i64 spills) := kc2.cell 2
    have a3 : W2.cell? ⟨w.heap.size, 0 + 1 + 1 + 1, none⟩ = some (.slice codeA cd.length codeC) := kc2.cell 3
    clear hb2 hb2' HF kc2
    go_wp2_with fail
    refine HST.out.mono ?_
    rintro e Y1 ⟨hbY, hst⟩
    rw [if_neg hchk] at hst
    replace hst : e = .returned (.tuple #[.agg #[.slice none 0 0, .slice none 0 0], .int .i64 (chkCode ars regs spills cd).2]) := hst
    subst hst
    have hd : ((chkCode ars regs spills cd).2 != 0) = true := by simpa using hchk
    generalize (chkCode ars regs spills cd).2 = er at hd ⊢
    have HY := Lib.hid (H2.out.trans (hbY.mono H2.out.size))
    clear hbY hchk a0 a1 a2 a3 HST
    go_upto_region 5 with (fail)
    refine wp_gen (fun W => Below w.heap.size w W) (HY.out.alloc HY.out.size _) ?_
    intro W3 hb3
    have H3 := Lib.hid hb3
    clear hb3
    go_wp2_with fail
    refine (awake_true W3).mono ?_
    rintro e W4 ⟨rfl, hb4⟩
    have H4 := Lib.hid (H3.out.trans (hb4.mono H3.out.size))
    clear hb4
    go_wp2
    go_ret
    exact ⟨rfl, H4.out⟩
end Go.Proofs.Ytefdnjhhaejgbaa

namespace Go.Proofs.Ytefdnjhhaejgbaa
open Go.RowKit
set_option linter.unusedVariables false

theorem fits_small {ars : List Ar} {arr : List (List Int)} {n : Nat} (h : fitsB ars arr n = true) (hs : ∀ a ∈ ars, 1 ≤ a.size ∧ a.size ≤ 65536) : arr.length = ars.length ∧ n = 16 ∧ ∀ a ∈ arr, a.length ≤ 65536 := by
  obtain ⟨h1, h2, h3⟩ := fits_lens h
  refine ⟨h1, h2, fun a ha => ?_⟩
  obtain ⟨k, hk, rfl⟩ := List.getElem_of_mem ha
  have e := h3 k hk
  have hm := hs (ars.getD k default) (by rw [List.getD_eq_getElem?_getD, List.getElem?_eq_getElem (by omega)]; exact List.getElem_mem _)
  rw [List.getD_eq_getElem?_getD, List.getElem?_eq_getElem hk, Option.getD_some] at e
  omega

theorem u32s_rep (n : Nat) : u32s (List.replicate n 0) := fun x hx => by rw [List.eq_of_mem_replicate hx]; decide

theorem tick_ne {c : MC} {s : PS} {e : Int} (h : tick c s = .error e) : e ≠ 0 := by
  unfold tick at h
  split at h
  · cases h
  · cases h; decide
theorem effect_ne {c : MC} {s : PS} {i : RI} {e : Int} (h : effect c s i = .error e) : e ≠ 0 := by
  unfold effect at h
  by_cases h0 : i.op = 0
  · rw [if_pos h0] at h
    cases h
  rw [if_neg h0] at h
  by_cases h36 : i.op = 36
  · rw [if_pos h36] at h
    cases h
  rw [if_neg h36] at h
  by_cases h37 : i.op = 37
  · rw [if_pos h37] at h
    cases h
  rw [if_neg h37] at h
  by_cases h38 : i.op = 38
  · rw [if_pos h38] at h
    cases h
  rw [if_neg h38] at h
  by_cases h32 : i.op = 32
  · rw [if_pos h32] at h
    cases h
  rw [if_neg h32] at h
  by_cases h33 : i.op = 33
  · rw [if_pos h33] at h
    cases h
  rw [if_neg h33] at h
  by_cases h34 : i.op = 34
  · rw [if_pos h34] at h
    split at h
    · cases h
    · cases h; decide
  rw [if_neg h34] at h
  by_cases h35 : i.op = 35
  · rw [if_pos h35] at h
    cases h
  rw [if_neg h35] at h
  by_cases h3 : i.op = 3
  · rw [if_pos h3] at h
    split at h
    · cases h
    · cases h; decide
  rw [if_neg h3] at h
  by_cases h4 : i.op = 4
  · rw [if_pos h4] at h
    split at h
    · cases h
    · cases h; decide
  rw [if_neg h4] at h
  by_cases h27 : i.op = 27
  · rw [if_pos h27] at h
    cases h
  rw [if_neg h27] at h
  by_cases h28 : i.op = 28
  · rw [if_pos h28] at h
    cases h
  rw [if_neg h28] at h
  by_cases h29 : i.op = 29
  · rw [if_pos h29] at h
    split at h
    · cases h; decide
    · split at h
      · cases h
      · exact tick_ne h
  rw [if_neg h29] at h
  by_cases h30 : i.op = 30
  · rw [if_pos h30] at h
    cases h
  rw [if_neg h30] at h
  by_cases h31 : i.op = 31
  · rw [if_pos h31] at h
    split at h
    · cases h
    · split at h
      · cases h
      · split at h
        · cases h
        · exact tick_ne h
  rw [if_neg h31] at h
  split at h
  · cases h
  · cases h; assumption
theorem mstep_ne {c : MC} {s : PS} {e : Int} (h : mstep c s = .error e) : e ≠ 0 := by
  unfold mstep at h
  dsimp only at h
  split at h
  · cases ht : tick c s with
    | error n => rw [ht] at h; cases h; exact tick_ne ht
    | ok s1 =>
      rw [ht] at h
      cases he : effect c s1 (c.cd.getD s.pc default) with
      | error n => simp only [Except.bind, he] at h; cases h; exact effect_ne he
      | ok s2 => simp only [Except.bind, he] at h; cases h
  · cases he : effect c s (c.cd.getD s.pc default) with
    | error n => simp only [Except.bind, he] at h; cases h; exact effect_ne he
    | ok s2 => simp only [Except.bind, he] at h; cases h
theorem mrun_ne {c : MC} : ∀ (n : Nat) {s : PS} {e : Int}, mrun c n s = .error e → e ≠ 0
  | 0, s, e, h => by cases h
  | n + 1, s, e, h => by
    rw [mrun] at h
    split at h
    · cases hm : mstep c s with
      | error k => rw [hm] at h; cases h; exact mstep_ne hm
      | ok s1 => rw [hm] at h; exact mrun_ne n h
    · cases h

theorem NeedsErr {ars : List Ar} {regs spills : Int} {cd : List RI} {arr : List (List Int)} {ctx : List Int} {input : Int} {ended : Bool} {F n : Int} (h : machRun ars regs spills cd arr ctx input ended F = .error n) : n ≠ 0 := by
  unfold machRun runRes at h
  split at h
  · cases h; assumption
  · split at h
    · cases h; decide
    · split at h
      · cases h; decide
      · exact mrun_ne _ h

set_option maxRecDepth 100000 in
set_option maxHeartbeats 1000000 in
theorem needs_a (arsA codeA : Option Addr) (arsC codeC : Nat) (ars : List Ar) (regs spills : Int) (cd : List RI) (input : Int) (ended : Bool) (t : T) (w : World)
    (hA : RowB w.heap.size w 2 arsA ars.length fun i j => (ars.getD i default).cell j) (hC : RowB w.heap.size w 5 codeA cd.length fun i j => (cd.getD i default).cell j) (ok : CodeOk ars regs spills cd) (hi : u32 input)
    (hfew : fewB ars cd = true) (hchk : (chkCode ars regs spills cd).2 = 0) (ht : cd = t.flat ∧ t.wf false 8) (b er : Int) (hbe : boundRes (chkCode ars regs spills cd).2 (t.bd 0) = (b, er)) (q1 : (er == 0) = false) (q2 : decide (b < 4000) = true) (hb0 : 0 ≤ b)
    (h19 : machRun ars regs spills cd (zeros ars) (List.replicate 16 0) input ended 4000 = .error 19 → 4000 = (4000 : Int)) :
    Calls Try.prog 5 #[.agg #[.slice arsA ars.length arsC, .int .i64 regs, .int .i64 spills, .slice codeA cd.length codeC], .int .u32 input, .bool ended] w fun e w' => e = .returned (.bool true) ∧ Below w.heap.size w w' := by
  have hW : Below w.heap.size w (w.alloc (.cells #[.slice arsA ars.length arsC, .int .i64 regs, .int .i64 spills, .slice codeA cd.length codeC] 25)) := (Below.refl _ _).alloc (Nat.le_refl _) _
  have hF := few_any arsA codeA arsC codeC regs spills ars cd _ ((hA.below hW).mono hW.size)
  rw [hfew] at hF
  have HF := Lib.hid hF
  have HW := Lib.hid hW
  have G := chk_good hchk
  obtain ⟨ms, hms⟩ : ∃ ms, zeros ars = ms := ⟨_, rfl⟩
  obtain ⟨cx, hcx⟩ : ∃ cx : List Int, List.replicate 16 0 = cx := ⟨_, rfl⟩
  have hzf := zeros_fit G.hars
  have hzu := zeros_u32 ars
  have hzl := zeros_len G.hars
  have hcu := u32s_rep 16
  have hcl : (List.replicate 16 (0 : Int)).length = 16 := List.length_replicate
  have HST := Lib.hid (fun W (hb : Below w.heap.size w W) => Start_any arsA codeA arsC codeC ars regs spills cd W ((hA.below hb).mono hb.size) ((hC.below hb).mono hb.size) ok.la ok.lc ok.arg)
  have HBO := Lib.hid (fun W (hb : Below w.heap.size w W) => Bound_any arsA codeA arsC codeC ars regs spills cd t W ((hA.below hb).mono hb.size) ((hC.below hb).mono hb.size) ok.la ok.lc ok.arg (fun _ => ht))
  unfold StartPost at HST
  rw [hms, hcx] at HST h19
  rw [hcx] at hcu
  rw [hms] at hzf hzu hzl
  rw [hcx] at hcl
  rw [hbe] at HBO
  dsimp only at HBO
  rw [← hcl] at hzf
  have hAl : ars.length ≤ 9223372036854775806 := by have := G.hnA; omega
  have HFI := Lib.hid (fun W (hb : Below w.heap.size w W) qa cq ca cc n arr (hg : GridR W qa arr) (hl : ∀ a ∈ arr, a.length ≤ 65536) => fitsR arsA qa ca arsC cq cc n ars arr W ((hA.below hb).mono hb.size) hg hAl (fun a ha => by have := hl a ha; omega))
  have HRU := Lib.hid (fun W (hb : Below w.heap.size w W) qa cq ca cc F (hg : GridR W qa ms) (hx : RowB W.heap.size W 1 ca cx.length fun j _ => .int .u32 (cx.getD j 0)) =>
    Run_is arsA codeA qa ca arsC codeC cq cc ars regs spills cd ms cx input ended F W ((hA.below hb).mono hb.size) ((hC.below hb).mono hb.size) hg hx hAl ok.lc ok.arg (fun a ha => by have := hzl a ha; omega) hzu hcu hi)
  have HFU := Lib.hid (fun (s : PS) F (h : machRun ars regs spills cd ms cx input ended F = .ok s) => mach_fuel ok.arg hzu hcu hi h)
  have HSM := Lib.hid G.hars
  have HCK := Lib.hid hchk
  have H19 := Lib.hid h19
  clear hW hF hA hC ok hi hfew ht hbe G hms hcx hzf hzu hzl hcu hcl hchk h19
  go_enter Try.func5, Try.ntmps5
  go_wp2_with fail
  refine HF.out.mono ?_
  rintro e W2 ⟨rfl, hb2⟩
  have kc2 : Blk W2 w.heap.size [.slice arsA ars.length arsC, .int .i64 regs, .int .i64 spills, .slice codeA cd.length codeC] 25 := (show Blk (w.alloc _) w.heap.size _ _ from heap_new1 _ _).below hb2 (by simp)
  have H2 := Lib.hid (HW.out.trans (hb2.mono HW.out.size))
  have K2 := Lib.hid kc2
  have a0 : W2.cell? ⟨w.heap.size, 0, none⟩ = some (.slice arsA ars.length arsC) := kc2.cell 0
  have a1 : W2.cell? ⟨w.heap.size, 0 + 1, none⟩ = some (.int .i64 regs) := kc2.cell 1
  have a2 : W2.cell? ⟨w.heap.size, 0 + 1 + 1, none⟩ = some (.int .i64 spills) := kc2.cell 2
  have a3 : W2.cell? ⟨w.heap.size, 0 + 1 + 1 + 1, none⟩ = some (.slice codeA cd.length codeC) := kc2.cell 3
  clear hb2 HF kc2 HW
  go_wp2_with fail
  refine (HST.out W2 H2.out).mono ?_
  rintro e Y1 ⟨hbY, hst⟩
  rw [if_pos HCK.out] at hst
  obtain ⟨v, rfl, hmv⟩ := hst
  obtain ⟨qa, cq, ca, cc, rfl, hg, hx⟩ := hmv Y1 (fun _ _ => rfl)
  have H3 := Lib.hid (And.intro (H2.out.trans (hbY.mono H2.out.size)) (And.intro (K2.out.below hbY K2.out.lt) (And.intro hg.toR hx.row)))
  have hlt : w.heap.size < Y1.heap.size := Nat.lt_of_lt_of_le K2.out.lt hbY.size
  clear hbY hg hx a0 a1 a2 a3 hmv K2 H2 HST
  go_upto_region 7 with (fail)
  refine wp_gen (fun W => Below w.heap.size w W ∧ Blk W w.heap.size [.slice arsA ars.length arsC, .int .i64 regs, .int .i64 spills, .slice codeA cd.length codeC] 25 ∧ Blk W Y1.heap.size [.slice qa ms.length cq, .slice ca cx.length cc] 31 ∧ GridR W qa ms ∧ (RowB W.heap.size W 1 ca cx.length fun j _ => .int .u32 (cx.getD j 0))) ?_ ?_
  · have hbb : Below Y1.heap.size Y1 (Y1.alloc (.cells #[.slice qa ms.length cq, .slice ca cx.length cc] 31)) := (Below.refl _ _).alloc (Nat.le_refl _) _
    exact ⟨H3.out.1.trans (hbb.mono H3.out.1.size), H3.out.2.1.below hbb hlt, heap_new1 _ _, H3.out.2.2.1.below hbb, (H3.out.2.2.2.below hbb).mono hbb.size⟩
  clear H3
  rintro W3 ⟨hb3, kc3, km3, hg3, hx3⟩
  have a0 : W3.cell? ⟨w.heap.size, 0, none⟩ = some (.slice arsA ars.length arsC) := kc3.cell 0
  have a1 : W3.cell? ⟨w.heap.size, 0 + 1, none⟩ = some (.int .i64 regs) := kc3.cell 1
  have a2 : W3.cell? ⟨w.heap.size, 0 + 1 + 1, none⟩ = some (.int .i64 spills) := kc3.cell 2
  have a3 : W3.cell? ⟨w.heap.size, 0 + 1 + 1 + 1, none⟩ = some (.slice codeA cd.length codeC) := kc3.cell 3
  have H3 := Lib.hid (And.intro hb3 (And.intro kc3 (And.intro km3 (And.intro hg3 hx3))))
  clear hb3 kc3 km3 hg3 hx3
  go_wp2_with fail
  refine (HBO.out W3 H3.out.1).mono ?_
  rintro e W4 ⟨rfl, hb4⟩
  dsimp only
  obtain ⟨hb3, kc3, km3, hg3, hx3⟩ := H3.out
  have kc4 := kc3.below hb4 kc3.lt
  have km4 := km3.below hb4 km3.lt
  have a0 : W4.cell? ⟨w.heap.size, 0, none⟩ = some (.slice arsA ars.length arsC) := kc4.cell 0
  have a1 : W4.cell? ⟨w.heap.size, 0 + 1, none⟩ = some (.int .i64 regs) := kc4.cell 1
  have a2 : W4.cell? ⟨w.heap.size, 0 + 1 + 1, none⟩ = some (.int .i64 spills) := kc4.cell 2
  have a3 : W4.cell? ⟨w.heap.size, 0 + 1 + 1 + 1, none⟩ = some (.slice codeA cd.length codeC) := kc4.cell 3
  have m0 : W4.cell? ⟨Y1.heap.size, 0, none⟩ = some (.slice qa ms.length cq) := km4.cell 0
  have m1 : W4.cell? ⟨Y1.heap.size, 0 + 1, none⟩ = some (.slice ca cx.length cc) := km4.cell 1
  have hb4' := hb3.trans (hb4.mono hb3.size)
  have H4 := Lib.hid (And.intro hb4' (And.intro kc4 (And.intro km4 (And.intro (hg3.below hb4) ((hx3.below hb4).mono hb4.size)))))
  clear hb3 kc3 km3 hg3 hx3 kc4 km4 hb4 hb4' H3 HBO
  go_wp2_with fail
  refine (HRU.out W4 H4.out.1 qa cq ca cc _ H4.out.2.2.2.1 H4.out.2.2.2.2).mono ?_
  rintro e W5 ⟨hb5, hst⟩
  obtain ⟨hb4, kc4, km4, hg4, hx4⟩ := H4.out
  have H5 := Lib.hid (And.intro (hb4.trans (hb5.mono hb4.size)) (And.intro (kc4.below hb5 kc4.lt) (And.intro (km4.below hb5 km4.lt) (And.intro (hg4.below hb5) ((hx4.below hb5).mono hb5.size)))))
  clear hb4 kc4 km4 hg4 hx4 H4 a0 a1 a2 a3 m0 m1
  cases hr : machRun ars regs spills cd ms cx input ended 4000 with
  | error n =>
    rw [hr] at hst
    replace hst : e = .returned (.tuple #[.agg #[.slice none 0 0, .slice none 0 0, .slice none 0 0, .int .i64 0], .int .i64 n]) := hst
    subst hst
    have hn0 := NeedsErr hr
    by_cases hn : n = 19
    · subst hn
      have hd : ((4000 : Int) == 4000) = true := by first | rfl | exact beq_iff_eq.2 (H19.out hr)
      have HB5 := Lib.hid hb5
      clear hr hn0 hb5
      go_upto_region 12 with (fail)
      refine wp_gen (fun W => Below w.heap.size w W) (H5.out.1.alloc H5.out.1.size _) ?_
      intro W6 hb6
      have H6 := Lib.hid hb6
      clear hb6 H5
      go_wp2_with fail
      refine (awake_true W6).mono ?_
      rintro e W7 ⟨rfl, hb7⟩
      have H7 := Lib.hid (H6.out.trans (hb7.mono H6.out.size))
      clear hb7
      go_wp2
      go_ret
      exact ⟨rfl, H7.out⟩
    · have hd : (n == 19) = false := by simpa using hn
      have hd2 : (n != 0) = true := by simpa using hn0
      clear hr hn0 hb5 hn
      go_upto_region 14 with (fail)
      refine wp_gen (fun W => Below w.heap.size w W) (H5.out.1.alloc H5.out.1.size _) ?_
      intro W6 hb6
      have H6 := Lib.hid hb6
      clear hb6 H5
      go_wp2_with fail
      refine (awake_true W6).mono ?_
      rintro e W7 ⟨rfl, hb7⟩
      have H7 := Lib.hid (H6.out.trans (hb7.mono H6.out.size))
      clear hb7
      go_wp2
      go_ret
      exact ⟨rfl, H7.out⟩
  | ok s =>
    rw [hr] at hst
    obtain ⟨v, rfl, hv⟩ := hst
    obtain ⟨qb, cqb, cb, ccb, ob, ocb, rfl, hgb, hxb, hob⟩ := (hv W5 (fun _ _ => rfl) rfl).res
    have hres : ResAt W5 s.arr s.ctx s.out s.steps (.agg #[.slice qb s.arr.length cqb, .slice cb s.ctx.length ccb, .slice ob s.out.length ocb, .int .i64 s.steps]) := ⟨qb, cqb, cb, ccb, ob, ocb, rfl, hgb, hxb, hob⟩
    obtain ⟨n1, n2, n3, n4, n5, n6, n7⟩ := HFU.out s _ hr
    obtain ⟨l1, l2, l3⟩ := fits_small n3 HSM.out
    have HRES := Lib.hid (And.intro hres (And.intro hgb hxb))
    have HNF := Lib.hid n3
    have HN6 := Lib.hid n6
    have HN7 := Lib.hid n7
    have HL3 := Lib.hid (And.intro l1 (And.intro l2 l3))
    have p1 : decide (s.steps < 0) = false := by simp; omega
    have p2 : decide (4000 < s.steps) = false := by simp; omega
    have n8 : s.steps ≤ 4000 := by
      first
        | omega
        | (have : b < 4000 := by simpa using q2
           omega)
    have hl5 : Y1.heap.size < W5.heap.size := H5.out.2.2.1.lt
    clear hb5 hv hgb hxb hob hres n2 n3 n4 n5 n6 n7 l1 l2 l3 hr H19 HSM HFU
    go_upto_region 15 with (fail)
    refine wp_gen (fun W => Below w.heap.size w W ∧ Blk W w.heap.size [.slice arsA ars.length arsC, .int .i64 regs, .int .i64 spills, .slice codeA cd.length codeC] 25 ∧ Blk W Y1.heap.size [.slice qa ms.length cq, .slice ca cx.length cc] 31 ∧ GridR W qa ms ∧ (RowB W.heap.size W 1 ca cx.length fun j _ => .int .u32 (cx.getD j 0)) ∧
        Blk W W5.heap.size [.slice qb s.arr.length cqb, .slice cb s.ctx.length ccb, .slice ob s.out.length ocb, .int .i64 s.steps] 49 ∧ ResAt W s.arr s.ctx s.out s.steps (.agg #[.slice qb s.arr.length cqb, .slice cb s.ctx.length ccb, .slice ob s.out.length ocb, .int .i64 s.steps]) ∧ GridR W qb s.arr) ?_ ?_
    · have hbb : Below W5.heap.size W5 (W5.alloc (.cells #[.slice qb s.arr.length cqb, .slice cb s.ctx.length ccb, .slice ob s.out.length ocb, .int .i64 s.steps] 49)) := (Below.refl _ _).alloc (Nat.le_refl _) _
      obtain ⟨hb5, kc5, km5, hg5, hx5⟩ := H5.out
      exact ⟨hb5.trans (hbb.mono hb5.size), kc5.below hbb kc5.lt, km5.below hbb km5.lt, hg5.below hbb, (hx5.below hbb).mono hbb.size, heap_new1 _ _, HRES.out.1.below hbb, HRES.out.2.1.below hbb⟩
    clear H5 HRES
    rintro W6 ⟨hb6, kc6, km6, hg6, hx6, kr6, hr6, hq6⟩
    have a0 : W6.cell? ⟨w.heap.size, 0, none⟩ = some (.slice arsA ars.length arsC) := kc6.cell 0
    have r0 : W6.cell? ⟨W5.heap.size, 0, none⟩ = some (.slice qb s.arr.length cqb) := kr6.cell 0
    have r1 : W6.cell? ⟨W5.heap.size, 0 + 1, none⟩ = some (.slice cb s.ctx.length ccb) := kr6.cell 1
    have r3 : W6.cell? ⟨W5.heap.size, 3, none⟩ = some (.int .i64 s.steps) := kr6.cell 3
    have hfit := HFI.out W6 hb6 qb cqb cb ccb s.ctx.length s.arr hq6 HL3.out.2.2
    rw [HNF.out] at hfit
    have HFIT := Lib.hid hfit
    have H6 := Lib.hid (And.intro hb6 (And.intro kc6 (And.intro km6 (And.intro hg6 (And.intro hx6 (And.intro kr6 hr6))))))
    clear hb6 kc6 km6 hg6 hx6 kr6 hr6 hq6 hfit
    go_wp2_with fail
    refine HFIT.out.mono ?_
    rintro e W7 ⟨rfl, hb7⟩
    obtain ⟨hb6, kc6, km6, hg6, hx6, kr6, hr6⟩ := H6.out
    have kc7 := kc6.below hb7 kc6.lt
    have km7 := km6.below hb7 km6.lt
    have kr7 := kr6.below hb7 kr6.lt
    have a0 : W7.cell? ⟨w.heap.size, 0, none⟩ = some (.slice arsA ars.length arsC) := kc7.cell 0
    have a1 : W7.cell? ⟨w.heap.size, 0 + 1, none⟩ = some (.int .i64 regs) := kc7.cell 1
    have a2 : W7.cell? ⟨w.heap.size, 0 + 1 + 1, none⟩ = some (.int .i64 spills) := kc7.cell 2
    have a3 : W7.cell? ⟨w.heap.size, 0 + 1 + 1 + 1, none⟩ = some (.slice codeA cd.length codeC) := kc7.cell 3
    have m0 : W7.cell? ⟨Y1.heap.size, 0, none⟩ = some (.slice qa ms.length cq) := km7.cell 0
    have m1 : W7.cell? ⟨Y1.heap.size, 0 + 1, none⟩ = some (.slice ca cx.length cc) := km7.cell 1
    have r3 : W7.cell? ⟨W5.heap.size, 3, none⟩ = some (.int .i64 s.steps) := kr7.cell 3
    have H7 := Lib.hid (And.intro (hb6.trans (hb7.mono hb6.size)) (And.intro kc7 (And.intro km7 (And.intro (hg6.below hb7) (And.intro ((hx6.below hb7).mono hb7.size) (And.intro kr7 (hr6.below hb7)))))))
    clear hb6 kc6 km6 hg6 hx6 kr6 hr6 hb7 kc7 km7 kr7 H6 HFIT HFI r0 r1 p1 p2
    go_wp2_with fail
    refine (HRU.out W7 H7.out.1 qa cq ca cc _ H7.out.2.2.2.1 H7.out.2.2.2.2.1).mono ?_
    rintro e W8 ⟨hb8, hst⟩
    rw [HN6.out] at hst
    obtain ⟨v, rfl, hv⟩ := hst
    obtain ⟨qd, cqd, cd2, ccd, od, ocd, rfl, hgd, hxd, hod⟩ := (hv W8 (fun _ _ => rfl) rfl).res
    have hres2 : ResAt W8 s.arr s.ctx s.out s.steps (.agg #[.slice qd s.arr.length cqd, .slice cd2 s.ctx.length ccd, .slice od s.out.length ocd, .int .i64 s.steps]) := ⟨qd, cqd, cd2, ccd, od, ocd, rfl, hgd, hxd, hod⟩
    obtain ⟨hb7, kc7, km7, hg7, hx7, kr7, hr7⟩ := H7.out
    have hl8 : W5.heap.size < W8.heap.size := Nat.lt_of_lt_of_le kr7.lt hb8.size
    have H8 := Lib.hid (And.intro (hb7.trans (hb8.mono hb7.size)) (And.intro (kc7.below hb8 kc7.lt) (And.intro (km7.below hb8 km7.lt) (And.intro (hg7.below hb8) (And.intro ((hx7.below hb8).mono hb8.size) (And.intro (kr7.below hb8 kr7.lt) (And.intro (hr7.below hb8) hres2)))))))
    clear hb7 kc7 km7 hg7 hx7 kr7 hr7 hb8 hv hgd hxd hod hres2 H7 a0 a1 a2 a3 m0 m1 r3 HN6
    go_upto_region 18 with (fail)
    refine wp_gen (fun W => Below w.heap.size w W ∧ Blk W w.heap.size [.slice arsA ars.length arsC, .int .i64 regs, .int .i64 spills, .slice codeA cd.length codeC] 25 ∧ Blk W Y1.heap.size [.slice qa ms.length cq, .slice ca cx.length cc] 31 ∧ GridR W qa ms ∧ (RowB W.heap.size W 1 ca cx.length fun j _ => .int .u32 (cx.getD j 0)) ∧
        Blk W W5.heap.size [.slice qb s.arr.length cqb, .slice cb s.ctx.length ccb, .slice ob s.out.length ocb, .int .i64 s.steps] 49 ∧ ResAt W s.arr s.ctx s.out s.steps (.agg #[.slice qb s.arr.length cqb, .slice cb s.ctx.length ccb, .slice ob s.out.length ocb, .int .i64 s.steps]) ∧
        Blk W W8.heap.size [.slice qd s.arr.length cqd, .slice cd2 s.ctx.length ccd, .slice od s.out.length ocd, .int .i64 s.steps] 49 ∧ ResAt W s.arr s.ctx s.out s.steps (.agg #[.slice qd s.arr.length cqd, .slice cd2 s.ctx.length ccd, .slice od s.out.length ocd, .int .i64 s.steps])) ?_ ?_
    · have hbb : Below W8.heap.size W8 (W8.alloc (.cells #[.slice qd s.arr.length cqd, .slice cd2 s.ctx.length ccd, .slice od s.out.length ocd, .int .i64 s.steps] 49)) := (Below.refl _ _).alloc (Nat.le_refl _) _
      obtain ⟨hb5, kc5, km5, hg5, hx5, kr5, hr5, hq5⟩ := H8.out
      exact ⟨hb5.trans (hbb.mono hb5.size), kc5.below hbb kc5.lt, km5.below hbb km5.lt, hg5.below hbb, (hx5.below hbb).mono hbb.size, kr5.below hbb kr5.lt, hr5.below hbb, heap_new1 _ _, hq5.below hbb⟩
    clear H8
    rintro W9 ⟨hb9, kc9, km9, hg9, hx9, kr9, hr9, ks9, hs9⟩
    have r0 : W9.cell? ⟨W5.heap.size, 0, none⟩ = some (.slice qb s.arr.length cqb) := kr9.cell 0
    have r1 : W9.cell? ⟨W5.heap.size, 0 + 1, none⟩ = some (.slice cb s.ctx.length ccb) := kr9.cell 1
    have r2 : W9.cell? ⟨W5.heap.size, 0 + 1 + 1, none⟩ = some (.slice ob s.out.length ocb) := kr9.cell 2
    have r3 : W9.cell? ⟨W5.heap.size, 0 + 1 + 1 + 1, none⟩ = some (.int .i64 s.steps) := kr9.cell 3
    have s0 : W9.cell? ⟨W8.heap.size, 0, none⟩ = some (.slice qd s.arr.length cqd) := ks9.cell 0
    have s1 : W9.cell? ⟨W8.heap.size, 0 + 1, none⟩ = some (.slice cd2 s.ctx.length ccd) := ks9.cell 1
    have s2 : W9.cell? ⟨W8.heap.size, 0 + 1 + 1, none⟩ = some (.slice od s.out.length ocd) := ks9.cell 2
    have s3 : W9.cell? ⟨W8.heap.size, 0 + 1 + 1 + 1, none⟩ = some (.int .i64 s.steps) := ks9.cell 3
    have HSA := Lib.hid (same_run _ _ s.steps s.arr s.ctx s.out W9 hr9 hs9 (by have := HL3.out.1; omega) (by have := HL3.out.2.1; omega) (fun a ha => by have := HL3.out.2.2 a ha; omega))
    have H9 := Lib.hid (And.intro hb9 (And.intro kc9 (And.intro km9 (And.intro hg9 (And.intro hx9 kr9)))))
    clear hb9 kc9 km9 hg9 hx9 kr9 hr9 ks9 hs9
    go_wp2_with fail
    refine HSA.out.mono ?_
    rintro e WA ⟨rfl, hbA⟩
    obtain ⟨hb9, kc9, km9, hg9, hx9, kr9⟩ := H9.out
    have kcA := kc9.below hbA kc9.lt
    have kmA := km9.below hbA km9.lt
    have krA := kr9.below hbA kr9.lt
    have a0 : WA.cell? ⟨w.heap.size, 0, none⟩ = some (.slice arsA ars.length arsC) := kcA.cell 0
    have a1 : WA.cell? ⟨w.heap.size, 0 + 1, none⟩ = some (.int .i64 regs) := kcA.cell 1
    have a2 : WA.cell? ⟨w.heap.size, 0 + 1 + 1, none⟩ = some (.int .i64 spills) := kcA.cell 2
    have a3 : WA.cell? ⟨w.heap.size, 0 + 1 + 1 + 1, none⟩ = some (.slice codeA cd.length codeC) := kcA.cell 3
    have m0 : WA.cell? ⟨Y1.heap.size, 0, none⟩ = some (.slice qa ms.length cq) := kmA.cell 0
    have m1 : WA.cell? ⟨Y1.heap.size, 0 + 1, none⟩ = some (.slice ca cx.length cc) := kmA.cell 1
    have r3 : WA.cell? ⟨W5.heap.size, 3, none⟩ = some (.int .i64 s.steps) := krA.cell 3
    have HA := Lib.hid (And.intro (hb9.trans (hbA.mono hb9.size)) (And.intro (hg9.below hbA) ((hx9.below hbA).mono hbA.size)))
    clear hb9 kc9 km9 hg9 hx9 kr9 hbA kcA kmA krA H9 HSA r0 r1 r2 s0 s1 s2 s3
    by_cases h0 : s.steps = 0
    · have p3 : (s.steps == 0) = true := by simpa using h0
      clear h0 a0 a1 a2 a3 m0 m1 HN7
      go_wp2_with fail
      refine (awake_true WA).mono ?_
      rintro e WB ⟨rfl, hbB⟩
      have HB := Lib.hid (HA.out.1.trans (hbB.mono HA.out.1.size))
      clear hbB
      go_wp2
      go_ret
      exact ⟨rfl, HB.out⟩
    · have p3 : (s.steps == 0) = false := by simpa using h0
      have hpos : 0 < s.steps := by omega
      have HN := Lib.hid (HN7.out hpos)
      clear h0 HN7
      go_wp2_with fail
      refine (HRU.out WA HA.out.1 qa cq ca cc _ HA.out.2.1 HA.out.2.2).mono ?_
      rintro e WB ⟨hbB, hst⟩
      rw [HN.out] at hst
      replace hst : e = .returned (.tuple #[.agg #[.slice none 0 0, .slice none 0 0, .slice none 0 0, .int .i64 0], .int .i64 19]) := hst
      subst hst
      have HB := Lib.hid (HA.out.1.trans (hbB.mono HA.out.1.size))
      clear hbB a0 a1 a2 a3 m0 m1 r3
      go_upto_region 23 with (fail)
      refine wp_gen (fun W => Below w.heap.size w W) (HB.out.alloc HB.out.size _) ?_
      intro WC hbC
      have HC := Lib.hid hbC
      clear hbC HB
      go_wp2_with fail
      refine (awake_true WC).mono ?_
      rintro e WD ⟨rfl, hbD⟩
      have HD := Lib.hid (HC.out.trans (hbD.mono HC.out.size))
      clear hbD
      go_wp2
      go_ret
      exact ⟨rfl, HD.out⟩
set_option maxRecDepth 100000 in
set_option maxHeartbeats 1000000 in
theorem needs_b (arsA codeA : Option Addr) (arsC codeC : Nat) (ars : List Ar) (regs spills : Int) (cd : List RI) (input : Int) (ended : Bool) (t : T) (w : World)
    (hA : RowB w.heap.size w 2 arsA ars.length fun i j => (ars.getD i default).cell j) (hC : RowB w.heap.size w 5 codeA cd.length fun i j => (cd.getD i default).cell j) (ok : CodeOk ars regs spills cd) (hi : u32 input)
    (hfew : fewB ars cd = true) (hchk : (chkCode ars regs spills cd).2 = 0) (ht : cd = t.flat ∧ t.wf false 8) (b er : Int) (hbe : boundRes (chkCode ars regs spills cd).2 (t.bd 0) = (b, er)) (q1 : (er == 0) = true) (q2 : decide (b < 4000) = false) (hb0 : 0 ≤ b)
    (h19 : machRun ars regs spills cd (zeros ars) (List.replicate 16 0) input ended 4000 = .error 19 → 4000 = (4000 : Int)) :
    Calls Try.prog 5 #[.agg #[.slice arsA ars.length arsC, .int .i64 regs, .int .i64 spills, .slice codeA cd.length codeC], .int .u32 input, .bool ended] w fun e w' => e = .returned (.bool true) ∧ Below w.heap.size w w' := by
  have hW : Below w.heap.size w (w.alloc (.cells #[.slice arsA ars.length arsC, .int .i64 regs, .int .i64 spills, .slice codeA cd.length codeC] 25)) := (Below.refl _ _).alloc (Nat.le_refl _) _
  have hF := few_any arsA codeA arsC codeC regs spills ars cd _ ((hA.below hW).mono hW.size)
  rw [hfew] at hF
  have HF := Lib.hid hF
  have HW := Lib.hid hW
  have G := chk_good hchk
  obtain ⟨ms, hms⟩ : ∃ ms, zeros ars = ms := ⟨_, rfl⟩
  obtain ⟨cx, hcx⟩ : ∃ cx : List Int, List.replicate 16 0 = cx := ⟨_, rfl⟩
  have hzf := zeros_fit G.hars
  have hzu := zeros_u32 ars
  have hzl := zeros_len G.hars
  have hcu := u32s_rep 16
  have hcl : (List.replicate 16 (0 : Int)).length = 16 := List.length_replicate
  have HST := Lib.hid (fun W (hb : Below w.heap.size w W) => Start_any arsA codeA arsC codeC ars regs spills cd W ((hA.below hb).mono hb.size) ((hC.below hb).mono hb.size) ok.la ok.lc ok.arg)
  have HBO := Lib.hid (fun W (hb : Below w.heap.size w W) => Bound_any arsA codeA arsC codeC ars regs spills cd t W ((hA.below hb).mono hb.size) ((hC.below hb).mono hb.size) ok.la ok.lc ok.arg (fun _ => ht))
  unfold StartPost at HST
  rw [hms, hcx] at HST h19
  rw [hcx] at hcu
  rw [hms] at hzf hzu hzl
  rw [hcx] at hcl
  rw [hbe] at HBO
  dsimp only at HBO
  rw [← hcl] at hzf
  have hAl : ars.length ≤ 9223372036854775806 := by have := G.hnA; omega
  have HFI := Lib.hid (fun W (hb : Below w.heap.size w W) qa cq ca cc n arr (hg : GridR W qa arr) (hl : ∀ a ∈ arr, a.length ≤ 65536) => fitsR arsA qa ca arsC cq cc n ars arr W ((hA.below hb).mono hb.size) hg hAl (fun a ha => by have := hl a ha; omega))
  have HRU := Lib.hid (fun W (hb : Below w.heap.size w W) qa cq ca cc F (hg : GridR W qa ms) (hx : RowB W.heap.size W 1 ca cx.length fun j _ => .int .u32 (cx.getD j 0)) =>
    Run_is arsA codeA qa ca arsC codeC cq cc ars regs spills cd ms cx input ended F W ((hA.below hb).mono hb.size) ((hC.below hb).mono hb.size) hg hx hAl ok.lc ok.arg (fun a ha => by have := hzl a ha; omega) hzu hcu hi)
  have HFU := Lib.hid (fun (s : PS) F (h : machRun ars regs spills cd ms cx input ended F = .ok s) => mach_fuel ok.arg hzu hcu hi h)
  have HSM := Lib.hid G.hars
  have HCK := Lib.hid hchk
  have H19 := Lib.hid h19
  clear hW hF hA hC ok hi hfew ht hbe G hms hcx hzf hzu hzl hcu hcl hchk h19
  go_enter Try.func5, Try.ntmps5
  go_wp2_with fail
  refine HF.out.mono ?_
  rintro e W2 ⟨rfl, hb2⟩
  have kc2 : Blk W2 w.heap.size [.slice arsA ars.length arsC, .int .i64 regs, .int .i64 spills, .slice codeA cd.length codeC] 25 := (show Blk (w.alloc _) w.heap.size _ _ from heap_new1 _ _).below hb2 (by simp)
  have H2 := Lib.hid (HW.out.trans (hb2.mono HW.out.size))
  have K2 := Lib.hid kc2
  have a0 : W2.cell? ⟨w.heap.size, 0, none⟩ = some (.slice arsA ars.length arsC) := kc2.cell 0
  have a1 : W2.cell? ⟨w.heap.size, 0 + 1, none⟩ = some (.int .i64 regs) := kc2.cell 1
  have a2 : W2.cell? ⟨w.heap.size, 0 + 1 + 1, none⟩ = some (.int .i64 spills) := kc2.cell 2
  have a3 : W2.cell? ⟨w.heap.size, 0 + 1 + 1 + 1, none⟩ = some (.slice codeA cd.length codeC) := kc2.cell 3
  clear hb2 HF kc2 HW
  go_wp2_with fail
  refine (HST.out W2 H2.out).mono ?_
  rintro e Y1 ⟨hbY, hst⟩
  rw [if_pos HCK.out] at hst
  obtain ⟨v, rfl, hmv⟩ := hst
  obtain ⟨qa, cq, ca, cc, rfl, hg, hx⟩ := hmv Y1 (fun _ _ => rfl)
  have H3 := Lib.hid (And.intro (H2.out.trans (hbY.mono H2.out.size)) (And.intro (K2.out.below hbY K2.out.lt) (And.intro hg.toR hx.row)))
  have hlt : w.heap.size < Y1.heap.size := Nat.lt_of_lt_of_le K2.out.lt hbY.size
  clear hbY hg hx a0 a1 a2 a3 hmv K2 H2 HST
  go_upto_region 7 with (fail)
  refine wp_gen (fun W => Below w.heap.size w W ∧ Blk W w.heap.size [.slice arsA ars.length arsC, .int .i64 regs, .int .i64 spills, .slice codeA cd.length codeC] 25 ∧ Blk W Y1.heap.size [.slice qa ms.length cq, .slice ca cx.length cc] 31 ∧ GridR W qa ms ∧ (RowB W.heap.size W 1 ca cx.length fun j _ => .int .u32 (cx.getD j 0))) ?_ ?_
  · have hbb : Below Y1.heap.size Y1 (Y1.alloc (.cells #[.slice qa ms.length cq, .slice ca cx.length cc] 31)) := (Below.refl _ _).alloc (Nat.le_refl _) _
    exact ⟨H3.out.1.trans (hbb.mono H3.out.1.size), H3.out.2.1.below hbb hlt, heap_new1 _ _, H3.out.2.2.1.below hbb, (H3.out.2.2.2.below hbb).mono hbb.size⟩
  clear H3
  rintro W3 ⟨hb3, kc3, km3, hg3, hx3⟩
  have a0 : W3.cell? ⟨w.heap.size, 0, none⟩ = some (.slice arsA ars.length arsC) := kc3.cell 0
  have a1 : W3.cell? ⟨w.heap.size, 0 + 1, none⟩ = some (.int .i64 regs) := kc3.cell 1
  have a2 : W3.cell? ⟨w.heap.size, 0 + 1 + 1, none⟩ = some (.int .i64 spills) := kc3.cell 2
  have a3 : W3.cell? ⟨w.heap.size, 0 + 1 + 1 + 1, none⟩ = some (.slice codeA cd.length codeC) := kc3.cell 3
  have H3 := Lib.hid (And.intro hb3 (And.intro kc3 (And.intro km3 (And.intro hg3 hx3))))
  clear hb3 kc3 km3 hg3 hx3
  go_wp2_with fail
  refine (HBO.out W3 H3.out.1).mono ?_
  rintro e W4 ⟨rfl, hb4⟩
  dsimp only
  obtain ⟨hb3, kc3, km3, hg3, hx3⟩ := H3.out
  have kc4 := kc3.below hb4 kc3.lt
  have km4 := km3.below hb4 km3.lt
  have a0 : W4.cell? ⟨w.heap.size, 0, none⟩ = some (.slice arsA ars.length arsC) := kc4.cell 0
  have a1 : W4.cell? ⟨w.heap.size, 0 + 1, none⟩ = some (.int .i64 regs) := kc4.cell 1
  have a2 : W4.cell? ⟨w.heap.size, 0 + 1 + 1, none⟩ = some (.int .i64 spills) := kc4.cell 2
  have a3 : W4.cell? ⟨w.heap.size, 0 + 1 + 1 + 1, none⟩ = some (.slice codeA cd.length codeC) := kc4.cell 3
  have m0 : W4.cell? ⟨Y1.heap.size, 0, none⟩ = some (.slice qa ms.length cq) := km4.cell 0
  have m1 : W4.cell? ⟨Y1.heap.size, 0 + 1, none⟩ = some (.slice ca cx.length cc) := km4.cell 1
  have hb4' := hb3.trans (hb4.mono hb3.size)
  have H4 := Lib.hid (And.intro hb4' (And.intro kc4 (And.intro km4 (And.intro (hg3.below hb4) ((hx3.below hb4).mono hb4.size)))))
  clear hb3 kc3 km3 hg3 hx3 kc4 km4 hb4 hb4' H3 HBO
  go_wp2_with fail
  refine (HRU.out W4 H4.out.1 qa cq ca cc _ H4.out.2.2.2.1 H4.out.2.2.2.2).mono ?_
  rintro e W5 ⟨hb5, hst⟩
  obtain ⟨hb4, kc4, km4, hg4, hx4⟩ := H4.out
  have H5 := Lib.hid (And.intro (hb4.trans (hb5.mono hb4.size)) (And.intro (kc4.below hb5 kc4.lt) (And.intro (km4.below hb5 km4.lt) (And.intro (hg4.below hb5) ((hx4.below hb5).mono hb5.size)))))
  clear hb4 kc4 km4 hg4 hx4 H4 a0 a1 a2 a3 m0 m1
  cases hr : machRun ars regs spills cd ms cx input ended 4000 with
  | error n =>
    rw [hr] at hst
    replace hst : e = .returned (.tuple #[.agg #[.slice none 0 0, .slice none 0 0, .slice none 0 0, .int .i64 0], .int .i64 n]) := hst
    subst hst
    have hn0 := NeedsErr hr
    by_cases hn : n = 19
    · subst hn
      have hd : ((4000 : Int) == 4000) = true := by first | rfl | exact beq_iff_eq.2 (H19.out hr)
      have HB5 := Lib.hid hb5
      clear hr hn0 hb5
      go_upto_region 12 with (fail)
      refine wp_gen (fun W => Below w.heap.size w W) (H5.out.1.alloc H5.out.1.size _) ?_
      intro W6 hb6
      have H6 := Lib.hid hb6
      clear hb6 H5
      go_wp2_with fail
      refine (awake_true W6).mono ?_
      rintro e W7 ⟨rfl, hb7⟩
      have H7 := Lib.hid (H6.out.trans (hb7.mono H6.out.size))
      clear hb7
      go_wp2
      go_ret
      exact ⟨rfl, H7.out⟩
    · have hd : (n == 19) = false := by simpa using hn
      have hd2 : (n != 0) = true := by simpa using hn0
      clear hr hn0 hb5 hn
      go_upto_region 14 with (fail)
      refine wp_gen (fun W => Below w.heap.size w W) (H5.out.1.alloc H5.out.1.size _) ?_
      intro W6 hb6
      have H6 := Lib.hid hb6
      clear hb6 H5
      go_wp2_with fail
      refine (awake_true W6).mono ?_
      rintro e W7 ⟨rfl, hb7⟩
      have H7 := Lib.hid (H6.out.trans (hb7.mono H6.out.size))
      clear hb7
      go_wp2
      go_ret
      exact ⟨rfl, H7.out⟩
  | ok s =>
    rw [hr] at hst
    obtain ⟨v, rfl, hv⟩ := hst
    obtain ⟨qb, cqb, cb, ccb, ob, ocb, rfl, hgb, hxb, hob⟩ := (hv W5 (fun _ _ => rfl) rfl).res
    have hres : ResAt W5 s.arr s.ctx s.out s.steps (.agg #[.slice qb s.arr.length cqb, .slice cb s.ctx.length ccb, .slice ob s.out.length ocb, .int .i64 s.steps]) := ⟨qb, cqb, cb, ccb, ob, ocb, rfl, hgb, hxb, hob⟩
    obtain ⟨n1, n2, n3, n4, n5, n6, n7⟩ := HFU.out s _ hr
    obtain ⟨l1, l2, l3⟩ := fits_small n3 HSM.out
    have HRES := Lib.hid (And.intro hres (And.intro hgb hxb))
    have HNF := Lib.hid n3
    have HN6 := Lib.hid n6
    have HN7 := Lib.hid n7
    have HL3 := Lib.hid (And.intro l1 (And.intro l2 l3))
    have p1 : decide (s.steps < 0) = false := by simp; omega
    have p2 : decide (4000 < s.steps) = false := by simp; omega
    have n8 : s.steps ≤ 4000 := by
      first
        | omega
        | (have : b < 4000 := by simpa using q2
           omega)
    have hl5 : Y1.heap.size < W5.heap.size := H5.out.2.2.1.lt
    clear hb5 hv hgb hxb hob hres n2 n3 n4 n5 n6 n7 l1 l2 l3 hr H19 HSM HFU
    go_upto_region 15 with (fail)
    refine wp_gen (fun W => Below w.heap.size w W ∧ Blk W w.heap.size [.slice arsA ars.length arsC, .int .i64 regs, .int .i64 spills, .slice codeA cd.length codeC] 25 ∧ Blk W Y1.heap.size [.slice qa ms.length cq, .slice ca cx.length cc] 31 ∧ GridR W qa ms ∧ (RowB W.heap.size W 1 ca cx.length fun j _ => .int .u32 (cx.getD j 0)) ∧
        Blk W W5.heap.size [.slice qb s.arr.length cqb, .slice cb s.ctx.length ccb, .slice ob s.out.length ocb, .int .i64 s.steps] 49 ∧ ResAt W s.arr s.ctx s.out s.steps (.agg #[.slice qb s.arr.length cqb, .slice cb s.ctx.length ccb, .slice ob s.out.length ocb, .int .i64 s.steps]) ∧ GridR W qb s.arr) ?_ ?_
    · have hbb : Below W5.heap.size W5 (W5.alloc (.cells #[.slice qb s.arr.length cqb, .slice cb s.ctx.length ccb, .slice ob s.out.length ocb, .int .i64 s.steps] 49)) := (Below.refl _ _).alloc (Nat.le_refl _) _
      obtain ⟨hb5, kc5, km5, hg5, hx5⟩ := H5.out
      exact ⟨hb5.trans (hbb.mono hb5.size), kc5.below hbb kc5.lt, km5.below hbb km5.lt, hg5.below hbb, (hx5.below hbb).mono hbb.size, heap_new1 _ _, HRES.out.1.below hbb, HRES.out.2.1.below hbb⟩
    clear H5 HRES
    rintro W6 ⟨hb6, kc6, km6, hg6, hx6, kr6, hr6, hq6⟩
    have a0 : W6.cell? ⟨w.heap.size, 0, none⟩ = some (.slice arsA ars.length arsC) := kc6.cell 0
    have r0 : W6.cell? ⟨W5.heap.size, 0, none⟩ = some (.slice qb s.arr.length cqb) := kr6.cell 0
    have r1 : W6.cell? ⟨W5.heap.size, 0 + 1, none⟩ = some (.slice cb s.ctx.length ccb) := kr6.cell 1
    have r3 : W6.cell? ⟨W5.heap.size, 3, none⟩ = some (.int .i64 s.steps) := kr6.cell 3
    have hfit := HFI.out W6 hb6 qb cqb cb ccb s.ctx.length s.arr hq6 HL3.out.2.2
    rw [HNF.out] at hfit
    have HFIT := Lib.hid hfit
    have H6 := Lib.hid (And.intro hb6 (And.intro kc6 (And.intro km6 (And.intro hg6 (And.intro hx6 (And.intro kr6 hr6))))))
    clear hb6 kc6 km6 hg6 hx6 kr6 hr6 hq6 hfit
    go_wp2_with fail
    refine HFIT.out.mono ?_
    rintro e W7 ⟨rfl, hb7⟩
    obtain ⟨hb6, kc6, km6, hg6, hx6, kr6, hr6⟩ := H6.out
    have kc7 := kc6.below hb7 kc6.lt
    have km7 := km6.below hb7 km6.lt
    have kr7 := kr6.below hb7 kr6.lt
    have a0 : W7.cell? ⟨w.heap.size, 0, none⟩ = some (.slice arsA ars.length arsC) := kc7.cell 0
    have a1 : W7.cell? ⟨w.heap.size, 0 + 1, none⟩ = some (.int .i64 regs) := kc7.cell 1
    have a2 : W7.cell? ⟨w.heap.size, 0 + 1 + 1, none⟩ = some (.int .i64 spills) := kc7.cell 2
    have a3 : W7.cell? ⟨w.heap.size, 0 + 1 + 1 + 1, none⟩ = some (.slice codeA cd.length codeC) := kc7.cell 3
    have m0 : W7.cell? ⟨Y1.heap.size, 0, none⟩ = some (.slice qa ms.length cq) := km7.cell 0
    have m1 : W7.cell? ⟨Y1.heap.size, 0 + 1, none⟩ = some (.slice ca cx.length cc) := km7.cell 1
    have r3 : W7.cell? ⟨W5.heap.size, 3, none⟩ = some (.int .i64 s.steps) := kr7.cell 3
    have H7 := Lib.hid (And.intro (hb6.trans (hb7.mono hb6.size)) (And.intro kc7 (And.intro km7 (And.intro (hg6.below hb7) (And.intro ((hx6.below hb7).mono hb7.size) (And.intro kr7 (hr6.below hb7)))))))
    clear hb6 kc6 km6 hg6 hx6 kr6 hr6 hb7 kc7 km7 kr7 H6 HFIT HFI r0 r1 p1 p2
    go_wp2_with fail
    refine (HRU.out W7 H7.out.1 qa cq ca cc _ H7.out.2.2.2.1 H7.out.2.2.2.2.1).mono ?_
    rintro e W8 ⟨hb8, hst⟩
    rw [HN6.out] at hst
    obtain ⟨v, rfl, hv⟩ := hst
    obtain ⟨qd, cqd, cd2, ccd, od, ocd, rfl, hgd, hxd, hod⟩ := (hv W8 (fun _ _ => rfl) rfl).res
    have hres2 : ResAt W8 s.arr s.ctx s.out s.steps (.agg #[.slice qd s.arr.length cqd, .slice cd2 s.ctx.length ccd, .slice od s.out.length ocd, .int .i64 s.steps]) := ⟨qd, cqd, cd2, ccd, od, ocd, rfl, hgd, hxd, hod⟩
    obtain ⟨hb7, kc7, km7, hg7, hx7, kr7, hr7⟩ := H7.out
    have hl8 : W5.heap.size < W8.heap.size := Nat.lt_of_lt_of_le kr7.lt hb8.size
    have H8 := Lib.hid (And.intro (hb7.trans (hb8.mono hb7.size)) (And.intro (kc7.below hb8 kc7.lt) (And.intro (km7.below hb8 km7.lt) (And.intro (hg7.below hb8) (And.intro ((hx7.below hb8).mono hb8.size) (And.intro (kr7.below hb8 kr7.lt) (And.intro (hr7.below hb8) hres2)))))))
    clear hb7 kc7 km7 hg7 hx7 kr7 hr7 hb8 hv hgd hxd hod hres2 H7 a0 a1 a2 a3 m0 m1 r3 HN6
    go_upto_region 18 with (fail)
    refine wp_gen (fun W => Below w.heap.size w W ∧ Blk W w.heap.size [.slice arsA ars.length arsC, .int .i64 regs, .int .i64 spills, .slice codeA cd.length codeC] 25 ∧ Blk W Y1.heap.size [.slice qa ms.length cq, .slice ca cx.length cc] 31 ∧ GridR W qa ms ∧ (RowB W.heap.size W 1 ca cx.length fun j _ => .int .u32 (cx.getD j 0)) ∧
        Blk W W5.heap.size [.slice qb s.arr.length cqb, .slice cb s.ctx.length ccb, .slice ob s.out.length ocb, .int .i64 s.steps] 49 ∧ ResAt W s.arr s.ctx s.out s.steps (.agg #[.slice qb s.arr.length cqb, .slice cb s.ctx.length ccb, .slice ob s.out.length ocb, .int .i64 s.steps]) ∧
        Blk W W8.heap.size [.slice qd s.arr.length cqd, .slice cd2 s.ctx.length ccd, .slice od s.out.length ocd, .int .i64 s.steps] 49 ∧ ResAt W s.arr s.ctx s.out s.steps (.agg #[.slice qd s.arr.length cqd, .slice cd2 s.ctx.length ccd, .slice od s.out.length ocd, .int .i64 s.steps])) ?_ ?_
    · have hbb : Below W8.heap.size W8 (W8.alloc (.cells #[.slice qd s.arr.length cqd, .slice cd2 s.ctx.length ccd, .slice od s.out.length ocd, .int .i64 s.steps] 49)) := (Below.refl _ _).alloc (Nat.le_refl _) _
      obtain ⟨hb5, kc5, km5, hg5, hx5, kr5, hr5, hq5⟩ := H8.out
      exact ⟨hb5.trans (hbb.mono hb5.size), kc5.below hbb kc5.lt, km5.below hbb km5.lt, hg5.below hbb, (hx5.below hbb).mono hbb.size, kr5.below hbb kr5.lt, hr5.below hbb, heap_new1 _ _, hq5.below hbb⟩
    clear H8
    rintro W9 ⟨hb9, kc9, km9, hg9, hx9, kr9, hr9, ks9, hs9⟩
    have r0 : W9.cell? ⟨W5.heap.size, 0, none⟩ = some (.slice qb s.arr.length cqb) := kr9.cell 0
    have r1 : W9.cell? ⟨W5.heap.size, 0 + 1, none⟩ = some (.slice cb s.ctx.length ccb) := kr9.cell 1
    have r2 : W9.cell? ⟨W5.heap.size, 0 + 1 + 1, none⟩ = some (.slice ob s.out.length ocb) := kr9.cell 2
    have r3 : W9.cell? ⟨W5.heap.size, 0 + 1 + 1 + 1, none⟩ = some (.int .i64 s.steps) := kr9.cell 3
    have s0 : W9.cell? ⟨W8.heap.size, 0, none⟩ = some (.slice qd s.arr.length cqd) := ks9.cell 0
    have s1 : W9.cell? ⟨W8.heap.size, 0 + 1, none⟩ = some (.slice cd2 s.ctx.length ccd) := ks9.cell 1
    have s2 : W9.cell? ⟨W8.heap.size, 0 + 1 + 1, none⟩ = some (.slice od s.out.length ocd) := ks9.cell 2
    have s3 : W9.cell? ⟨W8.heap.size, 0 + 1 + 1 + 1, none⟩ = some (.int .i64 s.steps) := ks9.cell 3
    have HSA := Lib.hid (same_run _ _ s.steps s.arr s.ctx s.out W9 hr9 hs9 (by have := HL3.out.1; omega) (by have := HL3.out.2.1; omega) (fun a ha => by have := HL3.out.2.2 a ha; omega))
    have H9 := Lib.hid (And.intro hb9 (And.intro kc9 (And.intro km9 (And.intro hg9 (And.intro hx9 kr9)))))
    clear hb9 kc9 km9 hg9 hx9 kr9 hr9 ks9 hs9
    go_wp2_with fail
    refine HSA.out.mono ?_
    rintro e WA ⟨rfl, hbA⟩
    obtain ⟨hb9, kc9, km9, hg9, hx9, kr9⟩ := H9.out
    have kcA := kc9.below hbA kc9.lt
    have kmA := km9.below hbA km9.lt
    have krA := kr9.below hbA kr9.lt
    have a0 : WA.cell? ⟨w.heap.size, 0, none⟩ = some (.slice arsA ars.length arsC) := kcA.cell 0
    have a1 : WA.cell? ⟨w.heap.size, 0 + 1, none⟩ = some (.int .i64 regs) := kcA.cell 1
    have a2 : WA.cell? ⟨w.heap.size, 0 + 1 + 1, none⟩ = some (.int .i64 spills) := kcA.cell 2
    have a3 : WA.cell? ⟨w.heap.size, 0 + 1 + 1 + 1, none⟩ = some (.slice codeA cd.length codeC) := kcA.cell 3
    have m0 : WA.cell? ⟨Y1.heap.size, 0, none⟩ = some (.slice qa ms.length cq) := kmA.cell 0
    have m1 : WA.cell? ⟨Y1.heap.size, 0 + 1, none⟩ = some (.slice ca cx.length cc) := kmA.cell 1
    have r3 : WA.cell? ⟨W5.heap.size, 3, none⟩ = some (.int .i64 s.steps) := krA.cell 3
    have HA := Lib.hid (And.intro (hb9.trans (hbA.mono hb9.size)) (And.intro (hg9.below hbA) ((hx9.below hbA).mono hbA.size)))
    clear hb9 kc9 km9 hg9 hx9 kr9 hbA kcA kmA krA H9 HSA r0 r1 r2 s0 s1 s2 s3
    by_cases h0 : s.steps = 0
    · have p3 : (s.steps == 0) = true := by simpa using h0
      clear h0 a0 a1 a2 a3 m0 m1 HN7
      go_wp2_with fail
      refine (awake_true WA).mono ?_
      rintro e WB ⟨rfl, hbB⟩
      have HB := Lib.hid (HA.out.1.trans (hbB.mono HA.out.1.size))
      clear hbB
      go_wp2
      go_ret
      exact ⟨rfl, HB.out⟩
    · have p3 : (s.steps == 0) = false := by simpa using h0
      have hpos : 0 < s.steps := by omega
      have HN := Lib.hid (HN7.out hpos)
      clear h0 HN7
      go_wp2_with fail
      refine (HRU.out WA HA.out.1 qa cq ca cc _ HA.out.2.1 HA.out.2.2).mono ?_
      rintro e WB ⟨hbB, hst⟩
      rw [HN.out] at hst
      replace hst : e = .returned (.tuple #[.agg #[.slice none 0 0, .slice none 0 0, .slice none 0 0, .int .i64 0], .int .i64 19]) := hst
      subst hst
      have HB := Lib.hid (HA.out.1.trans (hbB.mono HA.out.1.size))
      clear hbB a0 a1 a2 a3 m0 m1 r3
      go_upto_region 23 with (fail)
      refine wp_gen (fun W => Below w.heap.size w W) (HB.out.alloc HB.out.size _) ?_
      intro WC hbC
      have HC := Lib.hid hbC
      clear hbC HB
      go_wp2_with fail
      refine (awake_true WC).mono ?_
      rintro e WD ⟨rfl, hbD⟩
      have HD := Lib.hid (HC.out.trans (hbD.mono HC.out.size))
      clear hbD
      go_wp2
      go_ret
      exact ⟨rfl, HD.out⟩
set_option maxRecDepth 100000 in
set_option maxHeartbeats 1000000 in
theorem needs_c (arsA codeA : Option Addr) (arsC codeC : Nat) (ars : List Ar) (regs spills : Int) (cd : List RI) (input : Int) (ended : Bool) (t : T) (w : World)
    (hA : RowB w.heap.size w 2 arsA ars.length fun i j => (ars.getD i default).cell j) (hC : RowB w.heap.size w 5 codeA cd.length fun i j => (cd.getD i default).cell j) (ok : CodeOk ars regs spills cd) (hi : u32 input)
    (hfew : fewB ars cd = true) (hchk : (chkCode ars regs spills cd).2 = 0) (ht : cd = t.flat ∧ t.wf false 8) (b er : Int) (hbe : boundRes (chkCode ars regs spills cd).2 (t.bd 0) = (b, er)) (q1 : (er == 0) = true) (q2 : decide (b < 4000) = true) (hb0 : 0 ≤ b)
    (h19 : machRun ars regs spills cd (zeros ars) (List.replicate 16 0) input ended b = .error 19 → b = (4000 : Int)) :
    Calls Try.prog 5 #[.agg #[.slice arsA ars.length arsC, .int .i64 regs, .int .i64 spills, .slice codeA cd.length codeC], .int .u32 input, .bool ended] w fun e w' => e = .returned (.bool true) ∧ Below w.heap.size w w' := by
  have hW : Below w.heap.size w (w.alloc (.cells #[.slice arsA ars.length arsC, .int .i64 regs, .int .i64 spills, .slice codeA cd.length codeC] 25)) := (Below.refl _ _).alloc (Nat.le_refl _) _
  have hF := few_any arsA codeA arsC codeC regs spills ars cd _ ((hA.below hW).mono hW.size)
  rw [hfew] at hF
  have HF := Lib.hid hF
  have HW := Lib.hid hW
  have G := chk_good hchk
  obtain ⟨ms, hms⟩ : ∃ ms, zeros ars = ms := ⟨_, rfl⟩
  obtain ⟨cx, hcx⟩ : ∃ cx : List Int, List.replicate 16 0 = cx := ⟨_, rfl⟩
  have hzf := zeros_fit G.hars
  have hzu := zeros_u32 ars
  have hzl := zeros_len G.hars
  have hcu := u32s_rep 16
  have hcl : (List.replicate 16 (0 : Int)).length = 16 := List.length_replicate
  have HST := Lib.hid (fun W (hb : Below w.heap.size w W) => Start_any arsA codeA arsC codeC ars regs spills cd W ((hA.below hb).mono hb.size) ((hC.below hb).mono hb.size) ok.la ok.lc ok.arg)
  have HBO := Lib.hid (fun W (hb : Below w.heap.size w W) => Bound_any arsA codeA arsC codeC ars regs spills cd t W ((hA.below hb).mono hb.size) ((hC.below hb).mono hb.size) ok.la ok.lc ok.arg (fun _ => ht))
  unfold StartPost at HST
  rw [hms, hcx] at HST h19
  rw [hcx] at hcu
  rw [hms] at hzf hzu hzl
  rw [hcx] at hcl
  rw [hbe] at HBO
  dsimp only at HBO
  rw [← hcl] at hzf
  have hAl : ars.length ≤ 9223372036854775806 := by have := G.hnA; omega
  have HFI := Lib.hid (fun W (hb : Below w.heap.size w W) qa cq ca cc n arr (hg : GridR W qa arr) (hl : ∀ a ∈ arr, a.length ≤ 65536) => fitsR arsA qa ca arsC cq cc n ars arr W ((hA.below hb).mono hb.size) hg hAl (fun a ha => by have := hl a ha; omega))
  have HRU := Lib.hid (fun W (hb : Below w.heap.size w W) qa cq ca cc F (hg : GridR W qa ms) (hx : RowB W.heap.size W 1 ca cx.length fun j _ => .int .u32 (cx.getD j 0)) =>
    Run_is arsA codeA qa ca arsC codeC cq cc ars regs spills cd ms cx input ended F W ((hA.below hb).mono hb.size) ((hC.below hb).mono hb.size) hg hx hAl ok.lc ok.arg (fun a ha => by have := hzl a ha; omega) hzu hcu hi)
  have HFU := Lib.hid (fun (s : PS) F (h : machRun ars regs spills cd ms cx input ended F = .ok s) => mach_fuel ok.arg hzu hcu hi h)
  have HSM := Lib.hid G.hars
  have HCK := Lib.hid hchk
  have H19 := Lib.hid h19
  clear hW hF hA hC ok hi hfew ht hbe G hms hcx hzf hzu hzl hcu hcl hchk h19
  go_enter Try.func5, Try.ntmps5
  go_wp2_with fail
  refine HF.out.mono ?_
  rintro e W2 ⟨rfl, hb2⟩
  have kc2 : Blk W2 w.heap.size [.slice arsA ars.length arsC, .int .i64 regs, .int .i64 spills, .slice codeA cd.length codeC] 25 := (show Blk (w.alloc _) w.heap.size _ _ from heap_new1 _ _).below hb2 (by simp)
  have H2 := Lib.hid (HW.out.trans (hb2.mono HW.out.size))
  have K2 := Lib.hid kc2
  have a0 : W2.cell? ⟨w.heap.size, 0, none⟩ = some (.slice arsA ars.length arsC) := kc2.cell 0
  have a1 : W2.cell? ⟨w.heap.size, 0 + 1, none⟩ = some (.int .i64 regs) := kc2.cell 1
  have a2 : W2.cell? ⟨w.heap.size, 0 + 1 + 1, none⟩ = some (.int .i64 spills) := kc2.cell 2
  have a3 : W2.cell? ⟨w.heap.size, 0 + 1 + 1 + 1, none⟩ = some (.slice codeA cd.length codeC) := kc2.cell 3
  clear hb2 HF kc2 HW
  go_wp2_with fail
  refine (HST.out W2 H2.out).mono ?_
  rintro e Y1 ⟨hbY, hst⟩
  rw [if_pos HCK.out] at hst
  obtain ⟨v, rfl, hmv⟩ := hst
  obtain ⟨qa, cq, ca, cc, rfl, hg, hx⟩ := hmv Y1 (fun _ _ => rfl)
  have H3 := Lib.hid (And.intro (H2.out.trans (hbY.mono H2.out.size)) (And.intro (K2.out.below hbY K2.out.lt) (And.intro hg.toR hx.row)))
  have hlt : w.heap.size < Y1.heap.size := Nat.lt_of_lt_of_le K2.out.lt hbY.size
  clear hbY hg hx a0 a1 a2 a3 hmv K2 H2 HST
  go_upto_region 7 with (fail)
  refine wp_gen (fun W => Below w.heap.size w W ∧ Blk W w.heap.size [.slice arsA ars.length arsC, .int .i64 regs, .int .i64 spills, .slice codeA cd.length codeC] 25 ∧ Blk W Y1.heap.size [.slice qa ms.length cq, .slice ca cx.length cc] 31 ∧ GridR W qa ms ∧ (RowB W.heap.size W 1 ca cx.length fun j _ => .int .u32 (cx.getD j 0))) ?_ ?_
  · have hbb : Below Y1.heap.size Y1 (Y1.alloc (.cells #[.slice qa ms.length cq, .slice ca cx.length cc] 31)) := (Below.refl _ _).alloc (Nat.le_refl _) _
    exact ⟨H3.out.1.trans (hbb.mono H3.out.1.size), H3.out.2.1.below hbb hlt, heap_new1 _ _, H3.out.2.2.1.below hbb, (H3.out.2.2.2.below hbb).mono hbb.size⟩
  clear H3
  rintro W3 ⟨hb3, kc3, km3, hg3, hx3⟩
  have a0 : W3.cell? ⟨w.heap.size, 0, none⟩ = some (.slice arsA ars.length arsC) := kc3.cell 0
  have a1 : W3.cell? ⟨w.heap.size, 0 + 1, none⟩ = some (.int .i64 regs) := kc3.cell 1
  have a2 : W3.cell? ⟨w.heap.size, 0 + 1 + 1, none⟩ = some (.int .i64 spills) := kc3.cell 2
  have a3 : W3.cell? ⟨w.heap.size, 0 + 1 + 1 + 1, none⟩ = some (.slice codeA cd.length codeC) := kc3.cell 3
  have H3 := Lib.hid (And.intro hb3 (And.intro kc3 (And.intro km3 (And.intro hg3 hx3))))
  clear hb3 kc3 km3 hg3 hx3
  go_wp2_with fail
  refine (HBO.out W3 H3.out.1).mono ?_
  rintro e W4 ⟨rfl, hb4⟩
  dsimp only
  obtain ⟨hb3, kc3, km3, hg3, hx3⟩ := H3.out
  have kc4 := kc3.below hb4 kc3.lt
  have km4 := km3.below hb4 km3.lt
  have a0 : W4.cell? ⟨w.heap.size, 0, none⟩ = some (.slice arsA ars.length arsC) := kc4.cell 0
  have a1 : W4.cell? ⟨w.heap.size, 0 + 1, none⟩ = some (.int .i64 regs) := kc4.cell 1
  have a2 : W4.cell? ⟨w.heap.size, 0 + 1 + 1, none⟩ = some (.int .i64 spills) := kc4.cell 2
  have a3 : W4.cell? ⟨w.heap.size, 0 + 1 + 1 + 1, none⟩ = some (.slice codeA cd.length codeC) := kc4.cell 3
  have m0 : W4.cell? ⟨Y1.heap.size, 0, none⟩ = some (.slice qa ms.length cq) := km4.cell 0
  have m1 : W4.cell? ⟨Y1.heap.size, 0 + 1, none⟩ = some (.slice ca cx.length cc) := km4.cell 1
  have hb4' := hb3.trans (hb4.mono hb3.size)
  have H4 := Lib.hid (And.intro hb4' (And.intro kc4 (And.intro km4 (And.intro (hg3.below hb4) ((hx3.below hb4).mono hb4.size)))))
  clear hb3 kc3 km3 hg3 hx3 kc4 km4 hb4 hb4' H3 HBO
  go_wp2_with fail
  refine (HRU.out W4 H4.out.1 qa cq ca cc _ H4.out.2.2.2.1 H4.out.2.2.2.2).mono ?_
  rintro e W5 ⟨hb5, hst⟩
  obtain ⟨hb4, kc4, km4, hg4, hx4⟩ := H4.out
  have H5 := Lib.hid (And.intro (hb4.trans (hb5.mono hb4.size)) (And.intro (kc4.below hb5 kc4.lt) (And.intro (km4.below hb5 km4.lt) (And.intro (hg4.below hb5) ((hx4.below hb5).mono hb5.size)))))
  clear hb4 kc4 km4 hg4 hx4 H4 a0 a1 a2 a3 m0 m1
  cases hr : machRun ars regs spills cd ms cx input ended b with
  | error n =>
    rw [hr] at hst
    replace hst : e = .returned (.tuple #[.agg #[.slice none 0 0, .slice none 0 0, .slice none 0 0, .int .i64 0], .int .i64 n]) := hst
    subst hst
    have hn0 := NeedsErr hr
    by_cases hn : n = 19
    · subst hn
      have hd : ((b : Int) == 4000) = true := by first | rfl | exact beq_iff_eq.2 (H19.out hr)
      have HB5 := Lib.hid hb5
      clear hr hn0 hb5
      go_upto_region 12 with (fail)
      refine wp_gen (fun W => Below w.heap.size w W) (H5.out.1.alloc H5.out.1.size _) ?_
      intro W6 hb6
      have H6 := Lib.hid hb6
      clear hb6 H5
      go_wp2_with fail
      refine (awake_true W6).mono ?_
      rintro e W7 ⟨rfl, hb7⟩
      have H7 := Lib.hid (H6.out.trans (hb7.mono H6.out.size))
      clear hb7
      go_wp2
      go_ret
      exact ⟨rfl, H7.out⟩
    · have hd : (n == 19) = false := by simpa using hn
      have hd2 : (n != 0) = true := by simpa using hn0
      clear hr hn0 hb5 hn
      go_upto_region 14 with (fail)
      refine wp_gen (fun W => Below w.heap.size w W) (H5.out.1.alloc H5.out.1.size _) ?_
      intro W6 hb6
      have H6 := Lib.hid hb6
      clear hb6 H5
      go_wp2_with fail
      refine (awake_true W6).mono ?_
      rintro e W7 ⟨rfl, hb7⟩
      have H7 := Lib.hid (H6.out.trans (hb7.mono H6.out.size))
      clear hb7
      go_wp2
      go_ret
      exact ⟨rfl, H7.out⟩
  | ok s =>
    rw [hr] at hst
    obtain ⟨v, rfl, hv⟩ := hst
    obtain ⟨qb, cqb, cb, ccb, ob, ocb, rfl, hgb, hxb, hob⟩ := (hv W5 (fun _ _ => rfl) rfl).res
    have hres : ResAt W5 s.arr s.ctx s.out s.steps (.agg #[.slice qb s.arr.length cqb, .slice cb s.ctx.length ccb, .slice ob s.out.length ocb, .int .i64 s.steps]) := ⟨qb, cqb, cb, ccb, ob, ocb, rfl, hgb, hxb, hob⟩
    obtain ⟨n1, n2, n3, n4, n5, n6, n7⟩ := HFU.out s _ hr
    obtain ⟨l1, l2, l3⟩ := fits_small n3 HSM.out
    have HRES := Lib.hid (And.intro hres (And.intro hgb hxb))
    have HNF := Lib.hid n3
    have HN6 := Lib.hid n6
    have HN7 := Lib.hid n7
    have HL3 := Lib.hid (And.intro l1 (And.intro l2 l3))
    have p1 : decide (s.steps < 0) = false := by simp; omega
    have p2 : decide (b < s.steps) = false := by simp; omega
    have n8 : s.steps ≤ 4000 := by
      first
        | omega
        | (have : b < 4000 := by simpa using q2
           omega)
    have hl5 : Y1.heap.size < W5.heap.size := H5.out.2.2.1.lt
    clear hb5 hv hgb hxb hob hres n2 n3 n4 n5 n6 n7 l1 l2 l3 hr H19 HSM HFU
    go_upto_region 15 with (fail)
    refine wp_gen (fun W => Below w.heap.size w W ∧ Blk W w.heap.size [.slice arsA ars.length arsC, .int .i64 regs, .int .i64 spills, .slice codeA cd.length codeC] 25 ∧ Blk W Y1.heap.size [.slice qa ms.length cq, .slice ca cx.length cc] 31 ∧ GridR W qa ms ∧ (RowB W.heap.size W 1 ca cx.length fun j _ => .int .u32 (cx.getD j 0)) ∧
        Blk W W5.heap.size [.slice qb s.arr.length cqb, .slice cb s.ctx.length ccb, .slice ob s.out.length ocb, .int .i64 s.steps] 49 ∧ ResAt W s.arr s.ctx s.out s.steps (.agg #[.slice qb s.arr.length cqb, .slice cb s.ctx.length ccb, .slice ob s.out.length ocb, .int .i64 s.steps]) ∧ GridR W qb s.arr) ?_ ?_
    · have hbb : Below W5.heap.size W5 (W5.alloc (.cells #[.slice qb s.arr.length cqb, .slice cb s.ctx.length ccb, .slice ob s.out.length ocb, .int .i64 s.steps] 49)) := (Below.refl _ _).alloc (Nat.le_refl _) _
      obtain ⟨hb5, kc5, km5, hg5, hx5⟩ := H5.out
      exact ⟨hb5.trans (hbb.mono hb5.size), kc5.below hbb kc5.lt, km5.below hbb km5.lt, hg5.below hbb, (hx5.below hbb).mono hbb.size, heap_new1 _ _, HRES.out.1.below hbb, HRES.out.2.1.below hbb⟩
    clear H5 HRES
    rintro W6 ⟨hb6, kc6, km6, hg6, hx6, kr6, hr6, hq6⟩
    have a0 : W6.cell? ⟨w.heap.size, 0, none⟩ = some (.slice arsA ars.length arsC) := kc6.cell 0
    have r0 : W6.cell? ⟨W5.heap.size, 0, none⟩ = some (.slice qb s.arr.length cqb) := kr6.cell 0
    have r1 : W6.cell? ⟨W5.heap.size, 0 + 1, none⟩ = some (.slice cb s.ctx.length ccb) := kr6.cell 1
    have r3 : W6.cell? ⟨W5.heap.size, 3, none⟩ = some (.int .i64 s.steps) := kr6.cell 3
    have hfit := HFI.out W6 hb6 qb cqb cb ccb s.ctx.length s.arr hq6 HL3.out.2.2
    rw [HNF.out] at hfit
    have HFIT := Lib.hid hfit
    have H6 := Lib.hid (And.intro hb6 (And.intro kc6 (And.intro km6 (And.intro hg6 (And.intro hx6 (And.intro kr6 hr6))))))
    clear hb6 kc6 km6 hg6 hx6 kr6 hr6 hq6 hfit
    go_wp2_with fail
    refine HFIT.out.mono ?_
    rintro e W7 ⟨rfl, hb7⟩
    obtain ⟨hb6, kc6, km6, hg6, hx6, kr6, hr6⟩ := H6.out
    have kc7 := kc6.below hb7 kc6.lt
    have km7 := km6.below hb7 km6.lt
    have kr7 := kr6.below hb7 kr6.lt
    have a0 : W7.cell? ⟨w.heap.size, 0, none⟩ = some (.slice arsA ars.length arsC) := kc7.cell 0
    have a1 : W7.cell? ⟨w.heap.size, 0 + 1, none⟩ = some (.int .i64 regs) := kc7.cell 1
    have a2 : W7.cell? ⟨w.heap.size, 0 + 1 + 1, none⟩ = some (.int .i64 spills) := kc7.cell 2
    have a3 : W7.cell? ⟨w.heap.size, 0 + 1 + 1 + 1, none⟩ = some (.slice codeA cd.length codeC) := kc7.cell 3
    have m0 : W7.cell? ⟨Y1.heap.size, 0, none⟩ = some (.slice qa ms.length cq) := km7.cell 0
    have m1 : W7.cell? ⟨Y1.heap.size, 0 + 1, none⟩ = some (.slice ca cx.length cc) := km7.cell 1
    have r3 : W7.cell? ⟨W5.heap.size, 3, none⟩ = some (.int .i64 s.steps) := kr7.cell 3
    have H7 := Lib.hid (And.intro (hb6.trans (hb7.mono hb6.size)) (And.intro kc7 (And.intro km7 (And.intro (hg6.below hb7) (And.intro ((hx6.below hb7).mono hb7.size) (And.intro kr7 (hr6.below hb7)))))))
    clear hb6 kc6 km6 hg6 hx6 kr6 hr6 hb7 kc7 km7 kr7 H6 HFIT HFI r0 r1 p1 p2
    go_wp2_with fail
    refine (HRU.out W7 H7.out.1 qa cq ca cc _ H7.out.2.2.2.1 H7.out.2.2.2.2.1).mono ?_
    rintro e W8 ⟨hb8, hst⟩
    rw [HN6.out] at hst
    obtain ⟨v, rfl, hv⟩ := hst
    obtain ⟨qd, cqd, cd2, ccd, od, ocd, rfl, hgd, hxd, hod⟩ := (hv W8 (fun _ _ => rfl) rfl).res
    have hres2 : ResAt W8 s.arr s.ctx s.out s.steps (.agg #[.slice qd s.arr.length cqd, .slice cd2 s.ctx.length ccd, .slice od s.out.length ocd, .int .i64 s.steps]) := ⟨qd, cqd, cd2, ccd, od, ocd, rfl, hgd, hxd, hod⟩
    obtain ⟨hb7, kc7, km7, hg7, hx7, kr7, hr7⟩ := H7.out
    have hl8 : W5.heap.size < W8.heap.size := Nat.lt_of_lt_of_le kr7.lt hb8.size
    have H8 := Lib.hid (And.intro (hb7.trans (hb8.mono hb7.size)) (And.intro (kc7.below hb8 kc7.lt) (And.intro (km7.below hb8 km7.lt) (And.intro (hg7.below hb8) (And.intro ((hx7.below hb8).mono hb8.size) (And.intro (kr7.below hb8 kr7.lt) (And.intro (hr7.below hb8) hres2)))))))
    clear hb7 kc7 km7 hg7 hx7 kr7 hr7 hb8 hv hgd hxd hod hres2 H7 a0 a1 a2 a3 m0 m1 r3 HN6
    go_upto_region 18 with (fail)
    refine wp_gen (fun W => Below w.heap.size w W ∧ Blk W w.heap.size [.slice arsA ars.length arsC, .int .i64 regs, .int .i64 spills, .slice codeA cd.length codeC] 25 ∧ Blk W Y1.heap.size [.slice qa ms.length cq, .slice ca cx.length cc] 31 ∧ GridR W qa ms ∧ (RowB W.heap.size W 1 ca cx.length fun j _ => .int .u32 (cx.getD j 0)) ∧
        Blk W W5.heap.size [.slice qb s.arr.length cqb, .slice cb s.ctx.length ccb, .slice ob s.out.length ocb, .int .i64 s.steps] 49 ∧ ResAt W s.arr s.ctx s.out s.steps (.agg #[.slice qb s.arr.length cqb, .slice cb s.ctx.length ccb, .slice ob s.out.length ocb, .int .i64 s.steps]) ∧
        Blk W W8.heap.size [.slice qd s.arr.length cqd, .slice cd2 s.ctx.length ccd, .slice od s.out.length ocd, .int .i64 s.steps] 49 ∧ ResAt W s.arr s.ctx s.out s.steps (.agg #[.slice qd s.arr.length cqd, .slice cd2 s.ctx.length ccd, .slice od s.out.length ocd, .int .i64 s.steps])) ?_ ?_
    · have hbb : Below W8.heap.size W8 (W8.alloc (.cells #[.slice qd s.arr.length cqd, .slice cd2 s.ctx.length ccd, .slice od s.out.length ocd, .int .i64 s.steps] 49)) := (Below.refl _ _).alloc (Nat.le_refl _) _
      obtain ⟨hb5, kc5, km5, hg5, hx5, kr5, hr5, hq5⟩ := H8.out
      exact ⟨hb5.trans (hbb.mono hb5.size), kc5.below hbb kc5.lt, km5.below hbb km5.lt, hg5.below hbb, (hx5.below hbb).mono hbb.size, kr5.below hbb kr5.lt, hr5.below hbb, heap_new1 _ _, hq5.below hbb⟩
    clear H8
    rintro W9 ⟨hb9, kc9, km9, hg9, hx9, kr9, hr9, ks9, hs9⟩
    have r0 : W9.cell? ⟨W5.heap.size, 0, none⟩ = some (.slice qb s.arr.length cqb) := kr9.cell 0
    have r1 : W9.cell? ⟨W5.heap.size, 0 + 1, none⟩ = some (.slice cb s.ctx.length ccb) := kr9.cell 1
    have r2 : W9.cell? ⟨W5.heap.size, 0 + 1 + 1, none⟩ = some (.slice ob s.out.length ocb) := kr9.cell 2
    have r3 : W9.cell? ⟨W5.heap.size, 0 + 1 + 1 + 1, none⟩ = some (.int .i64 s.steps) := kr9.cell 3
    have s0 : W9.cell? ⟨W8.heap.size, 0, none⟩ = some (.slice qd s.arr.length cqd) := ks9.cell 0
    have s1 : W9.cell? ⟨W8.heap.size, 0 + 1, none⟩ = some (.slice cd2 s.ctx.length ccd) := ks9.cell 1
    have s2 : W9.cell? ⟨W8.heap.size, 0 + 1 + 1, none⟩ = some (.slice od s.out.length ocd) := ks9.cell 2
    have s3 : W9.cell? ⟨W8.heap.size, 0 + 1 + 1 + 1, none⟩ = some (.int .i64 s.steps) := ks9.cell 3
    have HSA := Lib.hid (same_run _ _ s.steps s.arr s.ctx s.out W9 hr9 hs9 (by have := HL3.out.1; omega) (by have := HL3.out.2.1; omega) (fun a ha => by have := HL3.out.2.2 a ha; omega))
    have H9 := Lib.hid (And.intro hb9 (And.intro kc9 (And.intro km9 (And.intro hg9 (And.intro hx9 kr9)))))
    clear hb9 kc9 km9 hg9 hx9 kr9 hr9 ks9 hs9
    go_wp2_with fail
    refine HSA.out.mono ?_
    rintro e WA ⟨rfl, hbA⟩
    obtain ⟨hb9, kc9, km9, hg9, hx9, kr9⟩ := H9.out
    have kcA := kc9.below hbA kc9.lt
    have kmA := km9.below hbA km9.lt
    have krA := kr9.below hbA kr9.lt
    have a0 : WA.cell? ⟨w.heap.size, 0, none⟩ = some (.slice arsA ars.length arsC) := kcA.cell 0
    have a1 : WA.cell? ⟨w.heap.size, 0 + 1, none⟩ = some (.int .i64 regs) := kcA.cell 1
    have a2 : WA.cell? ⟨w.heap.size, 0 + 1 + 1, none⟩ = some (.int .i64 spills) := kcA.cell 2
    have a3 : WA.cell? ⟨w.heap.size, 0 + 1 + 1 + 1, none⟩ = some (.slice codeA cd.length codeC) := kcA.cell 3
    have m0 : WA.cell? ⟨Y1.heap.size, 0, none⟩ = some (.slice qa ms.length cq) := kmA.cell 0
    have m1 : WA.cell? ⟨Y1.heap.size, 0 + 1, none⟩ = some (.slice ca cx.length cc) := kmA.cell 1
    have r3 : WA.cell? ⟨W5.heap.size, 3, none⟩ = some (.int .i64 s.steps) := krA.cell 3
    have HA := Lib.hid (And.intro (hb9.trans (hbA.mono hb9.size)) (And.intro (hg9.below hbA) ((hx9.below hbA).mono hbA.size)))
    clear hb9 kc9 km9 hg9 hx9 kr9 hbA kcA kmA krA H9 HSA r0 r1 r2 s0 s1 s2 s3
    by_cases h0 : s.steps = 0
    · have p3 : (s.steps == 0) = true := by simpa using h0
      clear h0 a0 a1 a2 a3 m0 m1 HN7
      go_wp2_with fail
      refine (awake_true WA).mono ?_
      rintro e WB ⟨rfl, hbB⟩
      have HB := Lib.hid (HA.out.1.trans (hbB.mono HA.out.1.size))
      clear hbB
      go_wp2
      go_ret
      exact ⟨rfl, HB.out⟩
    · have p3 : (s.steps == 0) = false := by simpa using h0
      have hpos : 0 < s.steps := by omega
      have HN := Lib.hid (HN7.out hpos)
      clear h0 HN7
      go_wp2_with fail
      refine (HRU.out WA HA.out.1 qa cq ca cc _ HA.out.2.1 HA.out.2.2).mono ?_
      rintro e WB ⟨hbB, hst⟩
      rw [HN.out] at hst
      replace hst : e = .returned (.tuple #[.agg #[.slice none 0 0, .slice none 0 0, .slice none 0 0, .int .i64 0], .int .i64 19]) := hst
      subst hst
      have HB := Lib.hid (HA.out.1.trans (hbB.mono HA.out.1.size))
      clear hbB a0 a1 a2 a3 m0 m1 r3
      go_upto_region 23 with (fail)
      refine wp_gen (fun W => Below w.heap.size w W) (HB.out.alloc HB.out.size _) ?_
      intro WC hbC
      have HC := Lib.hid hbC
      clear hbC HB
      go_wp2_with fail
      refine (awake_true WC).mono ?_
      rintro e WD ⟨rfl, hbD⟩
      have HD := Lib.hid (HC.out.trans (hbD.mono HC.out.size))
      clear hbD
      go_wp2
      go_ret
      exact ⟨rfl, HD.out⟩
end Go.Proofs.Ytefdnjhhaejgbaa

namespace Go.Proofs.Ytefdnjhhaejgbaa
open Go.RowKit
set_option linter.unusedVariables false

theorem run_append_empty {P : Program} {w : World} {base size : Nat} {t ty e : TypeId} {i : TypeInfo} (ht : P.underlying t = some (.slice e)) (hi : P.info? e = some i) {v : Value} {n : Nat} {xs : List Value} (hown : w.ownsRow base e size v n xs) (xa : Option Addr) (c : Nat) :
    (Builtin.append_ #[t, t] ty #[v, .slice xa 0 c]).run P w = .ok v w := by
  rcases hown.2 with ⟨rfl, rfl⟩ | ⟨g, cap, cur, rfl, _, _, hnc, _⟩
  · cases xa <;> simp [Builtin.append_, run_underlying ht, sizeOf, typeInfo, hi, Builtin.lenOf, Builtin.firstCells, loadCells, loadCellsFrom, storeCells]
  · cases xa <;> simp [Builtin.append_, run_underlying ht, sizeOf, typeInfo, hi, Builtin.lenOf, Builtin.firstCells, hnc, loadCells, loadCellsFrom, storeCells]

/-- 'append(s, x...)', s being nil or the call's own -/
theorem wpList_app_row {P : Program} {t e : TypeId} {z : Value} {bytes : Nat} (E : ElT P t e z 1 bytes) {w : World} {ops : Array Oper} {rest : List Oper} {o : Oper} {a : Act} {Q : Exit → Act → World → Prop}
    (hgd : o.guard = none) (s x : Operand) (ho : o.op = .call { callee := .builtin .append, args := #[s, x], argTypes := #[t, t] })
    (base : Nat) (v : Value) (n : Nat) (xs : List Value) (hs : a.eval s = v) (hown : w.ownsRow base e 1 v n xs)
    (xa : Option Addr) (m c : Nat) (f : Nat → Value) (hx : a.eval x = .slice xa m c) (hrow : RowB w.heap.size w 1 xa m fun j _ => f j) (h1 : ∀ j, (f j).oneCell' = true) (hbytes : (n + m) * bytes ≤ 140737488355328) (hbase : base ≤ w.heap.size)
    (h : ∀ va cap w', w'.ownsRow base e 1 (.slice va (n + m) cap) (n + m) (xs ++ (List.range m).map f) → w.grownBy w' v.ownBlock → ((Value.slice va (n + m) cap).ownBlock = v.ownBlock ∨ (Value.slice va (n + m) cap).ownBlock = some w.heap.size) →
      wpList P ops Q rest (a.put o.dst (.slice va (n + m) cap)) w') : wpList P ops Q (o :: rest) a w := by
  obtain ⟨i, hi, hz, h2, h3⟩ := info_parts E.info
  have hm : n + m ≤ maxLen := by
    have := Nat.le_mul_of_pos_right (n + m) E.hby
    unfold maxLen
    omega
  by_cases h0 : m = 0
  · subst h0
    have hr := run_append_empty (ty := o.type) E.ht hi hown xa c
    obtain ⟨va, cap, hv⟩ : ∃ va cap, v = .slice va (n + 0) cap := by
      rcases hown.2 with ⟨rfl, rfl⟩ | ⟨g, cap, cur, rfl, _⟩
      · exact ⟨none, 0, rfl⟩
      · exact ⟨_, cap, rfl⟩
    have hk := h va cap w (by rw [← hv]; simpa using hown) ⟨rfl, rfl, rfl, Nat.le_refl _, fun _ _ _ => rfl⟩ (.inl (by rw [hv]))
    refine wpList_plain hgd fun _ hK => ?_
    unfold Oper.wp execOp
    simp only [ho, resolve, invoke, builtin, Sem.run_bind, Sem.run_pure, Result.andThen_ok, List.map_toArray, List.map_cons, List.map_nil, hs, hx, hr]
    rw [hv]
    exact hK _ _ hk
  · obtain ⟨b, off, rfl, _, _⟩ := hrow 0 (by omega)
    refine wpList_append_lies w hgd s x t ho base e i z 1 bytes E.ht hi hz h2 h3 E.hzs E.hsz v n xs hs hown ⟨b, off, none⟩ m c ((List.range m).map f) hx (by simp) (fun j u hj => ?_) (fun u hu => ?_) (by omega) hm hbytes hbase _ rfl ?_
    · rw [List.getElem?_map] at hj
      have hjm : j < m := by
        rcases Nat.lt_or_ge j m with h' | h'
        · exact h'
        · rw [List.getElem?_eq_none (by simpa using h')] at hj; cases hj
      rw [List.getElem?_range hjm] at hj
      cases hj
      obtain ⟨b', off', e', _, h4⟩ := hrow j hjm
      simp only [Option.some.injEq, Addr.mk.injEq] at e'
      obtain ⟨rfl, rfl, _⟩ := e'
      have := h4 0 (by omega)
      rw [addr_add]
      simpa using this
    · simp only [List.mem_map, List.mem_range] at hu
      obtain ⟨j, _, rfl⟩ := hu
      exact h1 j
    · intro g cap w' g1 g2 g3 g4
      refine h _ cap w' g1 g2 ?_
      rcases g3 with g3 | g3
      · exact .inl g3.symm
      · right; rw [g3]; rfl

structure FS where
  arr : List (List Int)
  ctx : List Int
  out : List Int
  steps : Int
def feedStep (ars : List Ar) (regs spills : Int) (cd : List RI) (data : List Int) (fuel : Int) (k : Nat) (a : FS) : Except Int FS :=
  match machRun ars regs spills cd a.arr a.ctx (data.getD k 0) (decide (k = data.length)) (fuel - a.steps) with
  | .error e => .error e
  | .ok s => if 65536 < (a.out ++ s.out).length then .error 5 else .ok ⟨s.arr, s.ctx, a.out ++ s.out, a.steps + s.steps⟩
def feedGo (ars : List Ar) (regs spills : Int) (cd : List RI) (data : List Int) (fuel : Int) : Nat → Nat → FS → Except Int FS
  | 0, _, a => .ok a
  | n + 1, k, a => (feedStep ars regs spills cd data fuel k a).bind (feedGo ars regs spills cd data fuel n (k + 1))
def feedRes (ars : List Ar) (regs spills : Int) (cd : List RI) (data : List Int) (fuel : Int) : Except Int FS :=
  if (chkCode ars regs spills cd).2 ≠ 0 then .error (chkCode ars regs spills cd).2 else if 65536 < data.length then .error 5 else if fuel < 0 ∨ 281474976710656 < fuel then .error 2
  else feedGo ars regs spills cd data fuel (data.length + 1) 0 ⟨zeros ars, List.replicate 16 0, [], 0⟩

structure FGood (ars : List Ar) (fuel : Int) (a : FS) : Prop where
  fit : fitsB ars a.arr a.ctx.length = true
  ua : ∀ x ∈ a.arr, u32s x
  uc : u32s a.ctx
  s0 : 0 ≤ a.steps
  s1 : a.steps ≤ fuel
  ol : a.out.length ≤ 65536

theorem feedStep_good {ars : List Ar} {regs spills : Int} {cd : List RI} {data : List Int} {fuel : Int} {k : Nat} {a b : FS} (harg : ∀ i ∈ cd, 0 ≤ i.arg ∧ i.arg < 4294967296) (hd : ∀ n ∈ data, 0 ≤ n ∧ n < 256) (g : FGood ars fuel a) (h : feedStep ars regs spills cd data fuel k a = .ok b) : FGood ars fuel b := by
  unfold feedStep at h
  split at h
  · cases h
  · rename_i s hs
    split at h
    · cases h
    · rename_i hl
      cases h
      have hi : u32 (data.getD k 0) := by
        rw [List.getD_eq_getElem?_getD]
        cases hk : data[k]? with
        | none => exact ⟨by decide, by decide⟩
        | some x => have := hd x (List.mem_of_getElem? hk); exact ⟨this.1, by simp only [Option.getD_some]; omega⟩
      obtain ⟨n1, n2, n3, n4, n5, _, _⟩ := mach_fuel harg g.ua g.uc hi hs
      have := g.s0
      exact ⟨n3, n4, n5, by show 0 ≤ a.steps + s.steps; omega, by show a.steps + s.steps ≤ fuel; omega, by show (a.out ++ s.out).length ≤ 65536; omega⟩
end Go.Proofs.Ytefdnjhhaejgbaa

namespace Go.Proofs.Ytefdnjhhaejgbaa
open Go.RowKit
set_option linter.unusedVariables false

/-- F holds in every world that agrees with W on the blocks from B to E -/
def Lies (B E : Nat) (W : World) (F : World → Prop) : Prop := ∀ W' : World, E ≤ W'.heap.size → (∀ k, B ≤ k → k < E → W'.heap[k]? = W.heap[k]?) → F W'
theorem Lies.here {B E : Nat} {W : World} {F : World → Prop} (h : Lies B E W F) (hE : E ≤ W.heap.size) : F W := h W hE (fun _ _ _ => rfl)
theorem Lies.move {B E : Nat} {W W' : World} {F : World → Prop} (h : Lies B E W F) (hs : ∀ k, B ≤ k → k < E → W'.heap[k]? = W.heap[k]?) : Lies B E W' F :=
  fun V h1 h2 => h V h1 (fun k a b => (h2 k a b).trans (hs k a b))
theorem Lies.imp {B E : Nat} {W : World} {F G : World → Prop} (h : Lies B E W F) (hi : ∀ W, F W → G W) : Lies B E W G := fun V h1 h2 => hi V (h V h1 h2)

/-- the first n blocks of a world -/
def cutW (W : World) (n : Nat) : World := { W with heap := W.heap.extract 0 n }
theorem cut_size {W : World} {n : Nat} (h : n ≤ W.heap.size) : (cutW W n).heap.size = n := by simp [cutW]; omega
theorem cut_get {W : World} {n k : Nat} (h : n ≤ W.heap.size) (hk : k < n) : (cutW W n).heap[k]? = W.heap[k]? := by
  simp only [cutW, Array.getElem?_extract, Nat.zero_add]
  rw [if_pos (by omega)]
theorem cut_below {W : World} {n : Nat} (h : n ≤ W.heap.size) : Below (cutW W n).heap.size (cutW W n) W :=
  ⟨rfl, rfl, rfl, by rw [cut_size h]; exact h, fun k hk => (cut_get h (by rw [cut_size h] at hk; exact hk)).symm⟩
theorem cut_same {W Y : World} {B : Nat} (hE : Y.heap.size ≤ W.heap.size) (hs : ∀ k, B ≤ k → k < Y.heap.size → W.heap[k]? = Y.heap[k]?) : ∀ k, B ≤ k → (cutW W Y.heap.size).heap[k]? = Y.heap[k]? := by
  intro k hk
  by_cases hk2 : k < Y.heap.size
  · rw [cut_get hE hk2]; exact hs k hk hk2
  · rw [Array.getElem?_eq_none (by rw [cut_size hE]; omega), Array.getElem?_eq_none (by omega)]

def MemRows (qa ca : Option Addr) (arr : List (List Int)) (ctx : List Int) (W : World) : Prop := GridR W qa arr ∧ RowB W.heap.size W 1 ca ctx.length fun j _ => .int .u32 (ctx.getD j 0)
def RunRows (qa ca oa : Option Addr) (s : PS) (W : World) : Prop := MemRows qa ca s.arr s.ctx W ∧ RowB W.heap.size W 1 oa s.out.length fun j _ => .int .u8 (s.out.getD j 0)

theorem RunVal.rows {w : World} {s : PS} {a b o : Option Addr} {n c m d l x : Nat} {st : Int} (h : RunVal w s (.agg #[.slice a n c, .slice b m d, .slice o l x, .int .i64 st])) : RunRows a b o s w := by
  obtain ⟨qa, cq, ca, cc, oa, oc, e, h1, h2, h3⟩ := h
  simp only [Value.agg.injEq, Array.mk.injEq, List.cons.injEq, Value.slice.injEq, and_true] at e
  obtain ⟨⟨rfl, _⟩, ⟨rfl, _⟩, ⟨rfl, _⟩, _⟩ := e
  exact ⟨⟨h1.toR, h2.row⟩, h3⟩

theorem lift_run {B : Nat} {Y : World} {s : PS} {v : Value} (hv : ∀ w2 : World, (∀ k, B ≤ k → w2.heap[k]? = Y.heap[k]?) → w2.heap.size = Y.heap.size → RunVal w2 s v) :
    ∃ qa cq ca cc oa oc, v = .agg #[.slice qa s.arr.length cq, .slice ca s.ctx.length cc, .slice oa s.out.length oc, .int .i64 s.steps] ∧ Lies B Y.heap.size Y (RunRows qa ca oa s) := by
  obtain ⟨qa, cq, ca, cc, oa, oc, rfl, _⟩ := hv Y (fun _ _ => rfl) rfl
  refine ⟨qa, cq, ca, cc, oa, oc, rfl, fun W hE hs => ?_⟩
  obtain ⟨⟨h1, h2⟩, h3⟩ := (hv (cutW W Y.heap.size) (cut_same hE hs) (cut_size hE)).rows
  have hb := cut_below hE
  exact ⟨⟨h1.below hb, (h2.below hb).mono hb.size⟩, (h3.below hb).mono hb.size⟩

theorem lift_copy {Z X : World} {arr : List (List Int)} {ctx : List Int} {e : Ending} (h : CopyPost Z arr ctx e X) :
    ∃ qa cq ca cc, e = .returned (.agg #[.slice qa arr.length cq, .slice ca ctx.length cc]) ∧ Lies Z.heap.size X.heap.size X (MemRows qa ca arr ctx) ∧ Below Z.heap.size Z X := by
  obtain ⟨v, τ, ab, ac, cb, cc, rfl, hgo, ⟨t9, ht9⟩, tcb, hcb, hbX⟩ := h
  obtain ⟨va, vc, rfl⟩ := grid_slice' hgo
  refine ⟨va, vc, some ⟨cb, 0, none⟩, cc, rfl, fun W hE hs => ?_, hbX⟩
  have hb := cut_below hE
  have g1 : GridAt (cutW W X.heap.size) va arr := (hgo.above (cut_same hE hs)).at rfl
  have g2 : NumsAt (cutW W X.heap.size) (some ⟨cb, 0, none⟩) ctx := by
    refine ⟨cb, 0, rfl, fun j hj => ?_⟩
    have ht2 : Blk (cutW W X.heap.size) cb (ints .u32 ctx ++ t9) 42 := by unfold Blk; rw [cut_same hE hs cb hcb]; exact ht9
    rw [Nat.zero_add]
    exact (ht2.cell j).trans (ints_get_app hj)
  exact ⟨g1.toR.below hb, (g2.row.below hb).mono hb.size⟩

/-- execute, its result by machRun -/
theorem exec_is (arsA codeA qa ca : Option Addr) (arsC codeC cq cc : Nat) (ars : List Ar) (regs spills : Int) (cd : List RI) (arr : List (List Int)) (ctx : List Int) (input : Int) (ended : Bool) (fuel : Int) (w : World) (pb : Nat)
    (hchk : (chkCode ars regs spills cd).2 = 0) (harg : ∀ i ∈ cd, 0 ≤ i.arg ∧ i.arg < 4294967296) (hf : fitsB ars arr ctx.length = true) (hF : 0 ≤ fuel ∧ fuel ≤ 281474976710656) (ha : ∀ a ∈ arr, u32s a) (hc : u32s ctx) (hi : u32 input)
    (hpt : Blk w pb (natsV (ptOf cd)) 3) (hars : RowB w.heap.size w 2 arsA ars.length fun i j => (ars.getD i default).cell j) (hcd : RowB w.heap.size w 5 codeA cd.length fun i j => (cd.getD i default).cell j) (hm : MemRows qa ca arr ctx w) :
    Calls Try.prog 39 #[.agg #[.slice arsA ars.length arsC, .int .i64 regs, .int .i64 spills, .slice codeA cd.length codeC], .slice (some ⟨pb, 0, none⟩) cd.length cd.length, .agg #[.slice qa arr.length cq, .slice ca ctx.length cc], .agg #[.int .u32 input, .bool ended, .int .i64 fuel]] w
      (ExecPost w (machRun ars regs spills cd arr ctx input ended fuel)) := by
  have G := chk_good hchk
  obtain ⟨t, R⟩ := good_tree G harg input ended fuel
  rw [mach_is input ended hchk hf hF]
  exact run_exec ars regs spills cd arr ctx input ended fuel _ arsA codeA qa ca arsC codeC cq cc w G (runs_all R (init_inv G hf ha hc hi hF t)) hf pb hpt hpt.lt hars hcd hm.1 hm.2

structure FeedAt (w : World) (cells : List Value) (cd : List RI) (pb ab : Nat) (a : FS) (qa ca oa : Option Addr) (cq cc oc : Nat) (W : World) : Prop where
  bel : Below w.heap.size w W
  code : Blk W w.heap.size cells 25
  res : Blk W (w.heap.size + 1) zeroRun 49
  pt : Blk W pb (natsV (ptOf cd)) 3
  all : Blk W ab [.slice qa a.arr.length cq, .slice ca a.ctx.length cc, .slice oa a.out.length oc, .int .i64 a.steps] 49
  mem : ∃ B E, pb < B ∧ (ab < B ∨ E ≤ ab) ∧ E ≤ W.heap.size ∧ Lies B E W (MemRows qa ca a.arr a.ctx)
  out : W.ownsRow (ab + 1) 5 1 (.slice oa a.out.length oc) a.out.length (ints .u8 a.out)
  l1 : w.heap.size + 1 < pb
  l2 : pb < ab

/-- an old block stays through a call and an append -/
theorem feed_keep {V1 V3 : World} {o : Obj} {row : Option Nat} (hg : (V1.alloc o).drew.grownBy V3 row) {k : Nat} (hk : k < V1.heap.size) (hne : some k ≠ row) : V3.heap[k]? = V1.heap[k]? := by
  rw [hg.block k (by simp [World.drew]; omega) hne]
  exact Below.heap_alloc _ _ _ hk

theorem feed_round {w Wr V0 V1 V3 : World} {cells : List Value} {cd : List RI} {pb ab : Nat} {a : FS} {qa ca oa qb cb ob on : Option Addr} {cq cc oc cqb ccb ocb ocn : Nat} {s : PS} (F : FeedAt w cells cd pb ab a qa ca oa cq cc oc Wr)
    (hb0 : Below Wr.heap.size Wr V0) (hb1 : Below V0.heap.size V0 V1) (hl : Lies V0.heap.size V1.heap.size V1 (RunRows qb cb ob s))
    (hg : (V1.alloc (.cells #[.slice qb s.arr.length cqb, .slice cb s.ctx.length ccb, .slice ob s.out.length ocb, .int .i64 s.steps] 49)).drew.grownBy V3 (Value.slice oa a.out.length oc).ownBlock)
    (hown : V3.ownsRow (ab + 1) 5 1 (.slice on (a.out.length + s.out.length) ocn) (a.out.length + s.out.length) (ints .u8 a.out ++ (List.range s.out.length).map fun j => .int .u8 (s.out.getD j 0)))
    (hat : (Value.slice on (a.out.length + s.out.length) ocn).ownBlock = (Value.slice oa a.out.length oc).ownBlock ∨ (Value.slice on (a.out.length + s.out.length) ocn).ownBlock = some (V1.heap.size + 1)) :
    Blk V3 V1.heap.size [.slice qb s.arr.length cqb, .slice cb s.ctx.length ccb, .slice ob s.out.length ocb, .int .i64 s.steps] 49 ∧
    Blk V3 ab [.slice qa a.arr.length cq, .slice ca a.ctx.length cc, .slice oa a.out.length oc, .int .i64 a.steps] 49 ∧ ab < V1.heap.size ∧
    ∀ V4 : World, (∀ k, k ≠ V1.heap.size → k ≠ ab → V4.heap[k]? = V3.heap[k]?) → V4.heap.size = V3.heap.size → V4.os = V3.os → V4.tape = V3.tape → V4.output = V3.output →
      Blk V4 ab [.slice qb s.arr.length cqb, .slice cb s.ctx.length ccb, .slice on (a.out.length + s.out.length) ocn, .int .i64 (a.steps + s.steps)] 49 →
      FeedAt w cells cd pb ab ⟨s.arr, s.ctx, a.out ++ s.out, a.steps + s.steps⟩ qb cb on cqb ccb ocn V4 := by
  have s0 := hb0.size
  have s1 := hb1.size
  have hab := F.all.lt
  have hpb := F.l2
  have hw := F.l1
  have hrow : ∀ x, (Value.slice oa a.out.length oc).ownBlock = some x → ab + 1 ≤ x ∧ x < Wr.heap.size := fun x hx => F.out.lt x hx
  have s3 : V1.heap.size + 1 ≤ V3.heap.size := by have := hg.size; simpa [World.drew] using this
  have hne : ∀ k, k ≤ ab → some k ≠ (Value.slice oa a.out.length oc).ownBlock := fun k hk e => by have := (hrow k e.symm).1; omega
  have old : ∀ k, k ≤ ab → V3.heap[k]? = Wr.heap[k]? := fun k hk => by
    rw [feed_keep hg (by omega) (hne k hk), hb1.block k (by omega), hb0.block k (by omega)]
  have rbox : V3.heap[V1.heap.size]? = some (.cells [.slice qb s.arr.length cqb, .slice cb s.ctx.length ccb, .slice ob s.out.length ocb, .int .i64 s.steps].toArray 49 (0, 0)) := by
    rw [hg.block V1.heap.size (by simp [World.drew]) (fun e => by have := (hrow _ e.symm).2; omega)]
    exact heap_new1 _ _
  refine ⟨rbox, ?_, by omega, fun V4 hk hsz h1 h2 h3 hall => ?_⟩
  · unfold Blk; rw [old ab (Nat.le_refl _)]; exact F.all
  have hlen : (a.out ++ s.out).length = a.out.length + s.out.length := List.length_append
  have hlst : ints .u8 a.out ++ ((List.range s.out.length).map fun j => Value.int .u8 (s.out.getD j 0)) = ints .u8 (a.out ++ s.out) := by
    unfold ints
    rw [List.map_append]
    congr 1
    apply List.ext_getElem
    · simp
    · intro i h1 h2
      simp only [List.getElem_map, List.getElem_range]
      have : i < s.out.length := by simpa using h2
      rw [List.getD_eq_getElem?_getD, List.getElem?_eq_getElem this]; rfl
  have keep4 : ∀ k, k < ab → V4.heap[k]? = Wr.heap[k]? := fun k hk' => by rw [hk k (by omega) (by omega), old k (by omega)]
  refine ⟨⟨?_, ?_, ?_, ?_, ?_⟩, ?_, ?_, ?_, by rw [hlen]; exact hall, ⟨V0.heap.size, V1.heap.size, by omega, .inl (by omega), by omega, ?_⟩, ?_, hw, hpb⟩
  · rw [h1, hg.os, ← F.bel.os, ← hb0.os, ← hb1.os]; rfl
  · rw [h2, hg.tape, ← F.bel.tape, ← hb0.tape, ← hb1.tape]; rfl
  · rw [h3, hg.output, ← F.bel.output, ← hb0.output, ← hb1.output]; rfl
  · have := F.bel.size; omega
  · intro k hk'; rw [keep4 k (by omega), F.bel.block k hk']
  · unfold Blk; rw [keep4 _ (by omega)]; exact F.code
  · unfold Blk; rw [keep4 _ (by omega)]; exact F.res
  · unfold Blk; rw [keep4 _ (by omega)]; exact F.pt
  · refine (hl.imp fun W h => h.1).move fun k h5 h6 => ?_
    rw [hk k (by omega) (by omega), feed_keep hg h6 (fun e => by have := (hrow _ e.symm).2; omega)]
  · rw [hlst] at hown
    rw [hlen]
    refine ⟨hown.1, ?_⟩
    rcases hown.2 with hn | ⟨g, cap, cur, hv, hb, hgg, rest⟩
    · exact .inl hn
    · have hgo : (Value.slice on (a.out.length + s.out.length) ocn).ownBlock = some g := by rw [hv]; rfl
      have hg1 : g ≠ V1.heap.size := by
        rw [hgo] at hat
        rcases hat with e | e
        · have := (hrow g e.symm).2; omega
        · simp only [Option.some.injEq] at e; omega
      refine .inr ⟨g, cap, cur, hv, hb, ?_, rest⟩
      rw [hk g hg1 (by omega)]
      exact hgg
end Go.Proofs.Ytefdnjhhaejgbaa

namespace Go.Proofs.Ytefdnjhhaejgbaa
open Go.RowKit
set_option linter.unusedVariables false

theorem effect_out {c : MC} {s s' : PS} {i : RI} (h : effect c s i = .ok s') :
    (i.op = 34 ∧ s'.out.length = s.out.length + 1 ∧ s.out.length < 65536 ∧ s'.steps = s.steps) ∨ (s'.out = s.out ∧ s.steps ≤ s'.steps) := by
  unfold effect at h
  by_cases h34 : i.op = 34
  · simp only [h34, reduceIte, Int.reduceEq] at h
    split at h
    · rename_i hl
      cases h
      exact .inl ⟨h34, by simp, hl, rfl⟩
    · cases h
  · right
    by_cases h0 : i.op = 0
    · rw [if_pos h0] at h
      cases h; exact ⟨rfl, Int.le_refl _⟩
    rw [if_neg h0] at h
    by_cases h36 : i.op = 36
    · rw [if_pos h36] at h
      cases h; exact ⟨rfl, Int.le_refl _⟩
    rw [if_neg h36] at h
    by_cases h37 : i.op = 37
    · rw [if_pos h37] at h
      cases h; exact ⟨rfl, Int.le_refl _⟩
    rw [if_neg h37] at h
    by_cases h38 : i.op = 38
    · rw [if_pos h38] at h
      cases h; exact ⟨rfl, Int.le_refl _⟩
    rw [if_neg h38] at h
    by_cases h32 : i.op = 32
    · rw [if_pos h32] at h
      cases h; exact ⟨rfl, Int.le_refl _⟩
    rw [if_neg h32] at h
    by_cases h33 : i.op = 33
    · rw [if_pos h33] at h
      cases h; exact ⟨rfl, Int.le_refl _⟩
    rw [if_neg h33] at h
    rw [if_neg h34] at h
    by_cases h35 : i.op = 35
    · rw [if_pos h35] at h
      cases h; exact ⟨rfl, Int.le_refl _⟩
    rw [if_neg h35] at h
    by_cases h3 : i.op = 3
    · rw [if_pos h3] at h
      split at h <;> cases h
      exact ⟨rfl, Int.le_refl _⟩
    rw [if_neg h3] at h
    by_cases h4 : i.op = 4
    · rw [if_pos h4] at h
      split at h <;> cases h
      exact ⟨rfl, Int.le_refl _⟩
    rw [if_neg h4] at h
    by_cases h27 : i.op = 27
    · rw [if_pos h27] at h
      cases h
      split <;> exact ⟨rfl, Int.le_refl _⟩
    rw [if_neg h27] at h
    by_cases h28 : i.op = 28
    · rw [if_pos h28] at h
      cases h; exact ⟨rfl, Int.le_refl _⟩
    rw [if_neg h28] at h
    by_cases h29 : i.op = 29
    · rw [if_pos h29] at h
      unfold tick at h
      split at h
      · cases h
      · split at h
        · cases h; exact ⟨rfl, Int.le_refl _⟩
        · split at h <;> cases h
          refine ⟨rfl, ?_⟩
          show s.steps ≤ s.steps + 1
          omega
    rw [if_neg h29] at h
    by_cases h30 : i.op = 30
    · rw [if_pos h30] at h
      cases h
      split <;> exact ⟨rfl, Int.le_refl _⟩
    rw [if_neg h30] at h
    by_cases h31 : i.op = 31
    · rw [if_pos h31] at h
      unfold tick at h
      split at h
      · cases h; exact ⟨rfl, Int.le_refl _⟩
      · split at h
        · cases h; exact ⟨rfl, Int.le_refl _⟩
        · split at h
          · cases h; exact ⟨rfl, Int.le_refl _⟩
          · split at h <;> cases h
            refine ⟨rfl, ?_⟩
            show s.steps ≤ s.steps + 1
            omega
    rw [if_neg h31] at h
    split at h <;> cases h
    exact ⟨rfl, Int.le_refl _⟩

theorem mstep_out {c : MC} {s s' : PS} (h : mstep c s = .ok s') (h1 : s.out.length ≤ 65536) (h2 : (s.out.length : Int) ≤ s.steps) : s'.out.length ≤ 65536 ∧ (s'.out.length : Int) ≤ s'.steps := by
  unfold mstep at h
  dsimp only at h
  split at h
  · rename_i hop
    unfold tick at h
    split at h
    · simp only [Except.bind] at h
      cases he : effect c { s with steps := s.steps + 1 } (c.cd.getD s.pc default) with
      | error n => rw [he] at h; cases h
      | ok s2 =>
        rw [he] at h
        cases h
        rcases effect_out he with ⟨_, e1, e2, e3⟩ | ⟨e1, e2⟩
        · dsimp only at e1 e2 e3 ⊢
          omega
        · dsimp only at e1 e2 ⊢
          rw [e1]
          exact ⟨h1, by omega⟩
    · cases h
  · rename_i hop
    simp only [Except.bind] at h
    cases he : effect c s (c.cd.getD s.pc default) with
    | error n => rw [he] at h; cases h
    | ok s2 =>
      rw [he] at h
      cases h
      rcases effect_out he with ⟨e0, _⟩ | ⟨e1, e2⟩
      · exact absurd ⟨by rw [e0]; decide, by rw [e0]; decide⟩ hop
      · dsimp only at e1 e2 ⊢
        rw [e1]
        exact ⟨h1, by omega⟩

theorem mrun_out {c : MC} : ∀ (n : Nat) {s s' : PS}, mrun c n s = .ok s' → s.out.length ≤ 65536 → (s.out.length : Int) ≤ s.steps → s'.out.length ≤ 65536 ∧ (s'.out.length : Int) ≤ s'.steps
  | 0, s, s', h, h1, h2 => by cases h; exact ⟨h1, h2⟩
  | n + 1, s, s', h, h1, h2 => by
    rw [mrun] at h
    split at h
    · cases hm : mstep c s with
      | error k => rw [hm] at h; cases h
      | ok s1 =>
        rw [hm] at h
        obtain ⟨g1, g2⟩ := mstep_out hm h1 h2
        exact mrun_out n h g1 g2
    · cases h; exact ⟨h1, h2⟩

theorem mach_out {ars : List Ar} {regs spills : Int} {cd : List RI} {arr : List (List Int)} {ctx : List Int} {input : Int} {ended : Bool} {F : Int} {s : PS} (h : machRun ars regs spills cd arr ctx input ended F = .ok s) : s.out.length ≤ 65536 ∧ (s.out.length : Int) ≤ s.steps := by
  obtain ⟨h1, h2, h3, h4⟩ := mach_ok h
  exact mrun_out _ h4 (Nat.zero_le _) (Int.le_refl _)
end Go.Proofs.Ytefdnjhhaejgbaa

namespace Go.Proofs.Ytefdnjhhaejgbaa
open Go.RowKit
set_option linter.unusedVariables false

set_option maxRecDepth 100000 in
set_option maxHeartbeats 1000000 in
theorem zero_any (qa : Option Addr) (cq : Nat) (ars : List Ar) (w : World) (hars : RowB w.heap.size w 2 qa ars.length fun i j => (ars.getD i default).cell j)
    (hn : ars.length ≤ 8) (h1 : ∀ a ∈ ars, 1 ≤ a.size ∧ a.size ≤ 65536) :
    Calls Try.prog 32 #[.slice qa ars.length cq] w (CopyPost w (zeros ars) (List.replicate 16 0)) := by
  have m16 := run_make_16
  have HARS := Lib.hid hars
  have H1 := Lib.hid h1
  clear hars h1
  have start : ∀ wr, wr = ((w.alloc (.cells #[.slice none 0 0, .slice none 0 0] 31)).alloc (.cells (ints .u32 (List.replicate 16 0)).toArray 42)).alloc (.cells #[.slice none 0 0, .slice (some ⟨w.heap.size + 1, 0, none⟩) 16 16] 31) →
      CopyRel w (zeros ars) (List.replicate 16 0) w.heap.size (w.heap.size + 1 + 1) (w.heap.size + 1) 16 (.int .i64 0) wr := by
    rintro wr rfl
    refine ⟨0, fun x => if x = w.heap.size + 1 then 3 else if x = w.heap.size then 2000 else 2001, fun _ => 0, fun _ => 0, .slice none 0 0, rfl, ⟨by omega, ⟨?_, fun k hk => by simp at hk, fun k hk => by simp at hk, fun g hg => by simp [Value.ownBlock] at hg, fun k hk => by simp at hk⟩, ?_, ?_, ⟨[], ?_⟩, by simp, ?_, ?_, by omega, by omega, by omega, ((((Below.refl _ _).alloc (by simp) _).alloc (by simp) _).alloc (by simp; omega) _)⟩⟩
    · exact World.ownsRow_nil _ _ _ _
    · have := heap_new1 ((w.alloc (.cells #[.slice none 0 0, .slice none 0 0] 31)).alloc (.cells (ints .u32 (List.replicate 16 0)).toArray 42)) (.cells #[.slice none 0 0, .slice (some ⟨w.heap.size + 1, 0, none⟩) 16 16] 31)
      unfold Blk
      simpa using this
    · unfold Blk
      rw [Below.heap_alloc _ _ _ (by simp; omega), Below.heap_alloc _ _ _ (by simp)]
      exact heap_new1 _ _
    · unfold Blk
      rw [Below.heap_alloc _ _ _ (by simp), List.append_nil]
      exact heap_new2 _ _ _
    · rw [if_neg (by omega)]; simp
    · rw [if_neg (by omega), if_neg (by omega)]
  have HST := Lib.hid start
  clear start
  go_enter Try.func32, Try.ntmps32
  go_wp2_with fail
  go_loopw [4] (fun i wr => CopyRel w (zeros ars) (List.replicate 16 0) w.heap.size (w.heap.size + 1 + 1) (w.heap.size + 1) 16 i wr) (fun i _ => ars.length - (intOf i).toNat)
  case atStart => exact HST.out _ rfl
  case round =>
    obtain ⟨k, τ, ab, ac, v, rfl, CA⟩ := hrel
    have hzl : (zeros ars).length = ars.length := by simp [zeros]
    by_cases hk : k < ars.length
    · obtain ⟨b, off, rfl, hb, hcells⟩ := HARS.out k hk
      have hx := H1.out (ars.getD k default) (by rw [List.getD_eq_getElem?_getD, List.getElem?_eq_getElem hk]; exact List.getElem_mem hk)
      have hZ := zeros_take ars k hk
      have c0 : w.cell? ⟨b, off + k * 2 + 0, none⟩ = some ((ars.getD k default).cell 0) := hcells 0 (by omega)
      have c1 : w.cell? ⟨b, off + k * 2 + 1, none⟩ = some ((ars.getD k default).cell 1) := hcells 1 (by omega)
      clear hcells
      generalize hA : ars.getD k default = A at *
      obtain ⟨wd, sz⟩ := A
      obtain ⟨n, rfl⟩ : ∃ n : Nat, sz = (n : Int) := ⟨sz.toNat, by simp at hx; omega⟩
      have hx1 : 1 ≤ n ∧ n ≤ 65536 := by simp at hx; omega
      have hk' := nat_cast_lt hk
      have hbw : b < wr.heap.size := Nat.lt_of_lt_of_le hb CA.bel.size
      have q0 : wr.cell? ⟨b, off + k * 2, none⟩ = some (.bool wd) := by rw [CA.bel.cell (p := ⟨b, off + k * 2, none⟩) hb]; exact c0
      have q1 : wr.cell? ⟨b, off + k * 2 + 1, none⟩ = some (.int .i64 (n : Int)) := by rw [CA.bel.cell (p := ⟨b, off + k * 2 + 1, none⟩) hb]; exact c1
      have mk := run_make_u32 n (by omega)
      have c3 : wr.cell? ⟨w.heap.size + 1 + 1, 0, none⟩ = some v := CA.out.cell 0
      have z3 := CA.out.frozen 0
      have hol := CA.out.lt
      obtain ⟨va, vc, rfl⟩ : ∃ va vc, v = .slice va k vc := by
        have hl : ((zeros ars).take k).length = k := by simp [hzl]; omega
        have hown := CA.grid.own
        rw [hl] at hown
        rcases hown.2 with ⟨h1, h2⟩ | ⟨g, cc, cur, h1, _⟩
        · exact ⟨none, 0, by rw [h1, h2]⟩
        · exact ⟨_, cc, h1⟩
      have HZ := Lib.hid hZ
      have HA := Lib.hid hA
      clear hZ hA c0 c1 hx
      go_wp2_with fail
      refine wp_region_grew [1, 6] [0, 2, 3, 4, 5] [(2, 0), (2, 2), (2, 3), (2, 4), (2, 5), (1, 1), (1, 6), (0, 7), (0, 8), (0, 9), (0, 10), (0, 11)] (by kernel_rfl) (by kernel_rfl) (fun c a d v w h => by cases d <;> exact h) ?_
      simp only [getPlan, List.filterMap_cons, List.filterMap_nil, List.getElem?_toArray, List.getElem?_cons_succ, List.getElem?_cons_zero, Option.map_some]
      repeat ((first | refine wpPlan_pure (fun K hK => ?_) | refine wpPlan_float (fun K hK => ?_)); go_simp; refine hK _ ?_; clear hK K)
      refine wpPlan_keep ?_
      go_wp2_with fail
      refine ⟨grew_below (((Below.refl _ _).drew).alloc (by simp) _), ?_⟩
      refine wpPlan_keep ?_
      go_wp2_with fail
      refine ⟨grew_below ((((Below.refl _ _).drew).alloc (by simp) _).alloc (by simp) _), ?_⟩
      refine wpPlan_gen (fun z => Below wr.heap.size wr z ∧ Blk z (wr.heap.size) (ints .u32 (List.replicate n 0) ++ []) 42 ∧ z.heap[wr.heap.size + 1]? = some (.cells [.slice (some ⟨wr.heap.size, 0, none⟩) n n].toArray 29 (0, 0)) ∧ wr.heap.size + 1 < z.heap.size) ?_ ?_
      · refine ⟨(((Below.refl _ _).alloc (by simp) _).alloc (by simp) _).drew, ?_, ?_, ?_⟩
        · unfold Blk
          rw [drew_heap, Below.heap_alloc _ _ _ (by simp), List.append_nil]
          exact heap_new1 _ _
        · rw [drew_heap]
          have := heap_new1 (wr.alloc (.cells (ints .u32 (List.replicate n 0)).toArray 42)) (.cells #[.slice (some ⟨wr.heap.size, 0, none⟩) n n] 29)
          simpa using this
        · simp
      rintro z ⟨hb5, hblk4, hnew, hs4⟩
      have hl : ((zeros ars).take k).length = k := by simp [hzl]; omega
      have hown4 : z.ownsRow w.heap.size 29 1 (.slice va k vc) k ((List.range k).map fun j => .slice (some ⟨ab j, 0, none⟩) (((zeros ars).take k).getD j []).length (ac j)) := by
        have h9 := CA.grid.own.kept (grownBy_of_below hb5 none) (by cases hv : (Value.slice va ((zeros ars).take k).length vc).ownBlock <;> simp_all)
        rw [hl] at h9
        exact h9
      refine wpPlan_sees (by kernel_rfl) ?_
      refine wpList_app1 Try.elSl rfl _ _ rfl w.heap.size (.slice va k vc) k _ rfl hown4 (wr.heap.size + 1) [.slice (some ⟨wr.heap.size, 0, none⟩) n n] (0, 0) rfl hnew rfl ?_ ?_ ?_ ?_
      · simp [Value.oneCell']
      · omega
      · have := CA.bel.size; omega
      intro g6 c6 w6 hown6 hg5 hat5 hlt6
      have hB := CA.bel.size
      have vto : ∀ x, (Value.slice va k vc).ownBlock = some x → τ x = 4 := CA.grid.to
      have vlt : ∀ x, (Value.slice va k vc).ownBlock = some x → x < wr.heap.size := fun x hx => (CA.grid.own.lt x hx).2
      have hat6 : (Value.slice va k vc).ownBlock = some g6 ∨ z.heap.size ≤ g6 := by
        rcases hat5 with h | h
        · exact .inl h
        · right; omega
      have P := CA.grid.push (List.replicate n 0) hB hb5 hblk4 (by omega) (by rw [hl]; simpa using hown6) hg5 hat6
      rw [hl] at P
      have fr : ∀ y t, y < wr.heap.size → τ y = t → t ≠ 4 → y ≠ wr.heap.size ∧ y ≠ g6 ∧ w6.heap[y]? = wr.heap[y]? := by
        intro y t hy ht hne
        have hne2 : some y ≠ (Value.slice va k vc).ownBlock := fun e => hne (by rw [← ht]; exact vto y e.symm)
        refine ⟨by omega, fun e => ?_, ?_⟩
        · rcases hat6 with h | h
          · exact hne2 (by rw [h, e])
          · omega
        · rw [hg5.block y (by omega) hne2, hb5.block y hy]
      have f3 := fr (w.heap.size + 1 + 1) 2001 hol CA.t3 (by omega)
      have c6' : w6.cell? ⟨w.heap.size + 1 + 1, 0, none⟩ = some (.slice va k vc) := by rw [World.cell?_of_block f3.2.2]; exact c3
      have z6 : w6.frozen? ⟨w.heap.size + 1 + 1, 0, none⟩ = false := by rw [World.frozen?_of_block f3.2.2]; exact z3
      have f2 := fr w.heap.size 2000 CA.res.lt CA.t2 (by omega)
      have fc := fr (w.heap.size + 1) 3 (by obtain ⟨t, ht⟩ := CA.ctx; exact ht.lt) CA.tc (by omega)
      have rel : CopyRel w (zeros ars) (List.replicate 16 0) w.heap.size (w.heap.size + 1 + 1) (w.heap.size + 1) 16 (.int .i64 ((k : Int) + 1)) (w6.setCell ⟨w.heap.size + 1 + 1, 0, none⟩ (.slice (some ⟨g6, 0, none⟩) (k + 1) c6)) := by
        have hP2 := P.foreign (by simp [hzl]; omega) (y := w.heap.size + 1 + 1) (by show 1000 ≤ (if _ then _ else if _ then _ else _); rw [if_neg f3.1, if_neg f3.2.1, CA.t3]; omega) 0 (.slice (some ⟨g6, 0, none⟩) (k + 1) c6)
        have hne : ∀ y, y ≠ w.heap.size + 1 + 1 → (w6.setCell ⟨w.heap.size + 1 + 1, 0, none⟩ (.slice (some ⟨g6, 0, none⟩) (k + 1) c6)).heap[y]? = w6.heap[y]? := fun y hy => Below.heap_setCell _ _ _ _ hy
        refine ⟨k + 1, _, _, _, _, by simp, ⟨by omega, by rw [HZ.out]; exact hP2, ?_, ?_, ?_, by show (if _ then _ else if _ then _ else _) = _; rw [if_neg fc.1, if_neg fc.2.1]; exact CA.tc, by show (if _ then _ else if _ then _ else _) = _; rw [if_neg f2.1, if_neg f2.2.1]; exact CA.t2, by show (if _ then _ else if _ then _ else _) = _; rw [if_neg f3.1, if_neg f3.2.1]; exact CA.t3, CA.bc, CA.b2, CA.b3, ?_⟩⟩
        · have o6 : Blk w6 (w.heap.size + 1 + 1) [.slice va k vc, .slice (some ⟨w.heap.size + 1, 0, none⟩) (List.replicate 16 (0 : Int)).length 16] 31 := by unfold Blk; rw [f3.2.2]; exact CA.out
          exact o6.set 0 _
        · unfold Blk; rw [hne _ (by omega), f2.2.2]; exact CA.res
        · obtain ⟨t, ht⟩ := CA.ctx
          exact ⟨t, by unfold Blk; rw [hne _ (by omega), fc.2.2]; exact ht⟩
        · exact ((CA.bel.trans (hb5.mono hB)).trans (below_grown hg5 (by omega) (fun x hx => (CA.grid.own.lt x hx).1))).setCell CA.b3 _
      have HREL := Lib.hid rel
      clear fr P hown6 hg5 hat6 hat5 hown4 f3 f2 fc c3 z3 rel hb5 hblk4 hnew vto vlt q0 q1
      go_wp2
      refine wpPlan_tail (by kernel_rfl) ?_
      simp only [List.map_cons, List.map_nil]
      go_wp2
      go_roundw
      case rel => exact HREL.out
      case measure => simp [intOf]; omega
    · have hkk : k = ars.length := by have := CA.le; omega
      subst hkk
      obtain ⟨va, vc, rfl⟩ : ∃ va vc, v = .slice va ars.length vc := by
        have hown := CA.grid.own
        rw [← hzl, List.take_length] at hown
        rw [← hzl]
        rcases hown.2 with ⟨h1, h2⟩ | ⟨g, cc, cur, h1, _⟩
        · exact ⟨none, 0, by rw [h1, h2]⟩
        · exact ⟨_, cc, h1⟩
      have c0 : wr.cell? ⟨w.heap.size + 1 + 1, 0, none⟩ = some (.slice va ars.length vc) := CA.out.cell 0
      have c1 : wr.cell? ⟨w.heap.size + 1 + 1, 0 + 1, none⟩ = some (.slice (some ⟨w.heap.size + 1, 0, none⟩) 16 16) := CA.out.cell 1
      have y0 : wr.cell? ⟨w.heap.size, 0, none⟩ = some (.slice none 0 0) := CA.res.cell 0
      have y1 : wr.cell? ⟨w.heap.size, 0 + 1, none⟩ = some (.slice none 0 0) := CA.res.cell 1
      have z0 := CA.res.frozen 0
      have z1 := CA.res.frozen (0 + 1)
      have HZL := Lib.hid hzl
      clear hzl
      go_wp2
      refine bodyPost_ret (v := .agg #[.slice va ars.length vc, .slice (some ⟨w.heap.size + 1, 0, none⟩) 16 16]) ?_ rfl ?_
      · have e0 := (CA.res.set 0 (.slice va ars.length vc)).set 1 (.slice (some ⟨w.heap.size + 1, 0, none⟩) 16 16)
        have x0 := e0.cell 0
        have x1 := e0.cell 1
        simp only [List.set_cons_zero, List.set_cons_succ, List.getElem?_cons_zero, List.getElem?_cons_succ] at x0 x1
        simp [results, Try.results32, go_sem, x0, x1]
      · have hgr := CA.grid
        rw [← HZL.out, List.take_length] at hgr
        have g1 := (hgr.foreign (by rw [HZL.out]; omega) (y := w.heap.size) (by rw [CA.t2]; omega) 0 (.slice va ars.length vc)).foreign (by rw [HZL.out]; omega) (y := w.heap.size) (by rw [CA.t2]; omega) 1 (.slice (some ⟨w.heap.size + 1, 0, none⟩) 16 16)
        obtain ⟨t9, ht9⟩ := CA.ctx
        have hgn : w.heap.size + 1 ≠ w.heap.size := by omega
        rw [HZL.out] at g1
        exact ⟨_, τ, ab, ac, w.heap.size + 1, 16, rfl, g1, ⟨t9, (ht9.other hgn _).other hgn _⟩, CA.tc, CA.bc, (CA.bel.setCell CA.b2 _).setCell CA.b2 _⟩

end Go.Proofs.Ytefdnjhhaejgbaa

namespace Go.Proofs.Ytefdnjhhaejgbaa
open Go.RowKit
set_option linter.unusedVariables false

theorem needs_walk (ars : List Ar) (regs spills : Int) (cd : List RI) (input : Int) (ended : Bool) (v : Value) (w : World) (hc : CodeAt w ars regs spills cd v) (ok : CodeOk ars regs spills cd) (hi : u32 input) :
    Calls Try.prog 5 #[v, .int .u32 input, .bool ended] w fun e w' => e = .returned (.bool true) ∧ Below w.heap.size w w' := by
  obtain ⟨arsA, arsC, codeA, codeC, rfl, hA, hC⟩ := hc
  by_cases hf : fewB ars cd = false ∨ (chkCode ars regs spills cd).2 ≠ 0
  · exact needs_idle arsA codeA arsC codeC ars regs spills cd input ended w hA hC ok hf
  have hfew : fewB ars cd = true := by
    cases h : fewB ars cd with
    | true => rfl
    | false => exact absurd (.inl h) hf
  have hchk : (chkCode ars regs spills cd).2 = 0 := Classical.byContradiction fun h => hf (.inr h)
  obtain ⟨t, R⟩ := good_tree (chk_good hchk) ok.arg input ended 0
  obtain ⟨e1, e2, _, _, _⟩ := R
  have ht : cd = t.flat ∧ t.wf false 8 := ⟨e1, e2⟩
  have hrange := T.bd_range True t 0 (fun i hi => (ok.arg i (by rw [ht.1]; exact hi)).1) (by unfold BY; omega)
  by_cases hB : BY ≤ t.bd 0
  · exact needs_a arsA codeA arsC codeC ars regs spills cd input ended t w hA hC ok hi hfew hchk ht 0 18 (by unfold boundRes; rw [if_neg (by simpa using hchk), if_pos hB]) rfl rfl (by omega) (fun _ => rfl)
  have hbe : boundRes (chkCode ars regs spills cd).2 (t.bd 0) = (t.bd 0, 0) := by unfold boundRes; rw [if_neg (by simpa using hchk), if_neg hB]
  by_cases h4 : t.bd 0 < 4000
  · exact needs_c arsA codeA arsC codeC ars regs spills cd input ended t w hA hC ok hi hfew hchk ht (t.bd 0) 0 hbe rfl (by simpa using h4) hrange.1
      (fun h => absurd h (mach_bound ok.arg (zeros_u32 ars) (u32s_rep 16) hi ht (by omega) (Int.le_refl _)))
  · exact needs_b arsA codeA arsC codeC ars regs spills cd input ended t w hA hC ok hi hfew hchk ht (t.bd 0) 0 hbe rfl (by simpa using h4) hrange.1 (fun _ => rfl)
end Go.Proofs.Ytefdnjhhaejgbaa
