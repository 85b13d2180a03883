/- A part of the proof of MachineRuns: Cf Cg Ch Rl St. No condition. -/
import Derived.Laws.BytesArg
import Derived.Test.YtefdnjhhaejgbaaGr31
import Derived.Test.YtefdnjhhaejgbaaGr34
import Derived.Test.YtefdnjhhaejgbaaGr15
set_option linter.unusedSimpArgs false
set_option linter.unusedVariables false
namespace Go.Proofs.Ytefdnjhhaejgbaa
open Go.RowKit
set_option linter.unusedVariables false

def fewB (ars : List Ar) (cd : List RI) : Bool := (ars.take 20).all (fun a => !(decide (1000 < a.size) && decide (a.size ≤ 65536))) && (decide (ars.length ≤ 20) && decide (cd.length ≤ 300))

set_option maxRecDepth 100000 in
set_option maxHeartbeats 1000000 in
theorem fewR (arsA codeA : Option Addr) (n m arsC codeC : Nat) (regs spills : Int) (w : World) :
    Calls Try.prog 27 #[.agg #[.slice arsA n arsC, .int .i64 regs, .int .i64 spills, .slice codeA m codeC]] w fun e w' =>
      e = .returned (.bool (decide (n ≤ 20) && decide (m ≤ 300))) ∧ Below w.heap.size w w' := by
  by_cases h1 : n ≤ 20
  · have q : decide ((n : Int) ≤ 20) = true := by simp; omega
    have HE := Lib.hid (show (decide (n ≤ 20) && decide (m ≤ 300)) = decide ((m : Int) ≤ 300) by simp [h1]; omega)
    clear h1
    generalize (decide (n ≤ 20) && decide (m ≤ 300)) = r at HE ⊢
    go_enter Try.func27, Try.ntmps27
    go_wp2
    go_ret
    exact ⟨ret_bool HE.out.symm, (Below.refl _ _).alloc (Nat.le_refl _) _⟩
  · have q : decide ((n : Int) ≤ 20) = false := by simp; omega
    have HE := Lib.hid (show (decide (n ≤ 20) && decide (m ≤ 300)) = false by simp [h1])
    clear h1
    generalize (decide (n ≤ 20) && decide (m ≤ 300)) = r at HE ⊢
    go_enter Try.func27, Try.ntmps27
    go_wp2
    go_ret
    exact ⟨ret_bool HE.out.symm, (Below.refl _ _).alloc (Nat.le_refl _) _⟩

def smallA (a : Ar) : Bool := !(decide (1000 < a.size) && decide (a.size ≤ 65536))

theorem take_all {α : Type} [Inhabited α] (l : List α) (n : Nat) (p : α → Bool) (h : ∀ j, j < n → j < l.length → p (l.getD j default) = true) : (l.take n).all p = true := by
  rw [List.all_eq_true]
  intro x hx
  obtain ⟨j, hj, rfl⟩ := List.getElem_of_mem hx
  rw [List.length_take] at hj
  have := h j (by omega) (by omega)
  rw [List.getD_eq_getElem?_getD, List.getElem?_eq_getElem (by omega)] at this
  rw [List.getElem_take]
  exact this
theorem take_not {α : Type} [Inhabited α] (l : List α) (n : Nat) (p : α → Bool) (j : Nat) (h1 : j < n) (h2 : j < l.length) (h : p (l.getD j default) = false) : (l.take n).all p = false := by
  rw [List.all_eq_false]
  refine ⟨l[j], ?_, ?_⟩
  · exact List.mem_take_iff_getElem.2 ⟨j, by omega, rfl⟩
  · rw [List.getD_eq_getElem?_getD, List.getElem?_eq_getElem h2] at h
    simpa using h

theorem RowB.at {B : Nat} {w : World} {size : Nat} {a : Option Addr} {n : Nat} {f : Nat → Nat → Value} (h : RowB B w size a n f) {i j : Nat} (hi : i < n) (hj : j < size) : ∃ b off, a = some ⟨b, off, none⟩ ∧ b < B ∧ w.cell? ⟨b, off + i * size + j, none⟩ = some (f i j) := by
  obtain ⟨b, off, h1, h2, h3⟩ := h i hi
  exact ⟨b, off, h1, h2, h3 j hj⟩

set_option maxRecDepth 100000 in
set_option maxHeartbeats 1000000 in
theorem few_any (arsA codeA : Option Addr) (arsC codeC : Nat) (regs spills : Int) (ars : List Ar) (cd : List RI) (w : World) (hA : RowB w.heap.size w 2 arsA ars.length fun i j => (ars.getD i default).cell j) :
    Calls Try.prog 9 #[.agg #[.slice arsA ars.length arsC, .int .i64 regs, .int .i64 spills, .slice codeA cd.length codeC]] w fun e w' =>
      e = .returned (.bool (fewB ars cd)) ∧ Below w.heap.size w w' := by
  have HA := Lib.hid hA
  clear hA
  go_enter Try.func9, Try.ntmps9
  go_wp2
  go_loop [3] (fun i => ∃ k : Nat, i = .int .i64 (k : Int) ∧ k ≤ 20 ∧ Hid (∀ j, j < k → j < ars.length → smallA (ars.getD j default) = true)) (fun i => 20 - (intOf i).toNat)
  case atStart => exact ⟨0, rfl, by omega, Lib.hid (fun j hj => by omega)⟩
  case round =>
    obtain ⟨k, rfl, hk, hj⟩ := hrel
    have fin : (k < 20 → ars.length ≤ k) → fewB ars cd = (decide (ars.length ≤ 20) && decide (cd.length ≤ 300)) := by
      intro h
      unfold fewB
      rw [take_all ars 20 (fun a => !(decide (1000 < a.size) && decide (a.size ≤ 65536))) (fun j h1 h2 => hj.out j (by by_cases hh : k < 20 <;> omega) h2), Bool.true_and]
    have FIN := Lib.hid fin
    clear fin
    by_cases hlt : k < ars.length
    rotate_left
    · have q : decide (k < ars.length) = false := by simp; omega
      have HE := Lib.hid (FIN.out (by omega))
      clear FIN hj hlt
      go_wp2_with (go_at_call 27; refine (fewR _ _ _ _ _ _ _ _ _).mono ?_; rintro e w' ⟨rfl, hb⟩)
      go_ret
      exact ⟨ret_bool HE.out.symm, ((Below.refl _ _).alloc (Nat.le_refl _) _).trans (hb.mono (by simp))⟩
    have q : decide (k < ars.length) = true := by simp; omega
    by_cases h20 : k < 20
    rotate_left
    · have q2 : decide ((k : Int) < 20) = false := by simp; omega
      have HE := Lib.hid (FIN.out (by omega))
      clear FIN hj hlt
      go_wp2_with (go_at_call 27; refine (fewR _ _ _ _ _ _ _ _ _).mono ?_; rintro e w' ⟨rfl, hb⟩)
      go_ret
      exact ⟨ret_bool HE.out.symm, ((Below.refl _ _).alloc (Nat.le_refl _) _).trans (hb.mono (by simp))⟩
    have q2 : decide ((k : Int) < 20) = true := by simp; omega
    clear FIN
    obtain ⟨b, off, rfl, hbl, hcell⟩ := HA.out.at hlt (show 1 < 2 by omega)
    have hcell' : w.cell? ⟨b, off + k * 2 + 1, none⟩ = some (.int .i64 (ars.getD k default).size) := hcell
    obtain ⟨s, hs⟩ : ∃ s, (ars.getD k default).size = s := ⟨_, rfl⟩
    rw [hs] at hcell'
    have HSM : Hid (smallA (ars.getD k default) = !(decide (1000 < s) && decide (s ≤ 65536))) := Lib.hid (by unfold smallA; rw [hs])
    have HLT := Lib.hid hlt
    have hkk := nat_cast_ltP hlt
    clear hs hcell hlt
    by_cases h1 : 1000 < s
    rotate_left
    · have q3 : decide (s > 1000) = false := by simpa using h1
      go_wp2
      go_round
      case rel => exact ⟨k + 1, by go_num, by omega, Lib.hid (fun j hj2 hj3 => by
          by_cases h : j < k
          · exact hj.out j h hj3
          · have : j = k := by omega
            subst this; rw [HSM.out]; simp [h1])⟩
      case measure => simp [intOf]; omega
    have q3 : decide (s > 1000) = true := by simpa using h1
    by_cases h2 : s ≤ 65536
    rotate_left
    · have q4 : decide (s ≤ 65536) = false := by simpa using h2
      go_wp2
      go_round
      case rel => exact ⟨k + 1, by go_num, by omega, Lib.hid (fun j hj2 hj3 => by
          by_cases h : j < k
          · exact hj.out j h hj3
          · have : j = k := by omega
            subst this; rw [HSM.out]; simp [h2])⟩
      case measure => simp [intOf]; omega
    have q4 : decide (s ≤ 65536) = true := by simpa using h2
    have HE : Hid (fewB ars cd = false) := Lib.hid (by
      unfold fewB
      rw [take_not ars 20 (fun a => !(decide (1000 < a.size) && decide (a.size ≤ 65536))) k h20 HLT.out (by have := HSM.out; unfold smallA at this; rw [this]; simp [h1, h2]), Bool.false_and])
    go_wp2
    go_ret
    exact ⟨ret_bool HE.out.symm, (Below.refl _ _).alloc (Nat.le_refl _) _⟩
end Go.Proofs.Ytefdnjhhaejgbaa

namespace Go.Proofs.Ytefdnjhhaejgbaa
open Go.RowKit
set_option linter.unusedVariables false

theorem heap_old2 (w : World) (o1 o2 : Obj) : ((w.alloc o1).alloc o2).heap[w.heap.size]? = some o1 := by
  rw [Below.heap_alloc _ _ _ (by simp)]
  exact heap_new1 _ _

set_option maxRecDepth 100000 in
set_option maxHeartbeats 1000000 in
theorem same_mem (qa ca qb cb : Option Addr) (cq cc cr cd : Nat) (arr : List (List Int)) (ctx : List Int) (w : World) (h1 : GridR w qa arr) (h2 : RowB w.heap.size w 1 ca ctx.length fun j _ => .int .u32 (ctx.getD j 0))
    (h3 : GridR w qb arr) (h4 : RowB w.heap.size w 1 cb ctx.length fun j _ => .int .u32 (ctx.getD j 0)) (hA : arr.length ≤ 9223372036854775806) (hC : ctx.length ≤ 9223372036854775806) (hR : ∀ a ∈ arr, a.length ≤ 9223372036854775806) :
    Calls Try.prog 15 #[.agg #[.slice qa arr.length cq, .slice ca ctx.length cc], .agg #[.slice qb arr.length cr, .slice cb ctx.length cd]] w fun e w' =>
      e = .returned (.bool true) ∧ Below w.heap.size w w' := by
  have H1 := Lib.hid h1
  have H3 := Lib.hid h3
  have HR := Lib.hid hR
  have hW : Below w.heap.size w ((w.alloc (.cells #[.slice qa arr.length cq, .slice ca ctx.length cc] 31)).alloc (.cells #[.slice qb arr.length cr, .slice cb ctx.length cd] 31)) :=
    ((Below.refl _ _).alloc (Nat.le_refl _) _).alloc (by simp) _
  have HS := Lib.hid (same_nums ca cb cc cd ctx ctx _ ((h2.below hW).mono hW.size) ((h4.below hW).mono hW.size) hC)
  have HW := Lib.hid hW
  have hd : ((arr.length : Int) != (arr.length : Int)) = false := by simp
  have hd2 : (!decide (ctx = ctx)) = false := by simp
  clear h1 h2 h3 h4 hW hR
  go_enter Try.func15, Try.ntmps15
  go_wp2_with (go_at_call 24; refine HS.out.mono ?_; rintro e w1 ⟨rfl, n1, rfl⟩)
  clear HS
  refine wp_gen (fun W => Hid (Below w.heap.size w W) ∧ Blk W w.heap.size [.slice qa arr.length cq, .slice ca ctx.length cc] 31 ∧ Blk W (w.heap.size + 1) [.slice qb arr.length cr, .slice cb ctx.length cd] 31) ?_ ?_
  · refine ⟨Lib.hid (drewN_below HW.out _), ?_, heap_new2 _ _ _⟩
    exact heap_old2 _ _ _
  rintro W1 ⟨hb, k1, k2⟩
  clear HW
  go_loopw [5] (fun i wr => ∃ k : Nat, i = .int .i64 (k : Int) ∧ k ≤ arr.length ∧ Hid (Below w.heap.size w wr) ∧ Blk wr w.heap.size [.slice qa arr.length cq, .slice ca ctx.length cc] 31 ∧ Blk wr (w.heap.size + 1) [.slice qb arr.length cr, .slice cb ctx.length cd] 31) (fun i _ => arr.length - (intOf i).toNat)
  case atStart => exact ⟨0, rfl, Nat.zero_le _, hb, k1, k2⟩
  case round =>
    obtain ⟨k, rfl, hk, hbr, kb1, kb2⟩ := hrel
    have m0 : wr.cell? ⟨w.heap.size, 0, none⟩ = some (.slice qa arr.length cq) := kb1.cell 0
    have m1 : wr.cell? ⟨w.heap.size + 1, 0, none⟩ = some (.slice qb arr.length cr) := kb2.cell 0
    have l1 := kb1.lt
    have l2 := kb2.lt
    have KB := Lib.hid (And.intro kb1 kb2)
    clear kb1 kb2 hb k1 k2
    by_cases hlt : k < arr.length
    rotate_left
    · have q : decide (k < arr.length) = false := by simp; omega
      go_wp2
      go_ret
      exact ⟨rfl, hbr.out⟩
    have q : decide (k < arr.length) = true := by simp; omega
    have hkk := nat_cast_ltP hlt
    obtain ⟨b1, o1, p1, cp1, rfl, e1, r1⟩ := H1.out k hlt
    obtain ⟨b2, o2, p2, cp2, rfl, e2, r2⟩ := H3.out k hlt
    have lb1 : b1 < wr.heap.size := Nat.lt_of_lt_of_le (World.block_lt_of_cell? w _ e1) hbr.out.size
    have lb2 : b2 < wr.heap.size := Nat.lt_of_lt_of_le (World.block_lt_of_cell? w _ e2) hbr.out.size
    have c1 : wr.cell? ⟨b1, o1 + k, none⟩ = some (.slice p1 (arr.getD k []).length cp1) := by rw [hbr.out.cell (p := ⟨b1, o1 + k, none⟩) (World.block_lt_of_cell? w _ e1)]; exact e1
    have c2 : wr.cell? ⟨b2, o2 + k, none⟩ = some (.slice p2 (arr.getD k []).length cp2) := by rw [hbr.out.cell (p := ⟨b2, o2 + k, none⟩) (World.block_lt_of_cell? w _ e2)]; exact e2
    have hmem : arr.getD k [] ∈ arr := by rw [List.getD_eq_getElem?_getD, List.getElem?_eq_getElem hlt]; exact List.getElem_mem hlt
    have HS := Lib.hid (same_nums p1 p2 cp1 cp2 (arr.getD k []) (arr.getD k []) wr.drew (((r1.below hbr.out).mono hbr.out.size)) (((r2.below hbr.out).mono hbr.out.size)) (HR.out _ hmem))
    generalize arr.getD k [] = xs at c1 c2 HS
    have hd3 : (!decide (xs = xs)) = false := by simp
    clear e1 e2 r1 r2 hmem hlt
    go_wp2_with fail
    refine wp_region_keeps [0, 2, 5, 7, 3, 8] [(2, 0), (2, 2), (2, 5), (2, 7), (1, 1), (2, 3), (1, 4), (1, 6), (2, 8), (1, 9), (0, 10), (0, 11)] (by kernel_rfl) (by kernel_rfl) (fun c a d v w h => by cases d <;> exact h) ?_
    simp only [getPlan, List.filterMap_cons, List.filterMap_nil, List.getElem?_toArray, List.getElem?_cons_succ, List.getElem?_cons_zero, Option.map_some]
    repeat ((first | refine wpPlanK_pure (fun K hK => ?_) | refine wpPlanK_float (fun K hK => ?_)); go_simp; refine hK _ ?_; clear hK K)
    refine wpPlanK_keep ?_
    go_wp2_with (go_at_call 24; refine HS.out.mono ?_; rintro e w9 ⟨rfl, n9, rfl⟩)
    refine ⟨grew_below (drewN_below (Below.refl _ _) _), ?_⟩
    refine wpPlanK_keep ?_
    go_wp2
    refine ⟨grew_below (drewN_below (Below.refl _ _) _), ?_⟩
    refine wpPlanK_nil ?_
    go_wp2
    go_roundw
    case rel => exact ⟨k + 1, by go_num, by omega, Lib.hid (drewN_below hbr.out _), KB.out.1, KB.out.2⟩
    case measure => simp [intOf]; omega

theorem conv_row (w : World) (a : Option Addr) (c : Nat) (xs : List Int) (h : RowB w.heap.size w 1 a xs.length fun j _ => .int .u8 (xs.getD j 0)) :
    (convert 47 9 (.slice a xs.length c)).run Try.prog w = .ok (.string (strOfNums xs)) w := by
  cases xs with
  | nil =>
    cases a with
    | none => exact run_convert_bytes_nil (P := Try.prog) w 47 5 Try.underlying47 Try.underlying5 0 c 9 Try.underlying9
    | some a =>
      rw [run_convert_bytes_string w 47 9 5 _ _ c Try.underlying47 Try.underlying5 Try.underlying9]
      simp [Conv.bytesToString, loadCells, loadCellsFrom]
      rfl
  | cons x xs =>
    obtain ⟨b, off, rfl, _, h0⟩ := h 0 (by simp)
    refine run_convert_bytes_arg (P := Try.prog) w 47 5 Try.underlying47 Try.underlying5 b off _ c (x :: xs) rfl (fun i hi => ?_) 9 Try.underlying9
    obtain ⟨b', off', e, _, h1⟩ := h i hi
    simp only [Option.some.injEq, Addr.mk.injEq] at e
    obtain ⟨rfl, rfl, _⟩ := e
    have := h1 0 (by omega)
    simpa using this

/-- a result of a run in memory -/
def ResAt (w : World) (arr : List (List Int)) (ctx out : List Int) (st : Int) (v : Value) : Prop :=
  ∃ qa cq ca cc oa oc, v = .agg #[.slice qa arr.length cq, .slice ca ctx.length cc, .slice oa out.length oc, .int .i64 st] ∧ GridR w qa arr ∧ RowB w.heap.size w 1 ca ctx.length (fun j _ => .int .u32 (ctx.getD j 0)) ∧
    RowB w.heap.size w 1 oa out.length (fun j _ => .int .u8 (out.getD j 0))

theorem ResAt.below {w w' : World} {arr : List (List Int)} {ctx out : List Int} {st : Int} {v : Value} (h : ResAt w arr ctx out st v) (hb : Below w.heap.size w w') : ResAt w' arr ctx out st v := by
  obtain ⟨qa, cq, ca, cc, oa, oc, rfl, h1, h2, h3⟩ := h
  exact ⟨qa, cq, ca, cc, oa, oc, rfl, h1.below hb, (h2.below hb).mono hb.size, (h3.below hb).mono hb.size⟩

set_option maxRecDepth 100000 in
set_option maxHeartbeats 1000000 in
theorem same_result (v1 v2 : Value) (s1 s2 : Int) (arr : List (List Int)) (ctx out : List Int) (w : World) (h1 : ResAt w arr ctx out s1 v1) (h2 : ResAt w arr ctx out s2 v2)
    (hA : arr.length ≤ 9223372036854775806) (hC : ctx.length ≤ 9223372036854775806) (hR : ∀ a ∈ arr, a.length ≤ 9223372036854775806) :
    Calls Try.prog 41 #[v1, v2] w fun e w' => e = .returned (.bool true) ∧ Below w.heap.size w w' := by
  obtain ⟨qa, cq, ca, cc, oa, oc, rfl, g1, g2, g3⟩ := h1
  obtain ⟨qb, cr, cb, cd, ob, od, rfl, k1, k2, k3⟩ := h2
  have hW : Below w.heap.size w ((w.alloc (.cells #[.slice qa arr.length cq, .slice ca ctx.length cc, .slice oa out.length oc, .int .i64 s1] 49)).alloc (.cells #[.slice qb arr.length cr, .slice cb ctx.length cd, .slice ob out.length od, .int .i64 s2] 49)) :=
    ((Below.refl _ _).alloc (Nat.le_refl _) _).alloc (by simp) _
  have HS := Lib.hid (same_mem qa ca qb cb cq cc cr cd arr ctx _ (g1.below hW) ((g2.below hW).mono hW.size) (k1.below hW) ((k2.below hW).mono hW.size) hA hC hR)
  have x1 := conv_row _ oa oc out ((g3.below hW).mono hW.size)
  have x2 := conv_row _ ob od out ((k3.below hW).mono hW.size)
  have HW := Lib.hid hW
  clear g1 g2 g3 k1 k2 k3 hW hR
  go_enter Try.func41, Try.ntmps41
  go_wp2_with (go_at_call 15; refine HS.out.mono ?_; rintro e w1 ⟨rfl, hb⟩)
  go_ret
  exact ⟨rfl, HW.out.trans (hb.mono HW.out.size)⟩

set_option maxRecDepth 100000 in
set_option maxHeartbeats 1000000 in
theorem same_run (v1 v2 : Value) (st : Int) (arr : List (List Int)) (ctx out : List Int) (w : World) (h1 : ResAt w arr ctx out st v1) (h2 : ResAt w arr ctx out st v2)
    (hA : arr.length ≤ 9223372036854775806) (hC : ctx.length ≤ 9223372036854775806) (hR : ∀ a ∈ arr, a.length ≤ 9223372036854775806) :
    Calls Try.prog 20 #[v1, v2] w fun e w' => e = .returned (.bool true) ∧ Below w.heap.size w w' := by
  have G1 := Lib.hid h1
  have G2 := Lib.hid h2
  obtain ⟨qa, cq, ca, cc, oa, oc, rfl, g1, g2, g3⟩ := h1
  obtain ⟨qb, cr, cb, cd, ob, od, rfl, k1, k2, k3⟩ := h2
  clear g1 g2 g3 k1 k2 k3
  have hW : Below w.heap.size w ((w.alloc (.cells #[.slice qa arr.length cq, .slice ca ctx.length cc, .slice oa out.length oc, .int .i64 st] 49)).alloc (.cells #[.slice qb arr.length cr, .slice cb ctx.length cd, .slice ob out.length od, .int .i64 st] 49)) :=
    ((Below.refl _ _).alloc (Nat.le_refl _) _).alloc (by simp) _
  have HS := Lib.hid (same_result _ _ st st arr ctx out _ (G1.out.below hW) (G2.out.below hW) hA hC hR)
  have HW := Lib.hid hW
  have hd : (st == st) = true := by simp
  clear hW hR G1 G2
  go_enter Try.func20, Try.ntmps20
  go_wp2_with (go_at_call 41; refine HS.out.mono ?_; rintro e w1 ⟨rfl, hb⟩)
  go_ret
  exact ⟨rfl, HW.out.trans (hb.mono HW.out.size)⟩
end Go.Proofs.Ytefdnjhhaejgbaa

namespace Go.Proofs.Ytefdnjhhaejgbaa
open Go.RowKit
set_option linter.unusedVariables false

theorem fits_all {ars : List Ar} {arr : List (List Int)} {n : Nat} (h1 : arr.length = ars.length) (h2 : n = 16) (h : ∀ k, k < ars.length → fitB (ars.getD k default) (arr.getD k []) = true) : fitsB ars arr n = true := by
  unfold fitsB
  simp only [h1, h2, decide_true, Bool.true_and, List.all_eq_true, List.mem_range]
  exact h

theorem fitB_word {a : Ar} {xs : List Int} (h : (xs.length : Int) = a.size) (hw : a.word = true) : fitB a xs = true := by unfold fitB; simp [h, hw]
theorem fitB_all {a : Ar} {xs : List Int} (h : (xs.length : Int) = a.size) (hw : ∀ j, j < xs.length → xs.getD j 0 ≤ 255) : fitB a xs = true := by
  unfold fitB
  simp [h]
  right
  intro x hx
  obtain ⟨j, hj, rfl⟩ := List.getElem_of_mem hx
  have := hw j hj
  rw [List.getD_eq_getElem?_getD, List.getElem?_eq_getElem hj] at this
  simpa using this
theorem fitB_len {a : Ar} {xs : List Int} (h : (xs.length : Int) ≠ a.size) : fitB a xs = false := by unfold fitB; simp [h]
theorem fitB_big {a : Ar} {xs : List Int} {j : Nat} (hj : j < xs.length) (hw : a.word = false) (h : 255 < xs.getD j 0) : fitB a xs = false := by
  unfold fitB
  simp [hw]
  intro _
  refine ⟨xs[j], List.getElem_mem hj, ?_⟩
  rw [List.getD_eq_getElem?_getD, List.getElem?_eq_getElem hj] at h
  simpa using h

set_option maxRecDepth 100000 in
set_option maxHeartbeats 1000000 in
theorem fitsR (arsA qa ca : Option Addr) (arsC cq cc nctx : Nat) (ars : List Ar) (arr : List (List Int)) (w : World) (hars : RowB w.heap.size w 2 arsA ars.length fun i j => (ars.getD i default).cell j)
    (hg : GridR w qa arr) (hA : ars.length ≤ 9223372036854775806) (hl : ∀ a ∈ arr, a.length ≤ 9223372036854775806) :
    Calls Try.prog 21 #[.slice arsA ars.length arsC, .agg #[.slice qa arr.length cq, .slice ca nctx cc]] w fun e w' => e = .returned (.bool (fitsB ars arr nctx)) ∧ Below w.heap.size w w' := by
  have HA := Lib.hid hars
  have HG := Lib.hid hg
  have HL := Lib.hid hl
  clear hars hg hl
  by_cases h1 : arr.length = ars.length
  rotate_left
  · have q : ((arr.length : Int) != (ars.length : Int)) = true := by simp; omega
    have HE := Lib.hid (show fitsB ars arr nctx = false by unfold fitsB; simp [h1])
    clear h1
    go_enter Try.func21, Try.ntmps21
    go_wp2
    go_ret
    exact ⟨ret_bool HE.out.symm, (Below.refl _ _).alloc (Nat.le_refl _) _⟩
  have q : ((arr.length : Int) != (ars.length : Int)) = false := by simp; omega
  by_cases h2 : nctx = 16
  rotate_left
  · have q2 : ((nctx : Int) != 16) = true := by simp; omega
    have HE := Lib.hid (show fitsB ars arr nctx = false by unfold fitsB; simp [h2])
    clear h1 h2
    go_enter Try.func21, Try.ntmps21
    go_wp2
    go_ret
    exact ⟨ret_bool HE.out.symm, (Below.refl _ _).alloc (Nat.le_refl _) _⟩
  have q2 : ((nctx : Int) != 16) = false := by simp; omega
  have H12 := Lib.hid (And.intro h1 h2)
  clear h1 h2
  go_enter Try.func21, Try.ntmps21
  go_wp2_with fail
  clear q q2
  go_loopw [5] (fun i wr => ∃ k : Nat, i = .int .i64 (k : Int) ∧ k ≤ ars.length ∧ Hid (∀ j, j < k → fitB (ars.getD j default) (arr.getD j []) = true) ∧ Hid (Below w.heap.size w wr) ∧ Blk wr w.heap.size [.slice qa arr.length cq, .slice ca nctx cc] 31) (fun i _ => ars.length - (intOf i).toNat)
  case atStart => exact ⟨0, rfl, Nat.zero_le _, Lib.hid (fun j hj => by omega), Lib.hid ((Below.refl _ _).alloc (Nat.le_refl _) _), heap_new1 _ _⟩
  case round =>
    obtain ⟨k, rfl, hk, hj, hbr, kb⟩ := hrel
    have m0 : wr.cell? ⟨w.heap.size, 0, none⟩ = some (.slice qa arr.length cq) := kb.cell 0
    have l1 := kb.lt
    have KB := Lib.hid kb
    clear kb
    by_cases hlt : k < ars.length
    rotate_left
    · have q : decide (k < ars.length) = false := by simp; omega
      have HE := Lib.hid (fits_all H12.out.1 H12.out.2 (fun j hj2 => hj.out j (by omega)))
      clear hj
      go_wp2
      go_ret
      exact ⟨ret_bool HE.out.symm, hbr.out⟩
    have q : decide (k < ars.length) = true := by simp; omega
    have hkk := nat_cast_ltP hlt
    have hlt2 : k < arr.length := by rw [H12.out.1]; exact hlt
    have hkk2 := nat_cast_ltP hlt2
    obtain ⟨b1, o1, rfl, lb, e0⟩ := HA.out k hlt
    obtain ⟨b2, o2, p2, cp2, rfl, e2, r2⟩ := HG.out k hlt2
    have d0 : wr.cell? ⟨b1, o1 + k * 2, none⟩ = some (.bool (ars.getD k default).word) := by rw [hbr.out.cell (p := ⟨b1, o1 + k * 2, none⟩) lb]; exact e0 0 (by omega)
    have d1 : wr.cell? ⟨b1, o1 + k * 2 + 1, none⟩ = some (.int .i64 (ars.getD k default).size) := by rw [hbr.out.cell (p := ⟨b1, o1 + k * 2 + 1, none⟩) lb]; exact e0 1 (by omega)
    have lb2 : b2 < wr.heap.size := Nat.lt_of_lt_of_le (World.block_lt_of_cell? w _ e2) hbr.out.size
    have lb1 : b1 < wr.heap.size := Nat.lt_of_lt_of_le lb hbr.out.size
    have c2 : wr.cell? ⟨b2, o2 + k, none⟩ = some (.slice p2 (arr.getD k []).length cp2) := by rw [hbr.out.cell (p := ⟨b2, o2 + k, none⟩) (World.block_lt_of_cell? w _ e2)]; exact e2
    have HR := Lib.hid (r2.below hbr.out)
    have hmem : arr.getD k [] ∈ arr := by rw [List.getD_eq_getElem?_getD, List.getElem?_eq_getElem hlt2]; exact List.getElem_mem hlt2
    have hxl := HL.out _ hmem
    have HLT := Lib.hid hlt
    obtain ⟨xs, hxs⟩ : ∃ xs, arr.getD k [] = xs := ⟨_, rfl⟩
    obtain ⟨a, ha⟩ : ∃ a, ars.getD k default = a := ⟨_, rfl⟩
    rw [hxs] at c2 HR hxl
    rw [ha] at d0 d1
    obtain ⟨wd, sz⟩ := a
    have HX := Lib.hid (And.intro hxs ha)
    clear hxs ha e0 e2 r2 hmem hlt hlt2
    simp only at d0 d1
    by_cases hsz : (xs.length : Int) = sz
    rotate_left
    · have q3 : ((xs.length : Int) != sz) = true := by simpa using hsz
      have HE := Lib.hid (fits_not (n := nctx) HLT.out (by rw [HX.out.1, HX.out.2]; exact fitB_len (a := ⟨wd, sz⟩) hsz))
      clear hj hsz
      go_wp2_with fail
      refine wp_region_keeps [0, 2, 6, 7, 8, 9, 3, 5, 11] [(2, 0), (2, 2), (2, 6), (2, 7), (2, 8), (2, 9), (1, 1), (2, 3), (1, 4), (2, 5), (1, 10), (2, 11)] (by kernel_rfl) (by kernel_rfl) (fun c a d v w h => by cases d <;> exact h) ?_
      simp only [getPlan, List.filterMap_cons, List.filterMap_nil, List.getElem?_toArray, List.getElem?_cons_succ, List.getElem?_cons_zero, Option.map_some]
      repeat ((first | refine wpPlanK_pure (fun K hK => ?_) | refine wpPlanK_float (fun K hK => ?_)); go_simp; refine hK _ ?_; clear hK K)
      refine wpPlanK_nil ?_
      go_wp2
      go_ret
      exact ⟨ret_bool HE.out.symm, hbr.out.drew⟩
    have q3 : ((xs.length : Int) != sz) = false := by simpa using hsz
    have HSZ := Lib.hid hsz
    clear hsz
    go_wp2_with fail
    refine wp_region_keeps [0, 2, 6, 7, 8, 9, 3, 5, 11] [(2, 0), (2, 2), (2, 6), (2, 7), (2, 8), (2, 9), (1, 1), (2, 3), (1, 4), (2, 5), (1, 10), (2, 11)] (by kernel_rfl) (by kernel_rfl) (fun c a d v w h => by cases d <;> exact h) ?_
    simp only [getPlan, List.filterMap_cons, List.filterMap_nil, List.getElem?_toArray, List.getElem?_cons_succ, List.getElem?_cons_zero, Option.map_some]
    repeat ((first | refine wpPlanK_pure (fun K hK => ?_) | refine wpPlanK_float (fun K hK => ?_)); go_simp; refine hK _ ?_; clear hK K)
    refine wpPlanK_nil ?_
    go_wp2_with fail
    go_loop [6] (fun i => ∃ n : Nat, i = .int .i64 (n : Int) ∧ n ≤ xs.length ∧ Hid (wd = true ∨ ∀ j, j < n → xs.getD j 0 ≤ 255)) (fun i => xs.length - (intOf i).toNat)
    case atStart => exact ⟨0, rfl, Nat.zero_le _, Lib.hid (.inr (fun j hj => by omega))⟩
    case round =>
      obtain ⟨n, rfl, hn, hw⟩ := hrel
      by_cases hnl : n < xs.length
      rotate_left
      · have q4 : decide (n < xs.length) = false := by simp; omega
        have HF := Lib.hid (show fitB (⟨wd, sz⟩ : Ar) xs = true by
          rcases hw.out with h | h
          · exact fitB_word HSZ.out h
          · exact fitB_all HSZ.out (fun j hj => h j (by omega)))
        go_wp2_with fail
        go_roundw
        case rel => exact ⟨k + 1, by go_num, by have := HLT.out; omega, Lib.hid (fun j hj2 => by
            by_cases h : j < k
            · exact hj.out j h
            · have : j = k := by omega
              subst this; rw [HX.out.1, HX.out.2]; exact HF.out), Lib.hid hbr.out.drew, KB.out⟩
        case measure => have := HLT.out; simp [intOf]; omega
      have q4 : decide (n < xs.length) = true := by simp; omega
      have hnn := nat_cast_ltP hnl
      obtain ⟨b3, o3, rfl, lb3, e3⟩ := HR.out n hnl
      have d3 : wr.cell? ⟨b3, o3 + n, none⟩ = some (.int .u32 (xs.getD n 0)) := by have := e3 0 (by omega); simpa using this
      obtain ⟨x, hx⟩ : ∃ x, xs.getD n 0 = x := ⟨_, rfl⟩
      rw [hx] at d3
      have HXN := Lib.hid hx
      have HNL := Lib.hid hnl
      clear e3 hx hnl
      cases wd with
      | true =>
        go_wp2
        go_round
        case rel => exact ⟨n + 1, by go_num, by omega, Lib.hid (.inl (by trivial))⟩
        case measure => simp [intOf]; omega
      | false =>
        by_cases hb255 : 255 < x
        · have q5 : decide (x > 255) = true := by simpa using hb255
          have HE := Lib.hid (fits_not (n := nctx) HLT.out (by rw [HX.out.1, HX.out.2]; exact fitB_big (a := ⟨false, sz⟩) HNL.out rfl (by rw [HXN.out]; exact hb255)))
          clear hj hw
          go_wp2
          go_ret
          exact ⟨ret_bool HE.out.symm, hbr.out.drew⟩
        · have q5 : decide (x > 255) = false := by simpa using hb255
          go_wp2
          go_round
          case rel => exact ⟨n + 1, by go_num, by omega, Lib.hid (.inr (fun j hj2 => by
              by_cases h : j < n
              · exact hw.out.resolve_left (by simp) j h
              · have : j = n := by omega
                subst this; rw [HXN.out]; omega))⟩
          case measure => simp [intOf]; omega
end Go.Proofs.Ytefdnjhhaejgbaa

namespace Go.Proofs.Ytefdnjhhaejgbaa
open Go.ChangeShapes Go.WideShapes Go.ChangeAt Go.RowKit Go.Deep Go.Joins
set_option linter.unusedVariables false

set_option maxRecDepth 100000 in
set_option maxHeartbeats 1000000 in
theorem lightF_any (fuel : Int) (w : World) : Calls Try.prog 17 #[.int .i64 fuel] w fun e w' => e = .returned (.bool (decide (fuel ≤ 5000) || decide (281474976710656 < fuel))) ∧ w' = w := by
  cases h : decide (fuel ≤ 5000)
  all_goals
    go_enter Try.func17, Try.ntmps17
    go_wp2
    go_ret
    exact ⟨by simp [h], rfl⟩

def fewMemB (arr : List (List Int)) (n : Nat) : Bool := decide (arr.length ≤ 20) && decide (n ≤ 40) && arr.all fun a => decide (a.length ≤ 300)

set_option maxRecDepth 100000 in
set_option maxHeartbeats 1000000 in
theorem fewMem_any (qa ca : Option Addr) (cq cc n : Nat) (arr : List (List Int)) (w : World) (hg : GridR w qa arr) (hl : ∀ a ∈ arr, a.length ≤ 9223372036854775807) :
    Calls Try.prog 16 #[.agg #[.slice qa arr.length cq, .slice ca n cc]] w fun e w' => e = .returned (.bool (fewMemB arr n)) ∧ Below w.heap.size w w' := by
  have HG := Lib.hid hg
  have HL := Lib.hid hl
  clear hg hl
  by_cases h1 : arr.length ≤ 20
  rotate_left
  · have q : decide ((arr.length : Int) > 20) = true := by simp; omega
    have HE := Lib.hid (show fewMemB arr n = false by unfold fewMemB; simp [h1])
    clear h1
    go_enter Try.func16, Try.ntmps16
    go_wp2
    go_ret
    exact ⟨ret_bool HE.out.symm, (Below.refl _ _).alloc (Nat.le_refl _) _⟩
  by_cases h2 : n ≤ 40
  rotate_left
  · have q : decide ((arr.length : Int) > 20) = false := by simp; omega
    have q2 : decide ((n : Int) > 40) = true := by simp; omega
    have HE := Lib.hid (show fewMemB arr n = false by unfold fewMemB; simp [h2])
    clear h1 h2
    go_enter Try.func16, Try.ntmps16
    go_wp2
    go_ret
    exact ⟨ret_bool HE.out.symm, (Below.refl _ _).alloc (Nat.le_refl _) _⟩
  have q : decide ((arr.length : Int) > 20) = false := by simp; omega
  have q2 : decide ((n : Int) > 40) = false := by simp; omega
  go_enter Try.func16, Try.ntmps16
  go_wp2
  go_loop [3] (fun i => ∃ k : Nat, i = .int .i64 (k : Int) ∧ k ≤ arr.length ∧ Hid (∀ j, j < k → (arr.getD j []).length ≤ 300)) (fun i => arr.length - (intOf i).toNat)
  case atStart => exact ⟨0, rfl, by omega, Lib.hid (fun j hj => by omega)⟩
  case round =>
    obtain ⟨k, rfl, hk, hj⟩ := hrel
    by_cases hlt : k < arr.length
    rotate_left
    · have q3 : decide (k < arr.length) = false := by simp; omega
      have HE := Lib.hid (show fewMemB arr n = true by
        unfold fewMemB
        simp only [h1, h2, decide_true, Bool.true_and, List.all_eq_true, decide_eq_true_eq]
        intro a ha
        obtain ⟨j, hj2, rfl⟩ := List.getElem_of_mem ha
        have := hj.out j (by omega)
        rwa [List.getD_eq_getElem?_getD, List.getElem?_eq_getElem hj2] at this)
      clear hlt h1 h2 hj
      go_wp2
      go_ret
      exact ⟨ret_bool HE.out.symm, (Below.refl _ _).alloc (Nat.le_refl _) _⟩
    have q3 : decide (k < arr.length) = true := by simp; omega
    obtain ⟨b, off, p, cp, rfl, hc, _⟩ := HG.out k hlt
    have hkk := nat_cast_ltP hlt
    have hmem := HL.out (arr.getD k []) (by rw [List.getD_eq_getElem?_getD, List.getElem?_eq_getElem hlt]; exact List.getElem_mem hlt)
    have hbl : b < w.heap.size := World.block_lt_of_cell? w _ hc
    obtain ⟨m, hm⟩ : ∃ m, (arr.getD k []).length = m := ⟨_, rfl⟩
    rw [hm] at hc hmem
    have HM := Lib.hid hm
    have HLT := Lib.hid hlt
    clear hm hlt
    by_cases h3 : m ≤ 300
    · have q4 : decide ((m : Int) > 300) = false := by simp; omega
      go_wp2
      go_round
      case rel => exact ⟨k + 1, by go_num, by have := HLT.out; omega, Lib.hid (fun j hj2 => by
          by_cases h : j < k
          · exact hj.out j h
          · have : j = k := by omega
            subst this; rw [HM.out]; exact h3)⟩
      case measure => have := HLT.out; simp [intOf]; omega
    · have q4 : decide ((m : Int) > 300) = true := by simp; omega
      have HE := Lib.hid (show fewMemB arr n = false by
        unfold fewMemB
        have : (arr.all fun a => decide (a.length ≤ 300)) = false := by
          rw [List.all_eq_false]
          refine ⟨arr[k]'HLT.out, List.getElem_mem _, ?_⟩
          have := HM.out
          rw [List.getD_eq_getElem?_getD, List.getElem?_eq_getElem HLT.out, Option.getD_some] at this
          rw [this]; simp; omega
        rw [this, Bool.and_false])
      go_wp2
      go_ret
      exact ⟨ret_bool HE.out.symm, (Below.refl _ _).alloc (Nat.le_refl _) _⟩

set_option maxRecDepth 100000 in
set_option maxHeartbeats 1000000 in
theorem open_call {H : Type} {enc : TypeId × Value → H} {w : World} {base : Nat} {spare : Nat → Bool} {held : Bool} {r : Reach} {b0 : Nat} {v : Value} {d : DataW H} {p : List MemPlace}
    (hv : Value.okWide Try.prog w r b0 44 v) (h : DataW.Trod enc Try.prog w base spare held 44 v d p) :
    ∃ input ended fuel, v = .agg #[.int .u32 input, .bool ended, .int .i64 fuel] ∧ u32 input ∧ i64 fuel := by
  obtain ⟨v0, v1, v2, y0, y1, y2, n, rfl, _, _, h0, h1, h2⟩ := open_agg3 (P := Try.prog) Try.underlying44 (by kernel_rfl) (by kernel_rfl) hv h
  obtain ⟨m0, e0, _, w0⟩ := DataW.trod_int (k := .u32) (by kernel_rfl) h0
  obtain ⟨b, e1, _⟩ := DataW.trod_bool (by kernel_rfl) h1
  obtain ⟨m2, e2, _, w2⟩ := DataW.trod_int (k := .i64) (by kernel_rfl) h2
  simp only [List.cons.injEq, and_true] at e0 e1 e2
  subst e0 e1 e2
  exact ⟨m0, b, m2, rfl, wf_u32 w0, wf_i64 w2⟩
end Go.Proofs.Ytefdnjhhaejgbaa

namespace Go.Proofs.Ytefdnjhhaejgbaa
open Go.RowKit
set_option linter.unusedVariables false

/-- the bound, however great -/
def T.cost : T → Int
  | .nil => 0
  | .plain i r => 1 + r.cost
  | .ite i a j r => 1 + max a.cost 0 + r.cost
  | .ite2 i a x b j r => 1 + max a.cost b.cost + r.cost
  | .loop i a j r => 1 + i.arg * (1 + a.cost) + r.cost

theorem T.cost_nonneg : ∀ t : T, (∀ i ∈ t.flat, 0 ≤ i.arg) → 0 ≤ t.cost
  | .nil, _ => Int.le_refl _
  | .plain i r, h => by
    have := T.cost_nonneg r (fun x hx => h x (by simp [flat, hx]))
    simp only [cost]; omega
  | .ite i a j r, h => by
    have := T.cost_nonneg r (fun x hx => h x (by simp [flat, hx]))
    simp only [cost]; omega
  | .ite2 i a x b j r, h => by
    have := T.cost_nonneg r (fun x hx => h x (by simp [flat, hx]))
    have := T.cost_nonneg a (fun x hx => h x (by simp [flat, hx]))
    simp only [cost]; omega
  | .loop i a j r, h => by
    have h1 := T.cost_nonneg r (fun x hx => h x (by simp [flat, hx]))
    have h2 := T.cost_nonneg a (fun x hx => h x (by simp [flat, hx]))
    have h3 : 0 ≤ i.arg * (1 + a.cost) := Int.mul_nonneg (h i (by simp [flat])) (by omega)
    simp only [cost]; omega

theorem by_div {k x : Int} (hk : 0 ≤ k) (hx : 1 ≤ x) : BY / x < k → BY ≤ k * x := by
  intro h
  have h2 : BY < (BY / x + 1) * x := by
    have := Int.lt_mul_ediv_self_add (x := BY) (k := x) (by omega)
    rw [Int.add_mul, Int.one_mul, Int.mul_comm]
    exact this
  have h3 : (BY / x + 1) * x ≤ k * x := Int.mul_le_mul_of_nonneg_right (by omega) (by omega)
  omega

theorem T.bd_cost : ∀ (t : T) (n : Int), (∀ i ∈ t.flat, 0 ≤ i.arg) → 0 ≤ n → n ≤ BY → t.bd n = min (n + t.cost) BY
  | .nil, n, _, h1, h2 => by simp only [bd, cost]; omega
  | .plain i r, n, h, h1, h2 => by
    simp only [bd, cost]
    have hr := T.cost_nonneg r (fun x hx => h x (by simp [flat, hx]))
    rw [T.bd_cost r _ (fun x hx => h x (by simp [flat, hx])) (by unfold BY at *; omega) (by omega)]
    omega
  | .ite i a j r, n, h, h1, h2 => by
    simp only [bd, cost]
    have hr := T.cost_nonneg r (fun x hx => h x (by simp [flat, hx]))
    have ha := T.cost_nonneg a (fun x hx => h x (by simp [flat, hx]))
    rw [T.bd_cost a 0 (fun x hx => h x (by simp [flat, hx])) (by omega) (by unfold BY; omega)]
    rw [T.bd_cost r _ (fun x hx => h x (by simp [flat, hx])) (by unfold BY at *; omega) (by omega)]
    omega
  | .ite2 i a x b j r, n, h, h1, h2 => by
    simp only [bd, cost]
    have hr := T.cost_nonneg r (fun x hx => h x (by simp [flat, hx]))
    have ha := T.cost_nonneg a (fun x hx => h x (by simp [flat, hx]))
    have hb := T.cost_nonneg b (fun x hx => h x (by simp [flat, hx]))
    rw [T.bd_cost a 0 (fun x hx => h x (by simp [flat, hx])) (by omega) (by unfold BY; omega)]
    rw [T.bd_cost b 0 (fun x hx => h x (by simp [flat, hx])) (by omega) (by unfold BY; omega)]
    rw [T.bd_cost r _ (fun x hx => h x (by simp [flat, hx])) (by unfold BY at *; omega) (by omega)]
    omega
  | .loop i a j r, n, h, h1, h2 => by
    simp only [bd, cost]
    have hr := T.cost_nonneg r (fun x hx => h x (by simp [flat, hx]))
    have ha := T.cost_nonneg a (fun x hx => h x (by simp [flat, hx]))
    have hi := h i (by simp [flat])
    rw [T.bd_cost a 0 (fun x hx => h x (by simp [flat, hx])) (by omega) (by unfold BY; omega), Int.zero_add]
    have key : min (if BY / (1 + min a.cost BY) < i.arg then BY else n + 1 + i.arg * (1 + min a.cost BY)) BY = min (n + 1 + i.arg * (1 + a.cost)) BY := by
      have hm : 0 ≤ i.arg * (1 + min a.cost BY) := Int.mul_nonneg hi (by unfold BY; omega)
      have hle : i.arg * (1 + min a.cost BY) ≤ i.arg * (1 + a.cost) := Int.mul_le_mul_of_nonneg_left (by omega) hi
      split
      · rename_i hd
        have := by_div hi (by unfold BY; omega) hd
        omega
      · rename_i hd
        by_cases hac : a.cost ≤ BY
        · rw [show min a.cost BY = a.cost by omega]
        · have e1 : min a.cost BY = BY := by omega
          rw [e1] at hd ⊢
          have h0 : BY / (1 + BY) = 0 := by decide
          rw [h0] at hd
          have : i.arg = 0 := by omega
          rw [this, Int.zero_mul, Int.zero_mul]
    rw [key]
    have hm : 0 ≤ i.arg * (1 + a.cost) := Int.mul_nonneg hi (by omega)
    rw [T.bd_cost r _ (fun x hx => h x (by simp [flat, hx])) (by unfold BY at *; omega) (by omega)]
    omega

/-! ### runs within the bound -/
theorem tick_ok {c : MC} {s : PS} (h : s.steps < c.fuel) : tick c s = .ok { s with steps := s.steps + 1 } := by unfold tick; rw [if_pos h]

theorem arithErr_ne (op b : Int) : arithErr op b ≠ 19 := by unfold arithErr; (repeat' split) <;> decide

theorem effect_plain {c : MC} {i : RI} (h : i.op ≠ 27 ∧ i.op ≠ 28 ∧ i.op ≠ 29 ∧ i.op ≠ 31) (h30 : i.op ≠ 30) (s : PS) : (∃ s', effect c s i = .ok s' ∧ s'.steps = s.steps) ∨ ∃ n, effect c s i = .error n ∧ n ≠ 19 := by
  cases he : effect c s i with
  | ok s' => exact .inl ⟨s', rfl, (effect_quiet h.2.2.1 h.2.2.2 he).1⟩
  | error n =>
    refine .inr ⟨n, rfl, ?_⟩
    unfold effect at he
    simp only [if_neg h.1, if_neg h.2.1, if_neg h.2.2.1, if_neg h.2.2.2, if_neg h30] at he
    by_cases h0 : i.op = 0
    · rw [if_pos h0] at he; cases he
    rw [if_neg h0] at he
    by_cases h36 : i.op = 36
    · rw [if_pos h36] at he; cases he
    rw [if_neg h36] at he
    by_cases h37 : i.op = 37
    · rw [if_pos h37] at he; cases he
    rw [if_neg h37] at he
    by_cases h38 : i.op = 38
    · rw [if_pos h38] at he; cases he
    rw [if_neg h38] at he
    by_cases h32 : i.op = 32
    · rw [if_pos h32] at he; cases he
    rw [if_neg h32] at he
    by_cases h33 : i.op = 33
    · rw [if_pos h33] at he; cases he
    rw [if_neg h33] at he
    by_cases h34 : i.op = 34
    · rw [if_pos h34] at he; split at he <;> cases he; decide
    rw [if_neg h34] at he
    by_cases h35 : i.op = 35
    · rw [if_pos h35] at he; cases he
    rw [if_neg h35] at he
    by_cases h3 : i.op = 3
    · rw [if_pos h3] at he; split at he <;> cases he; decide
    rw [if_neg h3] at he
    by_cases h4 : i.op = 4
    · rw [if_pos h4] at he; split at he <;> cases he; decide
    rw [if_neg h4] at he
    split at he <;> cases he
    exact arithErr_ne _ _

/-- what a piece of code needs -/
def Within (o : Out) (m : Int) : Prop := match o with
  | .ok s => s.steps ≤ m
  | .left s => s.steps ≤ m
  | .err n => n ≠ 19
theorem Within.mono {o : Out} {m m' : Int} (h : Within o m) (hm : m ≤ m') : Within o m' := by
  cases o with
  | ok s => simp only [Within] at *; omega
  | left s => simp only [Within] at *; omega
  | err n => exact h

theorem T.run_within (c : MC) : ∀ (t : T) (w : Bool) (d : Nat) (s : PS), t.wf w d → (∀ i ∈ t.flat, 0 ≤ i.arg) → s.steps + t.cost ≤ c.fuel → Within (t.run c s) (s.steps + t.cost)
  | .nil, w, d, s, _, _, _ => by simp [T.run, Within, T.cost]
  | .plain i q, w, d, s, hw, h, hf => by
    simp only [T.wf] at hw
    simp only [T.cost] at hf ⊢
    have hq := T.cost_nonneg q (fun x hx => h x (by simp [flat, hx]))
    have ih := fun s' => T.run_within c q w d s' hw.2.2 (fun x hx => h x (by simp [flat, hx]))
    simp only [T.run]
    rw [tick_ok (by omega)]
    simp only
    by_cases h30 : i.op = 30
    · rw [if_pos h30]
      split
      · exact (ih _ (by show s.steps + 1 + _ ≤ _; omega)).mono (by show s.steps + 1 + _ ≤ _; omega)
      · show s.steps + 1 ≤ _; omega
    · rw [if_neg h30]
      rcases effect_plain (c := c) hw.1 h30 { s with steps := s.steps + 1 } with ⟨s', he, hs⟩ | ⟨n, he, hn⟩
      · rw [he]
        have hs2 : s'.steps = s.steps + 1 := hs
        exact (ih s' (by omega)).mono (by omega)
      · rw [he]; exact hn
  | .ite i a j q, w, d, s, hw, h, hf => by
    simp only [T.wf] at hw
    simp only [T.cost] at hf ⊢
    have hq := T.cost_nonneg q (fun x hx => h x (by simp [flat, hx]))
    have ih := fun s' => T.run_within c q w d s' hw.2.2.2.2 (fun x hx => h x (by simp [flat, hx]))
    have iha := fun s' => T.run_within c a w (d - 1) s' hw.2.2.2.1 (fun x hx => h x (by simp [flat, hx]))
    simp only [T.run]
    rw [tick_ok (by omega)]
    simp only
    by_cases ha : PS.get { s with steps := s.steps + 1 } i.a = 0
    · rw [if_pos ha]
      exact (ih _ (by show s.steps + 1 + _ ≤ _; omega)).mono (by show s.steps + 1 + _ ≤ _; omega)
    · rw [if_neg ha]
      have h1 := iha { s with steps := s.steps + 1 } (by show s.steps + 1 + _ ≤ _; omega)
      cases hr : a.run c { s with steps := s.steps + 1 } with
      | ok s2 =>
        rw [hr] at h1
        have h2 : s2.steps ≤ s.steps + 1 + a.cost := h1
        exact (ih s2 (by omega)).mono (by omega)
      | left s2 =>
        rw [hr] at h1
        have h2 : s2.steps ≤ s.steps + 1 + a.cost := h1
        show s2.steps ≤ _; omega
      | err n => rw [hr] at h1; exact h1
  | .ite2 i a x b j q, w, d, s, hw, h, hf => by
    simp only [T.wf] at hw
    simp only [T.cost] at hf ⊢
    have hq := T.cost_nonneg q (fun x hx => h x (by simp [flat, hx]))
    have hA := T.cost_nonneg a (fun x hx => h x (by simp [flat, hx]))
    have ih := fun s' => T.run_within c q w d s' hw.2.2.2.2.2.2 (fun x hx => h x (by simp [flat, hx]))
    have iha := fun s' => T.run_within c a w (d - 1) s' hw.2.2.2.2.1 (fun x hx => h x (by simp [flat, hx]))
    have ihb := fun s' => T.run_within c b w (d - 1) s' hw.2.2.2.2.2.1 (fun x hx => h x (by simp [flat, hx]))
    simp only [T.run]
    rw [tick_ok (by omega)]
    simp only
    by_cases ha : PS.get { s with steps := s.steps + 1 } i.a = 0
    · rw [if_pos ha]
      have h1 := ihb { s with steps := s.steps + 1 } (by show s.steps + 1 + _ ≤ _; omega)
      cases hr : b.run c { s with steps := s.steps + 1 } with
      | ok s2 =>
        rw [hr] at h1
        have h2 : s2.steps ≤ s.steps + 1 + b.cost := h1
        exact (ih s2 (by omega)).mono (by omega)
      | left s2 =>
        rw [hr] at h1
        have h2 : s2.steps ≤ s.steps + 1 + b.cost := h1
        show s2.steps ≤ _; omega
      | err n => rw [hr] at h1; exact h1
    · rw [if_neg ha]
      have h1 := iha { s with steps := s.steps + 1 } (by show s.steps + 1 + _ ≤ _; omega)
      cases hr : a.run c { s with steps := s.steps + 1 } with
      | ok s2 =>
        rw [hr] at h1
        have h2 : s2.steps ≤ s.steps + 1 + a.cost := h1
        exact (ih s2 (by omega)).mono (by omega)
      | left s2 =>
        rw [hr] at h1
        have h2 : s2.steps ≤ s.steps + 1 + a.cost := h1
        show s2.steps ≤ _; omega
      | err n => rw [hr] at h1; exact h1
  | .loop i a j q, w, d, s, hw, h, hf => by
    simp only [T.wf] at hw
    simp only [T.cost] at hf ⊢
    have hq := T.cost_nonneg q (fun x hx => h x (by simp [flat, hx]))
    have hA := T.cost_nonneg a (fun x hx => h x (by simp [flat, hx]))
    have hi := h i (by simp [flat])
    have ih := fun s' => T.run_within c q w d s' hw.2.2.2.2 (fun x hx => h x (by simp [flat, hx]))
    have iha := fun s' => T.run_within c a true (d - 1) s' hw.2.2.2.1 (fun x hx => h x (by simp [flat, hx]))
    have hl : ∀ (m : Nat) (x : PS), x.steps + m * (1 + a.cost) ≤ c.fuel → Within (loopRun c (fun s => a.run c s) m x) (x.steps + m * (1 + a.cost)) := by
      intro m
      induction m with
      | zero => intro x _; simp [loopRun, Within]
      | succ m ihm =>
        intro x hx
        have e : ((m + 1 : Nat) : Int) * (1 + a.cost) = m * (1 + a.cost) + (1 + a.cost) := by
          rw [show ((m + 1 : Nat) : Int) = (m : Int) + 1 by omega, Int.add_mul, Int.one_mul]
        have hm : 0 ≤ (m : Int) * (1 + a.cost) := Int.mul_nonneg (by omega) (by omega)
        rw [e] at hx ⊢
        simp only [loopRun]
        rw [tick_ok (by omega)]
        simp only
        have h1 := iha { x with steps := x.steps + 1 } (by show x.steps + 1 + _ ≤ _; omega)
        cases hr : a.run c { x with steps := x.steps + 1 } with
        | ok s2 =>
          rw [hr] at h1
          have h2 : s2.steps ≤ x.steps + 1 + a.cost := h1
          exact (ihm s2 (by omega)).mono (by omega)
        | left s2 =>
          rw [hr] at h1
          have h2 : s2.steps ≤ x.steps + 1 + a.cost := h1
          show s2.steps ≤ _; omega
        | err n => rw [hr] at h1; exact h1
    have hm : 0 ≤ i.arg * (1 + a.cost) := Int.mul_nonneg hi (by omega)
    simp only [T.run]
    rw [tick_ok (by omega)]
    simp only
    by_cases harg : i.arg < PS.get { s with steps := s.steps + 1 } i.a
    · rw [if_pos harg]; show (18 : Int) ≠ 19; decide
    · rw [if_neg harg]
      have hle : ((PS.get { s with steps := s.steps + 1 } i.a).toNat : Int) * (1 + a.cost) ≤ i.arg * (1 + a.cost) := Int.mul_le_mul_of_nonneg_right (by omega) (by omega)
      have h1 := hl (PS.get { s with steps := s.steps + 1 } i.a).toNat { s with steps := s.steps + 1 } (by show s.steps + 1 + _ ≤ _; omega)
      cases hr : loopRun c (fun s => a.run c s) (PS.get { s with steps := s.steps + 1 } i.a).toNat { s with steps := s.steps + 1 } with
      | ok s2 =>
        rw [hr] at h1
        have h2 : s2.steps ≤ s.steps + 1 + ((PS.get { s with steps := s.steps + 1 } i.a).toNat : Int) * (1 + a.cost) := h1
        exact (ih s2 (by omega)).mono (by omega)
      | left s2 =>
        rw [hr] at h1
        have h2 : s2.steps ≤ s.steps + 1 + ((PS.get { s with steps := s.steps + 1 } i.a).toNat : Int) * (1 + a.cost) := h1
        show s2.steps ≤ _; omega
      | err n => rw [hr] at h1; exact h1

/-! ### a run keeps a memory that fits -/
theorem fitB_set {a : Ar} {xs : List Int} {k : Nat} {v : Int} (h : fitB a xs = true) (hv : a.word = true ∨ v ≤ 255) : fitB a (xs.set k v) = true := by
  unfold fitB at *
  simp only [List.length_set, Bool.and_eq_true, decide_eq_true_eq, Bool.or_eq_true, Bool.not_eq_true', List.any_eq_false] at h ⊢
  refine ⟨h.1, ?_⟩
  rcases h.2 with h2 | h2
  · exact .inl h2
  · rcases hv with hv | hv
    · exact .inl hv
    · refine .inr fun x hx => ?_
      rcases List.mem_or_eq_of_mem_set hx with hx | rfl
      · exact h2 x hx
      · simp; omega

theorem fits_get {ars : List Ar} {arr : List (List Int)} {n : Nat} (h : fitsB ars arr n = true) : arr.length = ars.length ∧ n = 16 ∧ ∀ k, k < ars.length → fitB (ars.getD k default) (arr.getD k []) = true := by
  unfold fitsB at h
  simp only [Bool.and_eq_true, decide_eq_true_eq, List.all_eq_true, List.mem_range] at h
  exact ⟨h.1.1, h.1.2, h.2⟩

theorem getD_set_self {α : Type} (l : List α) (k : Nat) (v d : α) (h : k < l.length) : (l.set k v).getD k d = v := by
  rw [List.getD_eq_getElem?_getD, List.getElem?_set_self h]; rfl
theorem getD_set_ne {α : Type} (l : List α) (k j : Nat) (v d : α) (h : k ≠ j) : (l.set k v).getD j d = l.getD j d := by
  rw [List.getD_eq_getElem?_getD, List.getElem?_set_ne h, List.getD_eq_getElem?_getD]

/-- all but two operations keep arrays and the number of contexts -/
theorem effect_fits {c : MC} {s s' : PS} {i : RI} (h : fitsB c.ars s.arr s.ctx.length = true) (he : effect c s i = .ok s') : fitsB c.ars s'.arr s'.ctx.length = true := by
  by_cases h29 : i.op = 29
  · rw [effect_loop h29] at he
    split at he
    · cases he
    · split at he
      · cases he; exact h
      · unfold tick at he; split at he <;> cases he; exact h
  by_cases h31 : i.op = 31
  · rw [effect_end h31] at he
    split at he
    · cases he; exact h
    · split at he
      · cases he; exact h
      · split at he
        · cases he; exact h
        · unfold tick at he; split at he <;> cases he; exact h
  unfold effect at he
  rw [if_neg h29, if_neg h31] at he
  by_cases h0 : i.op = 0
  · rw [if_pos h0] at he; cases he; exact h
  rw [if_neg h0] at he
  by_cases h36 : i.op = 36
  · rw [if_pos h36] at he; cases he; exact h
  rw [if_neg h36] at he
  by_cases h37 : i.op = 37
  · rw [if_pos h37] at he; cases he; exact h
  rw [if_neg h37] at he
  by_cases h38 : i.op = 38
  · rw [if_pos h38] at he; cases he; exact h
  rw [if_neg h38] at he
  by_cases h32 : i.op = 32
  · rw [if_pos h32] at he; cases he; exact h
  rw [if_neg h32] at he
  by_cases h33 : i.op = 33
  · rw [if_pos h33] at he; cases he; exact h
  rw [if_neg h33] at he
  by_cases h34 : i.op = 34
  · rw [if_pos h34] at he; split at he <;> cases he; exact h
  rw [if_neg h34] at he
  by_cases h35 : i.op = 35
  · rw [if_pos h35] at he; cases he
    show fitsB c.ars s.arr (s.ctx.set _ _).length = true
    rw [List.length_set]; exact h
  rw [if_neg h35] at he
  by_cases h3 : i.op = 3
  · rw [if_pos h3] at he; split at he <;> cases he; exact h
  rw [if_neg h3] at he
  by_cases h4 : i.op = 4
  · rw [if_pos h4] at he
    split at he
    · cases he
      obtain ⟨g1, g2, g3⟩ := fits_get h
      refine fits_all (by rw [List.length_set]; exact g1) g2 (fun k hk => ?_)
      show fitB (c.ars.getD k default) ((s.arr.set i.arg.toNat _).getD k []) = true
      by_cases hki : i.arg.toNat = k
      · subst hki
        rw [getD_set_self _ _ _ _ (by rw [g1]; exact hk)]
        refine fitB_set (g3 _ hk) ?_
        by_cases hw : (c.ars.getD i.arg.toNat default).word = true
        · exact .inl hw
        · rw [if_neg hw]; right; omega
      · rw [getD_set_ne _ _ _ _ _ hki]
        exact g3 k hk
    · cases he
  rw [if_neg h4] at he
  by_cases h27 : i.op = 27
  · rw [if_pos h27] at he; cases he; split <;> exact h
  rw [if_neg h27] at he
  by_cases h28 : i.op = 28
  · rw [if_pos h28] at he; cases he; exact h
  rw [if_neg h28] at he
  by_cases h30 : i.op = 30
  · rw [if_pos h30] at he; cases he; split <;> exact h
  rw [if_neg h30] at he
  split at he <;> cases he
  exact h

theorem mstep_fits {c : MC} {s s' : PS} (h : fitsB c.ars s.arr s.ctx.length = true) (he : mstep c s = .ok s') : fitsB c.ars s'.arr s'.ctx.length = true := by
  unfold mstep at he
  have key : ∀ s1 : PS, fitsB c.ars s1.arr s1.ctx.length = true → ((effect c s1 (c.cd.getD s.pc default)).bind fun s => .ok { s with pc := s.pc + 1 }) = .ok s' → fitsB c.ars s'.arr s'.ctx.length = true := by
    intro s1 h1 h2
    cases hx : effect c s1 (c.cd.getD s.pc default) with
    | error n => rw [hx] at h2; cases h2
    | ok s2 =>
      rw [hx] at h2; cases h2
      have := effect_fits h1 hx
      exact this
  by_cases ho : (c.cd.getD s.pc default).op ≠ 28 ∧ (c.cd.getD s.pc default).op ≠ 31
  · simp only [if_pos ho] at he
    unfold tick at he
    split at he
    · exact key { s with steps := s.steps + 1 } h he
    · cases he
  · simp only [if_neg ho] at he
    exact key s h he

theorem Runs.fits {c : MC} {s s' : PS} (h : Runs c s (.ok s')) (hf : fitsB c.ars s.arr s.ctx.length = true) : fitsB c.ars s'.arr s'.ctx.length = true := by
  generalize hr : Except.ok s' = r at h
  induction h with
  | stop h => cases hr; exact hf
  | err _ _ => cases hr
  | step h1 h2 _ ih => exact ih (mstep_fits hf h2) hr
end Go.Proofs.Ytefdnjhhaejgbaa
