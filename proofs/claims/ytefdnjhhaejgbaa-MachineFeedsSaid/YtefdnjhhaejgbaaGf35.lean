/- A part of the proof of MachineFeeds: Cf Cg Ch St Rl. No condition. -/
import Derived.Laws.BytesArg
import Derived.Test.YtefdnjhhaejgbaaGf31
import Derived.Test.YtefdnjhhaejgbaaGf34
import Derived.Test.YtefdnjhhaejgbaaGf15
set_option linter.unusedSimpArgs false
set_option linter.unusedVariables false
namespace Go.Proofs.Ytefdnjhhaejgbaa
open Go.RowKit
set_option linter.unusedVariables false
def fewB (ars : List Ar) (cd : List RI) : Bool := (ars.take 20).all (fun a => !(decide (1000 < a.size) && decide (a.size ≤ 65536))) && (decide (ars.length ≤ 20) && decide (cd.length ≤ 300))
set_option maxRecDepth 100000 in
set_option maxHeartbeats 1000000 in
theorem fewR (arsA codeA : Option Addr) (n m arsC codeC : Nat) (regs spills : Int) (w : World) :
    Calls Try.prog 27 #[.agg #[.slice arsA n arsC, .int .i64 regs, .int .i64 spills, .slice codeA m codeC]] w fun e w' =>
      e = .returned (.bool (decide (n ≤ 20) && decide (m ≤ 300))) ∧ Below w.heap.size w w' := by
  by_cases h1 : n ≤ 20
  · have q : decide ((n : Int) ≤ 20) = true := by simp; omega
    have HE := Lib.hid (show (decide (n ≤ 20) && decide (m ≤ 300)) = decide ((m : Int) ≤ 300) by simp [h1]; omega)
    clear h1
    generalize (decide (n ≤ 20) && decide (m ≤ 300)) = r at HE ⊢
    go_enter Try.func27, Try.ntmps27
    go_wp2
    go_ret
    exact ⟨ret_bool HE.out.symm, (Below.refl _ _).alloc (Nat.le_refl _) _⟩
  · have q : decide ((n : Int) ≤ 20) = false := by simp; omega
    have HE := Lib.hid (show (decide (n ≤ 20) && decide (m ≤ 300)) = false by simp [h1])
    clear h1
    generalize (decide (n ≤ 20) && decide (m ≤ 300)) = r at HE ⊢
    go_enter Try.func27, Try.ntmps27
    go_wp2
    go_ret
    exact ⟨ret_bool HE.out.symm, (Below.refl _ _).alloc (Nat.le_refl _) _⟩
def smallA (a : Ar) : Bool := !(decide (1000 < a.size) && decide (a.size ≤ 65536))
theorem take_all {α : Type} [Inhabited α] (l : List α) (n : Nat) (p : α → Bool) (h : ∀ j, j < n → j < l.length → p (l.getD j default) = true) : (l.take n).all p = true := by
  rw [List.all_eq_true]
  intro x hx
  obtain ⟨j, hj, rfl⟩ := List.getElem_of_mem hx
  rw [List.length_take] at hj
  have := h j (by omega) (by omega)
  rw [List.getD_eq_getElem?_getD, List.getElem?_eq_getElem (by omega)] at this
  rw [List.getElem_take]
  exact this
theorem take_not {α : Type} [Inhabited α] (l : List α) (n : Nat) (p : α → Bool) (j : Nat) (h1 : j < n) (h2 : j < l.length) (h : p (l.getD j default) = false) : (l.take n).all p = false := by
  rw [List.all_eq_false]
  refine ⟨l[j], ?_, ?_⟩
  · exact List.mem_take_iff_getElem.2 ⟨j, by omega, rfl⟩
  · rw [List.getD_eq_getElem?_getD, List.getElem?_eq_getElem h2] at h
    simpa using h
theorem RowB.at {B : Nat} {w : World} {size : Nat} {a : Option Addr} {n : Nat} {f : Nat → Nat → Value} (h : RowB B w size a n f) {i j : Nat} (hi : i < n) (hj : j < size) : ∃ b off, a = some ⟨b, off, none⟩ ∧ b < B ∧ w.cell? ⟨b, off + i * size + j, none⟩ = some (f i j) := by
  obtain ⟨b, off, h1, h2, h3⟩ := h i hi
  exact ⟨b, off, h1, h2, h3 j hj⟩
set_option maxRecDepth 100000 in
set_option maxHeartbeats 1000000 in
theorem few_any (arsA codeA : Option Addr) (arsC codeC : Nat) (regs spills : Int) (ars : List Ar) (cd : List RI) (w : World) (hA : RowB w.heap.size w 2 arsA ars.length fun i j => (ars.getD i default).cell j) :
    Calls Try.prog 9 #[.agg #[.slice arsA ars.length arsC, .int .i64 regs, .int .i64 spills, .slice codeA cd.length codeC]] w fun e w' =>
      e = .returned (.bool (fewB ars cd)) ∧ Below w.heap.size w w' := by
  have HA := Lib.hid hA
  clear hA
  go_enter Try.func9, Try.ntmps9
  go_wp2
  go_loop [3] (fun i => ∃ k : Nat, i = .int .i64 (k : Int) ∧ k ≤ 20 ∧ Hid (∀ j, j < k → j < ars.length → smallA (ars.getD j default) = true)) (fun i => 20 - (intOf i).toNat)
  case atStart => exact ⟨0, rfl, by omega, Lib.hid (fun j hj => by omega)⟩
  case round =>
    obtain ⟨k, rfl, hk, hj⟩ := hrel
    have fin : (k < 20 → ars.length ≤ k) → fewB ars cd = (decide (ars.length ≤ 20) && decide (cd.length ≤ 300)) := by
      intro h
      unfold fewB
      rw [take_all ars 20 (fun a => !(decide (1000 < a.size) && decide (a.size ≤ 65536))) (fun j h1 h2 => hj.out j (by by_cases hh : k < 20 <;> omega) h2), Bool.true_and]
    have FIN := Lib.hid fin
    clear fin
    by_cases hlt : k < ars.length
    rotate_left
    · have q : decide (k < ars.length) = false := by simp; omega
      have HE := Lib.hid (FIN.out (by omega))
      clear FIN hj hlt
      go_wp2_with (go_at_call 27; refine (fewR _ _ _ _ _ _ _ _ _).mono ?_; rintro e w' ⟨rfl, hb⟩)
      go_ret
      exact ⟨ret_bool HE.out.symm, ((Below.refl _ _).alloc (Nat.le_refl _) _).trans (hb.mono (by simp))⟩
    have q : decide (k < ars.length) = true := by simp; omega
    by_cases h20 : k < 20
    rotate_left
    · have q2 : decide ((k : Int) < 20) = false := by simp; omega
      have HE := Lib.hid (FIN.out (by omega))
      clear FIN hj hlt
      go_wp2_with (go_at_call 27; refine (fewR _ _ _ _ _ _ _ _ _).mono ?_; rintro e w' ⟨rfl, hb⟩)
      go_ret
      exact ⟨ret_bool HE.out.symm, ((Below.refl _ _).alloc (Nat.le_refl _) _).trans (hb.mono (by simp))⟩
    have q2 : decide ((k : Int) < 20) = true := by simp; omega
    clear FIN
    obtain ⟨b, off, rfl, hbl, hcell⟩ := HA.out.at hlt (show 1 < 2 by omega)
    have hcell' : w.cell? ⟨b, off + k * 2 + 1, none⟩ = some (.int .i64 (ars.getD k default).size) := hcell
    obtain ⟨s, hs⟩ : ∃ s, (ars.getD k default).size = s := ⟨_, rfl⟩
    rw [hs] at hcell'
    have HSM : Hid (smallA (ars.getD k default) = !(decide (1000 < s) && decide (s ≤ 65536))) := Lib.hid (by unfold smallA; rw [hs])
    have HLT := Lib.hid hlt
    have hkk := nat_cast_ltP hlt
    clear hs hcell hlt
    by_cases h1 : 1000 < s
    rotate_left
    · have q3 : decide (s > 1000) = false := by simpa using h1
      go_wp2
      go_round
      case rel => exact ⟨k + 1, by go_num, by omega, Lib.hid (fun j hj2 hj3 => by
          by_cases h : j < k
          · exact hj.out j h hj3
          · have : j = k := by omega
            subst this; rw [HSM.out]; simp [h1])⟩
      case measure => simp [intOf]; omega
    have q3 : decide (s > 1000) = true := by simpa using h1
    by_cases h2 : s ≤ 65536
    rotate_left
    · have q4 : decide (s ≤ 65536) = false := by simpa using h2
      go_wp2
      go_round
      case rel => exact ⟨k + 1, by go_num, by omega, Lib.hid (fun j hj2 hj3 => by
          by_cases h : j < k
          · exact hj.out j h hj3
          · have : j = k := by omega
            subst this; rw [HSM.out]; simp [h2])⟩
      case measure => simp [intOf]; omega
    have q4 : decide (s ≤ 65536) = true := by simpa using h2
    have HE : Hid (fewB ars cd = false) := Lib.hid (by
      unfold fewB
      rw [take_not ars 20 (fun a => !(decide (1000 < a.size) && decide (a.size ≤ 65536))) k h20 HLT.out (by have := HSM.out; unfold smallA at this; rw [this]; simp [h1, h2]), Bool.false_and])
    go_wp2
    go_ret
    exact ⟨ret_bool HE.out.symm, (Below.refl _ _).alloc (Nat.le_refl _) _⟩
end Go.Proofs.Ytefdnjhhaejgbaa

namespace Go.Proofs.Ytefdnjhhaejgbaa
open Go.RowKit
set_option linter.unusedVariables false
theorem heap_old2 (w : World) (o1 o2 : Obj) : ((w.alloc o1).alloc o2).heap[w.heap.size]? = some o1 := by
  rw [Below.heap_alloc _ _ _ (by simp)]
  exact heap_new1 _ _
set_option maxRecDepth 100000 in
set_option maxHeartbeats 1000000 in
theorem same_mem (qa ca qb cb : Option Addr) (cq cc cr cd : Nat) (arr : List (List Int)) (ctx : List Int) (w : World) (h1 : GridR w qa arr) (h2 : RowB w.heap.size w 1 ca ctx.length fun j _ => .int .u32 (ctx.getD j 0))
    (h3 : GridR w qb arr) (h4 : RowB w.heap.size w 1 cb ctx.length fun j _ => .int .u32 (ctx.getD j 0)) (hA : arr.length ≤ 9223372036854775806) (hC : ctx.length ≤ 9223372036854775806) (hR : ∀ a ∈ arr, a.length ≤ 9223372036854775806) :
    Calls Try.prog 15 #[.agg #[.slice qa arr.length cq, .slice ca ctx.length cc], .agg #[.slice qb arr.length cr, .slice cb ctx.length cd]] w fun e w' =>
      e = .returned (.bool true) ∧ Below w.heap.size w w' := by
  have H1 := Lib.hid h1
  have H3 := Lib.hid h3
  have HR := Lib.hid hR
  have hW : Below w.heap.size w ((w.alloc (.cells #[.slice qa arr.length cq, .slice ca ctx.length cc] 31)).alloc (.cells #[.slice qb arr.length cr, .slice cb ctx.length cd] 31)) :=
    ((Below.refl _ _).alloc (Nat.le_refl _) _).alloc (by simp) _
  have HS := Lib.hid (same_nums ca cb cc cd ctx ctx _ ((h2.below hW).mono hW.size) ((h4.below hW).mono hW.size) hC)
  have HW := Lib.hid hW
  have hd : ((arr.length : Int) != (arr.length : Int)) = false := by simp
  have hd2 : (!decide (ctx = ctx)) = false := by simp
  clear h1 h2 h3 h4 hW hR
  go_enter Try.func15, Try.ntmps15
  go_wp2_with (go_at_call 24; refine HS.out.mono ?_; rintro e w1 ⟨rfl, n1, rfl⟩)
  clear HS
  refine wp_gen (fun W => Hid (Below w.heap.size w W) ∧ Blk W w.heap.size [.slice qa arr.length cq, .slice ca ctx.length cc] 31 ∧ Blk W (w.heap.size + 1) [.slice qb arr.length cr, .slice cb ctx.length cd] 31) ?_ ?_
  · refine ⟨Lib.hid (drewN_below HW.out _), ?_, heap_new2 _ _ _⟩
    exact heap_old2 _ _ _
  rintro W1 ⟨hb, k1, k2⟩
  clear HW
  go_loopw [5] (fun i wr => ∃ k : Nat, i = .int .i64 (k : Int) ∧ k ≤ arr.length ∧ Hid (Below w.heap.size w wr) ∧ Blk wr w.heap.size [.slice qa arr.length cq, .slice ca ctx.length cc] 31 ∧ Blk wr (w.heap.size + 1) [.slice qb arr.length cr, .slice cb ctx.length cd] 31) (fun i _ => arr.length - (intOf i).toNat)
  case atStart => exact ⟨0, rfl, Nat.zero_le _, hb, k1, k2⟩
  case round =>
    obtain ⟨k, rfl, hk, hbr, kb1, kb2⟩ := hrel
    have m0 : wr.cell? ⟨w.heap.size, 0, none⟩ = some (.slice qa arr.length cq) := kb1.cell 0
    have m1 : wr.cell? ⟨w.heap.size + 1, 0, none⟩ = some (.slice qb arr.length cr) := kb2.cell 0
    have l1 := kb1.lt
    have l2 := kb2.lt
    have KB := Lib.hid (And.intro kb1 kb2)
    clear kb1 kb2 hb k1 k2
    by_cases hlt : k < arr.length
    rotate_left
    · have q : decide (k < arr.length) = false := by simp; omega
      go_wp2
      go_ret
      exact ⟨rfl, hbr.out⟩
    have q : decide (k < arr.length) = true := by simp; omega
    have hkk := nat_cast_ltP hlt
    obtain ⟨b1, o1, p1, cp1, rfl, e1, r1⟩ := H1.out k hlt
    obtain ⟨b2, o2, p2, cp2, rfl, e2, r2⟩ := H3.out k hlt
    have lb1 : b1 < wr.heap.size := Nat.lt_of_lt_of_le (World.block_lt_of_cell? w _ e1) hbr.out.size
    have lb2 : b2 < wr.heap.size := Nat.lt_of_lt_of_le (World.block_lt_of_cell? w _ e2) hbr.out.size
    have c1 : wr.cell? ⟨b1, o1 + k, none⟩ = some (.slice p1 (arr.getD k []).length cp1) := by rw [hbr.out.cell (p := ⟨b1, o1 + k, none⟩) (World.block_lt_of_cell? w _ e1)]; exact e1
    have c2 : wr.cell? ⟨b2, o2 + k, none⟩ = some (.slice p2 (arr.getD k []).length cp2) := by rw [hbr.out.cell (p := ⟨b2, o2 + k, none⟩) (World.block_lt_of_cell? w _ e2)]; exact e2
    have hmem : arr.getD k [] ∈ arr := by rw [List.getD_eq_getElem?_getD, List.getElem?_eq_getElem hlt]; exact List.getElem_mem hlt
    have HS := Lib.hid (same_nums p1 p2 cp1 cp2 (arr.getD k []) (arr.getD k []) wr.drew (((r1.below hbr.out).mono hbr.out.size)) (((r2.below hbr.out).mono hbr.out.size)) (HR.out _ hmem))
    generalize arr.getD k [] = xs at c1 c2 HS
    have hd3 : (!decide (xs = xs)) = false := by simp
    clear e1 e2 r1 r2 hmem hlt
    go_wp2_with fail
    refine wp_region_keeps [0, 2, 5, 7, 3, 8] [(2, 0), (2, 2), (2, 5), (2, 7), (1, 1), (2, 3), (1, 4), (1, 6), (2, 8), (1, 9), (0, 10), (0, 11)] (by kernel_rfl) (by kernel_rfl) (fun c a d v w h => by cases d <;> exact h) ?_
    simp only [getPlan, List.filterMap_cons, List.filterMap_nil, List.getElem?_toArray, List.getElem?_cons_succ, List.getElem?_cons_zero, Option.map_some]
    repeat ((first | refine wpPlanK_pure (fun K hK => ?_) | refine wpPlanK_float (fun K hK => ?_)); go_simp; refine hK _ ?_; clear hK K)
    refine wpPlanK_keep ?_
    go_wp2_with (go_at_call 24; refine HS.out.mono ?_; rintro e w9 ⟨rfl, n9, rfl⟩)
    refine ⟨grew_below (drewN_below (Below.refl _ _) _), ?_⟩
    refine wpPlanK_keep ?_
    go_wp2
    refine ⟨grew_below (drewN_below (Below.refl _ _) _), ?_⟩
    refine wpPlanK_nil ?_
    go_wp2
    go_roundw
    case rel => exact ⟨k + 1, by go_num, by omega, Lib.hid (drewN_below hbr.out _), KB.out.1, KB.out.2⟩
    case measure => simp [intOf]; omega
theorem conv_row (w : World) (a : Option Addr) (c : Nat) (xs : List Int) (h : RowB w.heap.size w 1 a xs.length fun j _ => .int .u8 (xs.getD j 0)) :
    (convert 47 9 (.slice a xs.length c)).run Try.prog w = .ok (.string (strOfNums xs)) w := by
  cases xs with
  | nil =>
    cases a with
    | none => exact run_convert_bytes_nil (P := Try.prog) w 47 5 Try.underlying47 Try.underlying5 0 c 9 Try.underlying9
    | some a =>
      rw [run_convert_bytes_string w 47 9 5 _ _ c Try.underlying47 Try.underlying5 Try.underlying9]
      simp [Conv.bytesToString, loadCells, loadCellsFrom]
      rfl
  | cons x xs =>
    obtain ⟨b, off, rfl, _, h0⟩ := h 0 (by simp)
    refine run_convert_bytes_arg (P := Try.prog) w 47 5 Try.underlying47 Try.underlying5 b off _ c (x :: xs) rfl (fun i hi => ?_) 9 Try.underlying9
    obtain ⟨b', off', e, _, h1⟩ := h i hi
    simp only [Option.some.injEq, Addr.mk.injEq] at e
    obtain ⟨rfl, rfl, _⟩ := e
    have := h1 0 (by omega)
    simpa using this
def ResAt (w : World) (arr : List (List Int)) (ctx out : List Int) (st : Int) (v : Value) : Prop :=
  ∃ qa cq ca cc oa oc, v = .agg #[.slice qa arr.length cq, .slice ca ctx.length cc, .slice oa out.length oc, .int .i64 st] ∧ GridR w qa arr ∧ RowB w.heap.size w 1 ca ctx.length (fun j _ => .int .u32 (ctx.getD j 0)) ∧
    RowB w.heap.size w 1 oa out.length (fun j _ => .int .u8 (out.getD j 0))
theorem ResAt.below {w w' : World} {arr : List (List Int)} {ctx out : List Int} {st : Int} {v : Value} (h : ResAt w arr ctx out st v) (hb : Below w.heap.size w w') : ResAt w' arr ctx out st v := by
  obtain ⟨qa, cq, ca, cc, oa, oc, rfl, h1, h2, h3⟩ := h
  exact ⟨qa, cq, ca, cc, oa, oc, rfl, h1.below hb, (h2.below hb).mono hb.size, (h3.below hb).mono hb.size⟩
set_option maxRecDepth 100000 in
set_option maxHeartbeats 1000000 in
theorem same_result (v1 v2 : Value) (s1 s2 : Int) (arr : List (List Int)) (ctx out : List Int) (w : World) (h1 : ResAt w arr ctx out s1 v1) (h2 : ResAt w arr ctx out s2 v2)
    (hA : arr.length ≤ 9223372036854775806) (hC : ctx.length ≤ 9223372036854775806) (hR : ∀ a ∈ arr, a.length ≤ 9223372036854775806) :
    Calls Try.prog 41 #[v1, v2] w fun e w' => e = .returned (.bool true) ∧ Below w.heap.size w w' := by
  obtain ⟨qa, cq, ca, cc, oa, oc, rfl, g1, g2, g3⟩ := h1
  obtain ⟨qb, cr, cb, cd, ob, od, rfl, k1, k2, k3⟩ := h2
  have hW : Below w.heap.size w ((w.alloc (.cells #[.slice qa arr.length cq, .slice ca ctx.length cc, .slice oa out.length oc, .int .i64 s1] 49)).alloc (.cells #[.slice qb arr.length cr, .slice cb ctx.length cd, .slice ob out.length od, .int .i64 s2] 49)) :=
    ((Below.refl _ _).alloc (Nat.le_refl _) _).alloc (by simp) _
  have HS := Lib.hid (same_mem qa ca qb cb cq cc cr cd arr ctx _ (g1.below hW) ((g2.below hW).mono hW.size) (k1.below hW) ((k2.below hW).mono hW.size) hA hC hR)
  have x1 := conv_row _ oa oc out ((g3.below hW).mono hW.size)
  have x2 := conv_row _ ob od out ((k3.below hW).mono hW.size)
  have HW := Lib.hid hW
  clear g1 g2 g3 k1 k2 k3 hW hR
  go_enter Try.func41, Try.ntmps41
  go_wp2_with (go_at_call 15; refine HS.out.mono ?_; rintro e w1 ⟨rfl, hb⟩)
  go_ret
  exact ⟨rfl, HW.out.trans (hb.mono HW.out.size)⟩
set_option maxRecDepth 100000 in
set_option maxHeartbeats 1000000 in
theorem same_run (v1 v2 : Value) (st : Int) (arr : List (List Int)) (ctx out : List Int) (w : World) (h1 : ResAt w arr ctx out st v1) (h2 : ResAt w arr ctx out st v2)
    (hA : arr.length ≤ 9223372036854775806) (hC : ctx.length ≤ 9223372036854775806) (hR : ∀ a ∈ arr, a.length ≤ 9223372036854775806) :
    Calls Try.prog 20 #[v1, v2] w fun e w' => e = .returned (.bool true) ∧ Below w.heap.size w w' := by
  have G1 := Lib.hid h1
  have G2 := Lib.hid h2
  obtain ⟨qa, cq, ca, cc, oa, oc, rfl, g1, g2, g3⟩ := h1
  obtain ⟨qb, cr, cb, cd, ob, od, rfl, k1, k2, k3⟩ := h2
  clear g1 g2 g3 k1 k2 k3
  have hW : Below w.heap.size w ((w.alloc (.cells #[.slice qa arr.length cq, .slice ca ctx.length cc, .slice oa out.length oc, .int .i64 st] 49)).alloc (.cells #[.slice qb arr.length cr, .slice cb ctx.length cd, .slice ob out.length od, .int .i64 st] 49)) :=
    ((Below.refl _ _).alloc (Nat.le_refl _) _).alloc (by simp) _
  have HS := Lib.hid (same_result _ _ st st arr ctx out _ (G1.out.below hW) (G2.out.below hW) hA hC hR)
  have HW := Lib.hid hW
  have hd : (st == st) = true := by simp
  clear hW hR G1 G2
  go_enter Try.func20, Try.ntmps20
  go_wp2_with (go_at_call 41; refine HS.out.mono ?_; rintro e w1 ⟨rfl, hb⟩)
  go_ret
  exact ⟨rfl, HW.out.trans (hb.mono HW.out.size)⟩
end Go.Proofs.Ytefdnjhhaejgbaa

namespace Go.Proofs.Ytefdnjhhaejgbaa
open Go.RowKit
set_option linter.unusedVariables false
theorem fits_all {ars : List Ar} {arr : List (List Int)} {n : Nat} (h1 : arr.length = ars.length) (h2 : n = 16) (h : ∀ k, k < ars.length → fitB (ars.getD k default) (arr.getD k []) = true) : fitsB ars arr n = true := by
  unfold fitsB
  simp only [h1, h2, decide_true, Bool.true_and, List.all_eq_true, List.mem_range]
  exact h
theorem fitB_all {a : Ar} {xs : List Int} (h : (xs.length : Int) = a.size) (hw : ∀ j, j < xs.length → xs.getD j 0 ≤ 255) : fitB a xs = true := by
  unfold fitB
  simp [h]
  right
  intro x hx
  obtain ⟨j, hj, rfl⟩ := List.getElem_of_mem hx
  have := hw j hj
  rw [List.getD_eq_getElem?_getD, List.getElem?_eq_getElem hj] at this
  simpa using this
end Go.Proofs.Ytefdnjhhaejgbaa

namespace Go.Proofs.Ytefdnjhhaejgbaa
open Go.RowKit
set_option linter.unusedVariables false
/-! ### runs within the bound -/
def Within (o : Out) (m : Int) : Prop := match o with
  | .ok s => s.steps ≤ m
  | .left s => s.steps ≤ m
  | .err n => n ≠ 19
theorem Within.mono {o : Out} {m m' : Int} (h : Within o m) (hm : m ≤ m') : Within o m' := by
  cases o with
  | ok s => simp only [Within] at *; omega
  | left s => simp only [Within] at *; omega
  | err n => exact h
/-! ### a run keeps a memory that fits -/
theorem fitB_set {a : Ar} {xs : List Int} {k : Nat} {v : Int} (h : fitB a xs = true) (hv : a.word = true ∨ v ≤ 255) : fitB a (xs.set k v) = true := by
  unfold fitB at *
  simp only [List.length_set, Bool.and_eq_true, decide_eq_true_eq, Bool.or_eq_true, Bool.not_eq_true', List.any_eq_false] at h ⊢
  refine ⟨h.1, ?_⟩
  rcases h.2 with h2 | h2
  · exact .inl h2
  · rcases hv with hv | hv
    · exact .inl hv
    · refine .inr fun x hx => ?_
      rcases List.mem_or_eq_of_mem_set hx with hx | rfl
      · exact h2 x hx
      · simp; omega
theorem fits_get {ars : List Ar} {arr : List (List Int)} {n : Nat} (h : fitsB ars arr n = true) : arr.length = ars.length ∧ n = 16 ∧ ∀ k, k < ars.length → fitB (ars.getD k default) (arr.getD k []) = true := by
  unfold fitsB at h
  simp only [Bool.and_eq_true, decide_eq_true_eq, List.all_eq_true, List.mem_range] at h
  exact ⟨h.1.1, h.1.2, h.2⟩
theorem getD_set_self {α : Type} (l : List α) (k : Nat) (v d : α) (h : k < l.length) : (l.set k v).getD k d = v := by
  rw [List.getD_eq_getElem?_getD, List.getElem?_set_self h]; rfl
theorem getD_set_ne {α : Type} (l : List α) (k j : Nat) (v d : α) (h : k ≠ j) : (l.set k v).getD j d = l.getD j d := by
  rw [List.getD_eq_getElem?_getD, List.getElem?_set_ne h, List.getD_eq_getElem?_getD]
theorem effect_fits {c : MC} {s s' : PS} {i : RI} (h : fitsB c.ars s.arr s.ctx.length = true) (he : effect c s i = .ok s') : fitsB c.ars s'.arr s'.ctx.length = true := by
  by_cases h29 : i.op = 29
  · rw [effect_loop h29] at he
    split at he
    · cases he
    · split at he
      · cases he; exact h
      · unfold tick at he; split at he <;> cases he; exact h
  by_cases h31 : i.op = 31
  · rw [effect_end h31] at he
    split at he
    · cases he; exact h
    · split at he
      · cases he; exact h
      · split at he
        · cases he; exact h
        · unfold tick at he; split at he <;> cases he; exact h
  unfold effect at he
  rw [if_neg h29, if_neg h31] at he
  by_cases h0 : i.op = 0
  · rw [if_pos h0] at he; cases he; exact h
  rw [if_neg h0] at he
  by_cases h36 : i.op = 36
  · rw [if_pos h36] at he; cases he; exact h
  rw [if_neg h36] at he
  by_cases h37 : i.op = 37
  · rw [if_pos h37] at he; cases he; exact h
  rw [if_neg h37] at he
  by_cases h38 : i.op = 38
  · rw [if_pos h38] at he; cases he; exact h
  rw [if_neg h38] at he
  by_cases h32 : i.op = 32
  · rw [if_pos h32] at he; cases he; exact h
  rw [if_neg h32] at he
  by_cases h33 : i.op = 33
  · rw [if_pos h33] at he; cases he; exact h
  rw [if_neg h33] at he
  by_cases h34 : i.op = 34
  · rw [if_pos h34] at he; split at he <;> cases he; exact h
  rw [if_neg h34] at he
  by_cases h35 : i.op = 35
  · rw [if_pos h35] at he; cases he
    show fitsB c.ars s.arr (s.ctx.set _ _).length = true
    rw [List.length_set]; exact h
  rw [if_neg h35] at he
  by_cases h3 : i.op = 3
  · rw [if_pos h3] at he; split at he <;> cases he; exact h
  rw [if_neg h3] at he
  by_cases h4 : i.op = 4
  · rw [if_pos h4] at he
    split at he
    · cases he
      obtain ⟨g1, g2, g3⟩ := fits_get h
      refine fits_all (by rw [List.length_set]; exact g1) g2 (fun k hk => ?_)
      show fitB (c.ars.getD k default) ((s.arr.set i.arg.toNat _).getD k []) = true
      by_cases hki : i.arg.toNat = k
      · subst hki
        rw [getD_set_self _ _ _ _ (by rw [g1]; exact hk)]
        refine fitB_set (g3 _ hk) ?_
        by_cases hw : (c.ars.getD i.arg.toNat default).word = true
        · exact .inl hw
        · rw [if_neg hw]; right; omega
      · rw [getD_set_ne _ _ _ _ _ hki]
        exact g3 k hk
    · cases he
  rw [if_neg h4] at he
  by_cases h27 : i.op = 27
  · rw [if_pos h27] at he; cases he; split <;> exact h
  rw [if_neg h27] at he
  by_cases h28 : i.op = 28
  · rw [if_pos h28] at he; cases he; exact h
  rw [if_neg h28] at he
  by_cases h30 : i.op = 30
  · rw [if_pos h30] at he; cases he; split <;> exact h
  rw [if_neg h30] at he
  split at he <;> cases he
  exact h
theorem mstep_fits {c : MC} {s s' : PS} (h : fitsB c.ars s.arr s.ctx.length = true) (he : mstep c s = .ok s') : fitsB c.ars s'.arr s'.ctx.length = true := by
  unfold mstep at he
  have key : ∀ s1 : PS, fitsB c.ars s1.arr s1.ctx.length = true → ((effect c s1 (c.cd.getD s.pc default)).bind fun s => .ok { s with pc := s.pc + 1 }) = .ok s' → fitsB c.ars s'.arr s'.ctx.length = true := by
    intro s1 h1 h2
    cases hx : effect c s1 (c.cd.getD s.pc default) with
    | error n => rw [hx] at h2; cases h2
    | ok s2 =>
      rw [hx] at h2; cases h2
      have := effect_fits h1 hx
      exact this
  by_cases ho : (c.cd.getD s.pc default).op ≠ 28 ∧ (c.cd.getD s.pc default).op ≠ 31
  · simp only [if_pos ho] at he
    unfold tick at he
    split at he
    · exact key { s with steps := s.steps + 1 } h he
    · cases he
  · simp only [if_neg ho] at he
    exact key s h he
theorem Runs.fits {c : MC} {s s' : PS} (h : Runs c s (.ok s')) (hf : fitsB c.ars s.arr s.ctx.length = true) : fitsB c.ars s'.arr s'.ctx.length = true := by
  generalize hr : Except.ok s' = r at h
  induction h with
  | stop h => cases hr; exact hf
  | err _ _ => cases hr
  | step h1 h2 _ ih => exact ih (mstep_fits hf h2) hr
end Go.Proofs.Ytefdnjhhaejgbaa

namespace Go.Proofs.Ytefdnjhhaejgbaa
open Go.ChangeShapes Go.WideShapes Go.ChangeAt Go.RowKit Go.Deep Go.Joins
set_option linter.unusedVariables false
set_option maxRecDepth 100000 in
set_option maxHeartbeats 1000000 in
theorem lightF_any (fuel : Int) (w : World) : Calls Try.prog 17 #[.int .i64 fuel] w fun e w' => e = .returned (.bool (decide (fuel ≤ 5000) || decide (281474976710656 < fuel))) ∧ w' = w := by
  cases h : decide (fuel ≤ 5000)
  all_goals
    go_enter Try.func17, Try.ntmps17
    go_wp2
    go_ret
    exact ⟨by simp [h], rfl⟩
end Go.Proofs.Ytefdnjhhaejgbaa
