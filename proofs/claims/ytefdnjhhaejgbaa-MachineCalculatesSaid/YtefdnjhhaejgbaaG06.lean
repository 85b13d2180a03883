/- A part of the proof of MachineCalculates: O2 P R N S U. No condition. -/
import Derived.Deep.WholeRow
import Derived.Lib.Hide
import Derived.LoopTactic
import Derived.Test.YtefdnjhhaejgbaaG05
import Derived.Test.YtefdnjhhaejgbaaG01
import Derived.Test.YtefdnjhhaejgbaaG02
import Derived.Test.YtefdnjhhaejgbaaG04
namespace Go.Proofs.Ytefdnjhhaejgbaa
open Go.RowKit
set_option linter.unusedVariables false

set_option maxRecDepth 100000 in
set_option maxHeartbeats 1000000 in
theorem most_any (arsA codeA : Option Addr) (nA arsC nC codeC : Nat) (regs spills op : Int) (w : World) (hA : nA ≤ 9223372036854775807) (hs : 0 ≤ spills ∧ spills ≤ 1024) :
    Calls Try.prog 79 #[.agg #[.slice arsA nA arsC, .int .i64 regs, .int .i64 spills, .slice codeA nC codeC], .int .i64 op] w fun e w' => e = .returned (.int .i64 (mostArg nA spills op)) ∧ Below w.heap.size w w' := by
  have hb : Below w.heap.size w (w.alloc (.cells #[.slice arsA nA arsC, .int .i64 regs, .int .i64 spills, .slice codeA nC codeC] 25)) := (Below.refl _ _).alloc (Nat.le_refl _) _
  by_cases h0 : op = 0
  · subst h0
    go_enter Try.func79, Try.ntmps79
    go_wp2
    go_ret
    exact ⟨rfl, hb⟩
  by_cases h3 : op = 3
  · subst h3
    go_enter Try.func79, Try.ntmps79
    go_wp2
    go_ret
    exact ⟨ret_int (by simp [mostArg]), hb⟩
  by_cases h4 : op = 4
  · subst h4
    go_enter Try.func79, Try.ntmps79
    go_wp2
    go_ret
    exact ⟨ret_int (by simp [mostArg]), hb⟩
  by_cases h35 : op = 35
  · subst h35
    go_enter Try.func79, Try.ntmps79
    go_wp2
    go_ret
    exact ⟨rfl, hb⟩
  by_cases h29 : op = 29
  · subst h29
    go_enter Try.func79, Try.ntmps79
    go_wp2
    go_ret
    exact ⟨rfl, hb⟩
  by_cases h37 : op = 37
  · subst h37
    go_enter Try.func79, Try.ntmps79
    go_wp2
    go_ret
    exact ⟨ret_int (by simp [mostArg]), hb⟩
  by_cases h38 : op = 38
  · subst h38
    go_enter Try.func79, Try.ntmps79
    go_wp2
    go_ret
    exact ⟨ret_int (by simp [mostArg]), hb⟩
  have e : mostArg nA spills op = 0 := by simp [mostArg, h0, h3, h4, h35, h29, h37, h38]
  rw [e]
  clear e
  have q0 : (op == 0) = false := by simpa using h0
  have q3 : (op == 3) = false := by simpa using h3
  have q4 : (op == 4) = false := by simpa using h4
  have q35 : (op == 35) = false := by simpa using h35
  have q29 : (op == 29) = false := by simpa using h29
  have q37 : (op == 37) = false := by simpa using h37
  have q38 : (op == 38) = false := by simpa using h38
  go_enter Try.func79, Try.ntmps79
  go_wp2
  go_ret
  exact ⟨rfl, hb⟩

set_option maxRecDepth 100000 in
set_option maxHeartbeats 1000000 in
theorem rreg_any (n : Int) (used : Bool) (b : Nat) (regs : Int) (w : World) (hc : w.cell? ⟨b, 1, none⟩ = some (.int .i64 regs)) :
    Calls Try.prog 78 #[.int .i64 n, .bool used, .pointer (some ⟨b, 0, none⟩)] w fun e w' => e = .returned (.bool (rightReg regs n used)) ∧ w = w' := by
  cases used with
  | true =>
    by_cases h : 0 ≤ n
    all_goals
      go_enter Try.func78, Try.ntmps78
      go_wp2
      go_ret
      exact ⟨ret_bool (by simp [rightReg, h]; try omega), rfl⟩
  | false =>
    go_enter Try.func78, Try.ntmps78
    go_wp2
    go_ret
    exact ⟨ret_bool (by by_cases h : n = -1 <;> simp [rightReg, h]), rfl⟩

theorem rreg_is (n : Int) (used : Bool) (b : Nat) (regs : Int) (w : World) (hc : w.cell? ⟨b, 1, none⟩ = some (.int .i64 regs)) (r : Bool) (hr : rightReg regs n used = r) :
    Calls Try.prog 78 #[.int .i64 n, .bool used, .pointer (some ⟨b, 0, none⟩)] w fun e w' => e = .returned (.bool r) ∧ w = w' := by
  rw [← hr]; exact rreg_any n used b regs w hc

theorem tb6_cells {w : World} {b : Nat} {t : TypeId} (h : Blk w b (tabCells tb6) t) {op : Nat} (hop : op < 39) :
    w.cell? ⟨b, op * 4, none⟩ = some (.bool (isOp op)) ∧ w.cell? ⟨b, op * 4 + 1, none⟩ = some (.bool (usesTo op)) ∧ w.cell? ⟨b, op * 4 + 2, none⟩ = some (.bool (usesA op)) ∧ w.cell? ⟨b, op * 4 + 3, none⟩ = some (.bool (usesB op)) := by
  have e := tb6_get ⟨op, hop⟩
  simp only at e
  have g := fun j (hj : j < 4) => tabCells_get tb6 op j (show op < 39 from hop) hj
  rw [e] at g
  rw [Nat.mul_comm op 4]
  exact ⟨(h.cell _).trans (g 0 (by omega)), (h.cell _).trans (g 1 (by omega)), (h.cell _).trans (g 2 (by omega)), (h.cell _).trans (g 3 (by omega))⟩

def CheckCode (arsA codeA : Option Addr) (nA arsC nC codeC : Nat) (regs spills : Int) : Value := .agg #[.slice arsA nA arsC, .int .i64 regs, .int .i64 spills, .slice codeA nC codeC]

set_option maxRecDepth 100000 in
set_option maxHeartbeats 1000000 in
theorem check_far (arsA codeA : Option Addr) (nA arsC nC codeC : Nat) (regs spills op to a bb arg : Int) (w : World) (h : op < 0 ∨ 39 ≤ op) :
    Calls Try.prog 46 #[.agg #[.slice arsA nA arsC, .int .i64 regs, .int .i64 spills, .slice codeA nC codeC], .agg #[.int .i64 op, .int .i64 to, .int .i64 a, .int .i64 bb, .int .u32 arg], .agg (tabCells tb6).toArray] w fun e w' => e = .returned (.int .i64 1) ∧ Below w.heap.size w w' := by
  rcases h with h | h
  · go_enter Try.func46, Try.ntmps46
    go_wp2
    go_ret
    exact ⟨rfl, (((Below.refl _ _).alloc (by simp) _).alloc (by simp) _).alloc (by simp; omega) _⟩
  · have h2 : ¬ op < 0 := by omega
    go_enter Try.func46, Try.ntmps46
    go_wp2
    go_ret
    exact ⟨rfl, (((Below.refl _ _).alloc (by simp) _).alloc (by simp) _).alloc (by simp; omega) _⟩


/-- the three boxes of 'check' -/
def ChkBoxes (w : World) (arsA codeA : Option Addr) (nA arsC nC codeC : Nat) (regs spills op to a bb arg : Int) (z : World) : Prop :=
  Below w.heap.size w z ∧ Blk z w.heap.size [.slice arsA nA arsC, .int .i64 regs, .int .i64 spills, .slice codeA nC codeC] 25 ∧ Blk z (w.heap.size + 1) [.int .i64 op, .int .i64 to, .int .i64 a, .int .i64 bb, .int .u32 arg] 61 ∧
    Blk z (w.heap.size + 1 + 1) (tabCells tb6) 87 ∧ w.heap.size + 2 < z.heap.size
theorem chk_boxes (w : World) (arsA codeA : Option Addr) (nA arsC nC codeC : Nat) (regs spills op to a bb arg : Int) :
    ChkBoxes w arsA codeA nA arsC nC codeC regs spills op to a bb arg (((w.alloc (.cells #[.slice arsA nA arsC, .int .i64 regs, .int .i64 spills, .slice codeA nC codeC] 25)).alloc (.cells #[.int .i64 op, .int .i64 to, .int .i64 a, .int .i64 bb, .int .u32 arg] 61)).alloc (.cells (tabCells tb6).toArray 87)) := by
  refine ⟨(((Below.refl _ _).alloc (by simp) _).alloc (by simp) _).alloc (by simp; omega) _, ?_, ?_, ?_, by simp⟩
  · unfold Blk
    rw [Below.heap_alloc _ _ _ (by simp; omega), Below.heap_alloc _ _ _ (by simp)]
    exact heap_new1 _ _
  · unfold Blk
    rw [Below.heap_alloc _ _ _ (by simp)]
    exact heap_new2 _ _ _
  · have := heap_new1 ((w.alloc (.cells #[.slice arsA nA arsC, .int .i64 regs, .int .i64 spills, .slice codeA nC codeC] 25)).alloc (.cells #[.int .i64 op, .int .i64 to, .int .i64 a, .int .i64 bb, .int .u32 arg] 61)) (.cells (tabCells tb6).toArray 87)
    unfold Blk
    simpa using this

set_option maxRecDepth 100000 in
set_option maxHeartbeats 1000000 in
theorem check_none (arsA codeA : Option Addr) (nA arsC nC codeC : Nat) (regs spills : Int) (op : Nat) (to a bb arg : Int) (w : World) (h : op < 39) (hk : isOp op = false) :
    Calls Try.prog 46 #[.agg #[.slice arsA nA arsC, .int .i64 regs, .int .i64 spills, .slice codeA nC codeC], .agg #[.int .i64 (op : Int), .int .i64 to, .int .i64 a, .int .i64 bb, .int .u32 arg], .agg (tabCells tb6).toArray] w fun e w' => e = .returned (.int .i64 1) ∧ Below w.heap.size w w' := by
  have h0 : (0 : Int) ≤ (op : Int) ∧ (op : Int) < 39 ∧ ¬ (op : Int) < 0 ∧ ¬ (39 ≤ (op : Int)) := by omega
  go_enter Try.func46, Try.ntmps46
  go_upto_region 1 with (fail)
  refine wp_gen _ (chk_boxes w arsA codeA nA arsC nC codeC regs spills op to a bb arg) ?_
  rintro z ⟨hb, b1, b2, b3, hz⟩
  have q := (tb6_cells b3 h).1
  rw [hk] at q
  have c0 : z.cell? ⟨w.heap.size + 1, 0, none⟩ = some (.int .i64 (op : Int)) := b2.cell 0
  have HB := Lib.hid hb
  clear b1 b2 b3 hb
  go_wp2
  go_ret
  exact ⟨rfl, HB.out⟩

set_option maxRecDepth 100000 in
set_option maxHeartbeats 1000000 in
theorem check_c1 (arsA codeA : Option Addr) (nA arsC nC codeC : Nat) (regs spills : Int) (op : Nat) (to a bb arg : Int) (w : World) (h : op < 39) (hk : isOp op = true) (hA : nA ≤ 9223372036854775807) (hs : 0 ≤ spills ∧ spills ≤ 1024) (harg : 0 ≤ arg ∧ arg < 4294967296) (e1 : rightReg regs to (usesTo op) = false) :
    Calls Try.prog 46 #[.agg #[.slice arsA nA arsC, .int .i64 regs, .int .i64 spills, .slice codeA nC codeC], .agg #[.int .i64 (op : Int), .int .i64 to, .int .i64 a, .int .i64 bb, .int .u32 arg], .agg (tabCells tb6).toArray] w fun e w' => e = .returned (.int .i64 2) ∧ Below w.heap.size w w' := by
  have h0 : (0 : Int) ≤ (op : Int) ∧ (op : Int) < 39 ∧ ¬ (op : Int) < 0 ∧ ¬ (39 ≤ (op : Int)) := by omega
  have hmf : ∀ (fn : Fn) (first cap : Array Value) (w : World), (Instr.makeFunc fn first cap).run Try.prog w = .ok (.func fn first cap) w := fun _ _ _ _ => rfl
  have HE1 := Lib.hid e1
  clear e1
  go_enter Try.func46, Try.ntmps46
  go_upto_region 1 with (fail)
  refine wp_gen _ (chk_boxes w arsA codeA nA arsC nC codeC regs spills op to a bb arg) ?_
  rintro z ⟨hb, b1, b2, b3, hz⟩
  obtain ⟨q0, q1, q2, q3⟩ := tb6_cells b3 h
  rw [hk] at q0
  have c0 : z.cell? ⟨w.heap.size + 1, 0, none⟩ = some (.int .i64 (op : Int)) := b2.cell 0
  have c1 : z.cell? ⟨w.heap.size + 1, 1, none⟩ = some (.int .i64 to) := b2.cell 1
  have c2 : z.cell? ⟨w.heap.size + 1, 2, none⟩ = some (.int .i64 a) := b2.cell 2
  have c3 : z.cell? ⟨w.heap.size + 1, 3, none⟩ = some (.int .i64 bb) := b2.cell 3
  have c4 : z.cell? ⟨w.heap.size + 1, 4, none⟩ = some (.int .u32 arg) := b2.cell 4
  have d0 : z.cell? ⟨w.heap.size, 0, none⟩ = some (.slice arsA nA arsC) := b1.cell 0
  have d1 : z.cell? ⟨w.heap.size, 1, none⟩ = some (.int .i64 regs) := b1.cell 1
  have d1' : z.cell? ⟨w.heap.size, 0 + 1, none⟩ = some (.int .i64 regs) := b1.cell 1
  have d2 : z.cell? ⟨w.heap.size, 0 + 1 + 1, none⟩ = some (.int .i64 spills) := b1.cell 2
  have d3 : z.cell? ⟨w.heap.size, 0 + 1 + 1 + 1, none⟩ = some (.slice codeA nC codeC) := b1.cell 3
  have HB := Lib.hid hb
  have hz0 : w.heap.size < z.heap.size := by omega
  have hz1 : w.heap.size + 1 < z.heap.size := by omega
  have hz2 : w.heap.size + 1 + 1 < z.heap.size := by omega
  clear b1 b2 b3 hb
  have dz : ∀ o, (z.alloc o).drew.cell? ⟨w.heap.size, 1, none⟩ = some (.int .i64 regs) := fun o => by show (z.alloc o).cell? _ = _; rw [World.cell?_alloc_past _ _ _ hz0]; exact d1
  have HDZ := Lib.hid dz
  clear dz
  go_wp2_with fail
  refine wp_region_keeps [0, 1, 3, 8, 9, 11, 17, 18, 20, 26, 30, 28] [(2, 0), (2, 1), (2, 3), (1, 2), (1, 4), (0, 5), (0, 6), (0, 7), (2, 8), (2, 9), (2, 11), (1, 10), (0, 12), (0, 13), (0, 14), (0, 15), (0, 16), (2, 17), (2, 18), (2, 20), (1, 19), (0, 21), (0, 22), (0, 23), (0, 24), (0, 25), (2, 26), (2, 30), (1, 27), (2, 28), (1, 29), (0, 31), (0, 32), (0, 33), (0, 34)] (by kernel_rfl) (by kernel_rfl) (fun c a d v w h => by cases d <;> exact h) ?_
  simp only [getPlan, List.filterMap_cons, List.filterMap_nil, List.getElem?_toArray, List.getElem?_cons_succ, List.getElem?_cons_zero, Option.map_some]
  repeat ((first | refine wpPlanK_pure (fun K hK => ?_) | refine wpPlanK_float (fun K hK => ?_)); go_simp; refine hK _ ?_; clear hK K)
  repeat (first
    | ((first | refine wpPlanK_pure (fun K hK => ?_) | refine wpPlanK_float (fun K hK => ?_)); go_simp; refine hK _ ?_; clear hK K)
    | (refine wpPlanK_keep ?_; go_wp2_with (first | (go_at_call 78; refine (rreg_is _ _ _ regs _ (HDZ.out _) _ (by first | exact HE1.out)).mono ?_; rintro e w' ⟨rfl, rfl⟩) | (go_at_call 79; refine (most_any _ _ _ _ _ _ _ _ _ _ hA hs).mono ?_; rintro e w9 ⟨rfl, hb9⟩)); refine ⟨by first | exact grew_below (Below.refl _ _).drew | exact grew_below (below_undrew hb9), ?_⟩))
  refine wpPlanK_nil ?_
  go_wp2
  go_ret
  exact ⟨rfl, (HB.out.alloc (by have := HB.out.size; omega) _).drew⟩

set_option maxRecDepth 100000 in
set_option maxHeartbeats 1000000 in
theorem check_c2 (arsA codeA : Option Addr) (nA arsC nC codeC : Nat) (regs spills : Int) (op : Nat) (to a bb arg : Int) (w : World) (h : op < 39) (hk : isOp op = true) (hA : nA ≤ 9223372036854775807) (hs : 0 ≤ spills ∧ spills ≤ 1024) (harg : 0 ≤ arg ∧ arg < 4294967296) (e1 : rightReg regs to (usesTo op) = true) (e2 : rightReg regs a (usesA op) = false) :
    Calls Try.prog 46 #[.agg #[.slice arsA nA arsC, .int .i64 regs, .int .i64 spills, .slice codeA nC codeC], .agg #[.int .i64 (op : Int), .int .i64 to, .int .i64 a, .int .i64 bb, .int .u32 arg], .agg (tabCells tb6).toArray] w fun e w' => e = .returned (.int .i64 2) ∧ Below w.heap.size w w' := by
  have h0 : (0 : Int) ≤ (op : Int) ∧ (op : Int) < 39 ∧ ¬ (op : Int) < 0 ∧ ¬ (39 ≤ (op : Int)) := by omega
  have hmf : ∀ (fn : Fn) (first cap : Array Value) (w : World), (Instr.makeFunc fn first cap).run Try.prog w = .ok (.func fn first cap) w := fun _ _ _ _ => rfl
  have HE1 := Lib.hid e1
  clear e1
  have HE2 := Lib.hid e2
  clear e2
  go_enter Try.func46, Try.ntmps46
  go_upto_region 1 with (fail)
  refine wp_gen _ (chk_boxes w arsA codeA nA arsC nC codeC regs spills op to a bb arg) ?_
  rintro z ⟨hb, b1, b2, b3, hz⟩
  obtain ⟨q0, q1, q2, q3⟩ := tb6_cells b3 h
  rw [hk] at q0
  have c0 : z.cell? ⟨w.heap.size + 1, 0, none⟩ = some (.int .i64 (op : Int)) := b2.cell 0
  have c1 : z.cell? ⟨w.heap.size + 1, 1, none⟩ = some (.int .i64 to) := b2.cell 1
  have c2 : z.cell? ⟨w.heap.size + 1, 2, none⟩ = some (.int .i64 a) := b2.cell 2
  have c3 : z.cell? ⟨w.heap.size + 1, 3, none⟩ = some (.int .i64 bb) := b2.cell 3
  have c4 : z.cell? ⟨w.heap.size + 1, 4, none⟩ = some (.int .u32 arg) := b2.cell 4
  have d0 : z.cell? ⟨w.heap.size, 0, none⟩ = some (.slice arsA nA arsC) := b1.cell 0
  have d1 : z.cell? ⟨w.heap.size, 1, none⟩ = some (.int .i64 regs) := b1.cell 1
  have d1' : z.cell? ⟨w.heap.size, 0 + 1, none⟩ = some (.int .i64 regs) := b1.cell 1
  have d2 : z.cell? ⟨w.heap.size, 0 + 1 + 1, none⟩ = some (.int .i64 spills) := b1.cell 2
  have d3 : z.cell? ⟨w.heap.size, 0 + 1 + 1 + 1, none⟩ = some (.slice codeA nC codeC) := b1.cell 3
  have HB := Lib.hid hb
  have hz0 : w.heap.size < z.heap.size := by omega
  have hz1 : w.heap.size + 1 < z.heap.size := by omega
  have hz2 : w.heap.size + 1 + 1 < z.heap.size := by omega
  clear b1 b2 b3 hb
  have dz : ∀ o, (z.alloc o).drew.cell? ⟨w.heap.size, 1, none⟩ = some (.int .i64 regs) := fun o => by show (z.alloc o).cell? _ = _; rw [World.cell?_alloc_past _ _ _ hz0]; exact d1
  have HDZ := Lib.hid dz
  clear dz
  go_wp2_with fail
  refine wp_region_keeps [0, 1, 3, 8, 9, 11, 17, 18, 20, 26, 30, 28] [(2, 0), (2, 1), (2, 3), (1, 2), (1, 4), (0, 5), (0, 6), (0, 7), (2, 8), (2, 9), (2, 11), (1, 10), (0, 12), (0, 13), (0, 14), (0, 15), (0, 16), (2, 17), (2, 18), (2, 20), (1, 19), (0, 21), (0, 22), (0, 23), (0, 24), (0, 25), (2, 26), (2, 30), (1, 27), (2, 28), (1, 29), (0, 31), (0, 32), (0, 33), (0, 34)] (by kernel_rfl) (by kernel_rfl) (fun c a d v w h => by cases d <;> exact h) ?_
  simp only [getPlan, List.filterMap_cons, List.filterMap_nil, List.getElem?_toArray, List.getElem?_cons_succ, List.getElem?_cons_zero, Option.map_some]
  repeat ((first | refine wpPlanK_pure (fun K hK => ?_) | refine wpPlanK_float (fun K hK => ?_)); go_simp; refine hK _ ?_; clear hK K)
  repeat (first
    | ((first | refine wpPlanK_pure (fun K hK => ?_) | refine wpPlanK_float (fun K hK => ?_)); go_simp; refine hK _ ?_; clear hK K)
    | (refine wpPlanK_keep ?_; go_wp2_with (first | (go_at_call 78; refine (rreg_is _ _ _ regs _ (HDZ.out _) _ (by first | exact HE1.out | exact HE2.out)).mono ?_; rintro e w' ⟨rfl, rfl⟩) | (go_at_call 79; refine (most_any _ _ _ _ _ _ _ _ _ _ hA hs).mono ?_; rintro e w9 ⟨rfl, hb9⟩)); refine ⟨by first | exact grew_below (Below.refl _ _).drew | exact grew_below (below_undrew hb9), ?_⟩))
  refine wpPlanK_nil ?_
  go_wp2
  go_ret
  exact ⟨rfl, (HB.out.alloc (by have := HB.out.size; omega) _).drew⟩

set_option maxRecDepth 100000 in
set_option maxHeartbeats 1000000 in
theorem check_c3 (arsA codeA : Option Addr) (nA arsC nC codeC : Nat) (regs spills : Int) (op : Nat) (to a bb arg : Int) (w : World) (h : op < 39) (hk : isOp op = true) (hA : nA ≤ 9223372036854775807) (hs : 0 ≤ spills ∧ spills ≤ 1024) (harg : 0 ≤ arg ∧ arg < 4294967296) (e1 : rightReg regs to (usesTo op) = true) (e2 : rightReg regs a (usesA op) = true) (e3 : rightReg regs bb (usesB op) = false) :
    Calls Try.prog 46 #[.agg #[.slice arsA nA arsC, .int .i64 regs, .int .i64 spills, .slice codeA nC codeC], .agg #[.int .i64 (op : Int), .int .i64 to, .int .i64 a, .int .i64 bb, .int .u32 arg], .agg (tabCells tb6).toArray] w fun e w' => e = .returned (.int .i64 2) ∧ Below w.heap.size w w' := by
  have h0 : (0 : Int) ≤ (op : Int) ∧ (op : Int) < 39 ∧ ¬ (op : Int) < 0 ∧ ¬ (39 ≤ (op : Int)) := by omega
  have hmf : ∀ (fn : Fn) (first cap : Array Value) (w : World), (Instr.makeFunc fn first cap).run Try.prog w = .ok (.func fn first cap) w := fun _ _ _ _ => rfl
  have HE1 := Lib.hid e1
  clear e1
  have HE2 := Lib.hid e2
  clear e2
  have HE3 := Lib.hid e3
  clear e3
  go_enter Try.func46, Try.ntmps46
  go_upto_region 1 with (fail)
  refine wp_gen _ (chk_boxes w arsA codeA nA arsC nC codeC regs spills op to a bb arg) ?_
  rintro z ⟨hb, b1, b2, b3, hz⟩
  obtain ⟨q0, q1, q2, q3⟩ := tb6_cells b3 h
  rw [hk] at q0
  have c0 : z.cell? ⟨w.heap.size + 1, 0, none⟩ = some (.int .i64 (op : Int)) := b2.cell 0
  have c1 : z.cell? ⟨w.heap.size + 1, 1, none⟩ = some (.int .i64 to) := b2.cell 1
  have c2 : z.cell? ⟨w.heap.size + 1, 2, none⟩ = some (.int .i64 a) := b2.cell 2
  have c3 : z.cell? ⟨w.heap.size + 1, 3, none⟩ = some (.int .i64 bb) := b2.cell 3
  have c4 : z.cell? ⟨w.heap.size + 1, 4, none⟩ = some (.int .u32 arg) := b2.cell 4
  have d0 : z.cell? ⟨w.heap.size, 0, none⟩ = some (.slice arsA nA arsC) := b1.cell 0
  have d1 : z.cell? ⟨w.heap.size, 1, none⟩ = some (.int .i64 regs) := b1.cell 1
  have d1' : z.cell? ⟨w.heap.size, 0 + 1, none⟩ = some (.int .i64 regs) := b1.cell 1
  have d2 : z.cell? ⟨w.heap.size, 0 + 1 + 1, none⟩ = some (.int .i64 spills) := b1.cell 2
  have d3 : z.cell? ⟨w.heap.size, 0 + 1 + 1 + 1, none⟩ = some (.slice codeA nC codeC) := b1.cell 3
  have HB := Lib.hid hb
  have hz0 : w.heap.size < z.heap.size := by omega
  have hz1 : w.heap.size + 1 < z.heap.size := by omega
  have hz2 : w.heap.size + 1 + 1 < z.heap.size := by omega
  clear b1 b2 b3 hb
  have dz : ∀ o, (z.alloc o).drew.cell? ⟨w.heap.size, 1, none⟩ = some (.int .i64 regs) := fun o => by show (z.alloc o).cell? _ = _; rw [World.cell?_alloc_past _ _ _ hz0]; exact d1
  have HDZ := Lib.hid dz
  clear dz
  go_wp2_with fail
  refine wp_region_keeps [0, 1, 3, 8, 9, 11, 17, 18, 20, 26, 30, 28] [(2, 0), (2, 1), (2, 3), (1, 2), (1, 4), (0, 5), (0, 6), (0, 7), (2, 8), (2, 9), (2, 11), (1, 10), (0, 12), (0, 13), (0, 14), (0, 15), (0, 16), (2, 17), (2, 18), (2, 20), (1, 19), (0, 21), (0, 22), (0, 23), (0, 24), (0, 25), (2, 26), (2, 30), (1, 27), (2, 28), (1, 29), (0, 31), (0, 32), (0, 33), (0, 34)] (by kernel_rfl) (by kernel_rfl) (fun c a d v w h => by cases d <;> exact h) ?_
  simp only [getPlan, List.filterMap_cons, List.filterMap_nil, List.getElem?_toArray, List.getElem?_cons_succ, List.getElem?_cons_zero, Option.map_some]
  repeat ((first | refine wpPlanK_pure (fun K hK => ?_) | refine wpPlanK_float (fun K hK => ?_)); go_simp; refine hK _ ?_; clear hK K)
  repeat (first
    | ((first | refine wpPlanK_pure (fun K hK => ?_) | refine wpPlanK_float (fun K hK => ?_)); go_simp; refine hK _ ?_; clear hK K)
    | (refine wpPlanK_keep ?_; go_wp2_with (first | (go_at_call 78; refine (rreg_is _ _ _ regs _ (HDZ.out _) _ (by first | exact HE1.out | exact HE2.out | exact HE3.out)).mono ?_; rintro e w' ⟨rfl, rfl⟩) | (go_at_call 79; refine (most_any _ _ _ _ _ _ _ _ _ _ hA hs).mono ?_; rintro e w9 ⟨rfl, hb9⟩)); refine ⟨by first | exact grew_below (Below.refl _ _).drew | exact grew_below (below_undrew hb9), ?_⟩))
  refine wpPlanK_nil ?_
  go_wp2
  go_ret
  exact ⟨rfl, (HB.out.alloc (by have := HB.out.size; omega) _).drew⟩

set_option maxRecDepth 100000 in
set_option maxHeartbeats 1000000 in
theorem check_c4 (arsA codeA : Option Addr) (nA arsC nC codeC : Nat) (regs spills : Int) (op : Nat) (to a bb arg : Int) (w : World) (h : op < 39) (hk : isOp op = true) (hA : nA ≤ 9223372036854775807) (hs : 0 ≤ spills ∧ spills ≤ 1024) (harg : 0 ≤ arg ∧ arg < 4294967296) (e1 : rightReg regs to (usesTo op) = true) (e2 : rightReg regs a (usesA op) = true) (e3 : rightReg regs bb (usesB op) = true) (e4 : decide (mostArg nA spills op < arg) = true) :
    Calls Try.prog 46 #[.agg #[.slice arsA nA arsC, .int .i64 regs, .int .i64 spills, .slice codeA nC codeC], .agg #[.int .i64 (op : Int), .int .i64 to, .int .i64 a, .int .i64 bb, .int .u32 arg], .agg (tabCells tb6).toArray] w fun e w' => e = .returned (.int .i64 2) ∧ Below w.heap.size w w' := by
  have h0 : (0 : Int) ≤ (op : Int) ∧ (op : Int) < 39 ∧ ¬ (op : Int) < 0 ∧ ¬ (39 ≤ (op : Int)) := by omega
  have hmf : ∀ (fn : Fn) (first cap : Array Value) (w : World), (Instr.makeFunc fn first cap).run Try.prog w = .ok (.func fn first cap) w := fun _ _ _ _ => rfl
  have HE1 := Lib.hid e1
  clear e1
  have HE2 := Lib.hid e2
  clear e2
  have HE3 := Lib.hid e3
  clear e3
  go_enter Try.func46, Try.ntmps46
  go_upto_region 1 with (fail)
  refine wp_gen _ (chk_boxes w arsA codeA nA arsC nC codeC regs spills op to a bb arg) ?_
  rintro z ⟨hb, b1, b2, b3, hz⟩
  obtain ⟨q0, q1, q2, q3⟩ := tb6_cells b3 h
  rw [hk] at q0
  have c0 : z.cell? ⟨w.heap.size + 1, 0, none⟩ = some (.int .i64 (op : Int)) := b2.cell 0
  have c1 : z.cell? ⟨w.heap.size + 1, 1, none⟩ = some (.int .i64 to) := b2.cell 1
  have c2 : z.cell? ⟨w.heap.size + 1, 2, none⟩ = some (.int .i64 a) := b2.cell 2
  have c3 : z.cell? ⟨w.heap.size + 1, 3, none⟩ = some (.int .i64 bb) := b2.cell 3
  have c4 : z.cell? ⟨w.heap.size + 1, 4, none⟩ = some (.int .u32 arg) := b2.cell 4
  have d0 : z.cell? ⟨w.heap.size, 0, none⟩ = some (.slice arsA nA arsC) := b1.cell 0
  have d1 : z.cell? ⟨w.heap.size, 1, none⟩ = some (.int .i64 regs) := b1.cell 1
  have d1' : z.cell? ⟨w.heap.size, 0 + 1, none⟩ = some (.int .i64 regs) := b1.cell 1
  have d2 : z.cell? ⟨w.heap.size, 0 + 1 + 1, none⟩ = some (.int .i64 spills) := b1.cell 2
  have d3 : z.cell? ⟨w.heap.size, 0 + 1 + 1 + 1, none⟩ = some (.slice codeA nC codeC) := b1.cell 3
  have HB := Lib.hid hb
  have hz0 : w.heap.size < z.heap.size := by omega
  have hz1 : w.heap.size + 1 < z.heap.size := by omega
  have hz2 : w.heap.size + 1 + 1 < z.heap.size := by omega
  clear b1 b2 b3 hb
  have dz : ∀ o, (z.alloc o).drew.cell? ⟨w.heap.size, 1, none⟩ = some (.int .i64 regs) := fun o => by show (z.alloc o).cell? _ = _; rw [World.cell?_alloc_past _ _ _ hz0]; exact d1
  have HDZ := Lib.hid dz
  clear dz
  go_wp2_with fail
  refine wp_region_keeps [0, 1, 3, 8, 9, 11, 17, 18, 20, 26, 30, 28] [(2, 0), (2, 1), (2, 3), (1, 2), (1, 4), (0, 5), (0, 6), (0, 7), (2, 8), (2, 9), (2, 11), (1, 10), (0, 12), (0, 13), (0, 14), (0, 15), (0, 16), (2, 17), (2, 18), (2, 20), (1, 19), (0, 21), (0, 22), (0, 23), (0, 24), (0, 25), (2, 26), (2, 30), (1, 27), (2, 28), (1, 29), (0, 31), (0, 32), (0, 33), (0, 34)] (by kernel_rfl) (by kernel_rfl) (fun c a d v w h => by cases d <;> exact h) ?_
  simp only [getPlan, List.filterMap_cons, List.filterMap_nil, List.getElem?_toArray, List.getElem?_cons_succ, List.getElem?_cons_zero, Option.map_some]
  repeat ((first | refine wpPlanK_pure (fun K hK => ?_) | refine wpPlanK_float (fun K hK => ?_)); go_simp; refine hK _ ?_; clear hK K)
  repeat (first
    | ((first | refine wpPlanK_pure (fun K hK => ?_) | refine wpPlanK_float (fun K hK => ?_)); go_simp; refine hK _ ?_; clear hK K)
    | (refine wpPlanK_keep ?_; go_wp2_with (first | (go_at_call 78; refine (rreg_is _ _ _ regs _ (HDZ.out _) _ (by first | exact HE1.out | exact HE2.out | exact HE3.out)).mono ?_; rintro e w' ⟨rfl, rfl⟩) | (go_at_call 79; refine (most_any _ _ _ _ _ _ _ _ _ _ hA hs).mono ?_; rintro e w9 ⟨rfl, hb9⟩)); refine ⟨by first | exact grew_below (Below.refl _ _).drew | exact grew_below (below_undrew hb9), ?_⟩))
  refine wpPlanK_nil ?_
  go_wp2
  go_ret
  exact ⟨rfl, ((HB.out.alloc (by have := HB.out.size; omega) _).drew).trans (hb9.mono (by have := HB.out.size; simp; omega))⟩

set_option maxRecDepth 100000 in
set_option maxHeartbeats 1000000 in
theorem check_c5 (arsA codeA : Option Addr) (nA arsC nC codeC : Nat) (regs spills : Int) (op : Nat) (to a bb arg : Int) (w : World) (h : op < 39) (hk : isOp op = true) (hA : nA ≤ 9223372036854775807) (hs : 0 ≤ spills ∧ spills ≤ 1024) (harg : 0 ≤ arg ∧ arg < 4294967296) (e1 : rightReg regs to (usesTo op) = true) (e2 : rightReg regs a (usesA op) = true) (e3 : rightReg regs bb (usesB op) = true) (e4 : decide (mostArg nA spills op < arg) = false) :
    Calls Try.prog 46 #[.agg #[.slice arsA nA arsC, .int .i64 regs, .int .i64 spills, .slice codeA nC codeC], .agg #[.int .i64 (op : Int), .int .i64 to, .int .i64 a, .int .i64 bb, .int .u32 arg], .agg (tabCells tb6).toArray] w fun e w' => e = .returned (.int .i64 0) ∧ Below w.heap.size w w' := by
  have h0 : (0 : Int) ≤ (op : Int) ∧ (op : Int) < 39 ∧ ¬ (op : Int) < 0 ∧ ¬ (39 ≤ (op : Int)) := by omega
  have hmf : ∀ (fn : Fn) (first cap : Array Value) (w : World), (Instr.makeFunc fn first cap).run Try.prog w = .ok (.func fn first cap) w := fun _ _ _ _ => rfl
  have HE1 := Lib.hid e1
  clear e1
  have HE2 := Lib.hid e2
  clear e2
  have HE3 := Lib.hid e3
  clear e3
  go_enter Try.func46, Try.ntmps46
  go_upto_region 1 with (fail)
  refine wp_gen _ (chk_boxes w arsA codeA nA arsC nC codeC regs spills op to a bb arg) ?_
  rintro z ⟨hb, b1, b2, b3, hz⟩
  obtain ⟨q0, q1, q2, q3⟩ := tb6_cells b3 h
  rw [hk] at q0
  have c0 : z.cell? ⟨w.heap.size + 1, 0, none⟩ = some (.int .i64 (op : Int)) := b2.cell 0
  have c1 : z.cell? ⟨w.heap.size + 1, 1, none⟩ = some (.int .i64 to) := b2.cell 1
  have c2 : z.cell? ⟨w.heap.size + 1, 2, none⟩ = some (.int .i64 a) := b2.cell 2
  have c3 : z.cell? ⟨w.heap.size + 1, 3, none⟩ = some (.int .i64 bb) := b2.cell 3
  have c4 : z.cell? ⟨w.heap.size + 1, 4, none⟩ = some (.int .u32 arg) := b2.cell 4
  have d0 : z.cell? ⟨w.heap.size, 0, none⟩ = some (.slice arsA nA arsC) := b1.cell 0
  have d1 : z.cell? ⟨w.heap.size, 1, none⟩ = some (.int .i64 regs) := b1.cell 1
  have d1' : z.cell? ⟨w.heap.size, 0 + 1, none⟩ = some (.int .i64 regs) := b1.cell 1
  have d2 : z.cell? ⟨w.heap.size, 0 + 1 + 1, none⟩ = some (.int .i64 spills) := b1.cell 2
  have d3 : z.cell? ⟨w.heap.size, 0 + 1 + 1 + 1, none⟩ = some (.slice codeA nC codeC) := b1.cell 3
  have HB := Lib.hid hb
  have hz0 : w.heap.size < z.heap.size := by omega
  have hz1 : w.heap.size + 1 < z.heap.size := by omega
  have hz2 : w.heap.size + 1 + 1 < z.heap.size := by omega
  clear b1 b2 b3 hb
  have dz : ∀ o, (z.alloc o).drew.cell? ⟨w.heap.size, 1, none⟩ = some (.int .i64 regs) := fun o => by show (z.alloc o).cell? _ = _; rw [World.cell?_alloc_past _ _ _ hz0]; exact d1
  have HDZ := Lib.hid dz
  clear dz
  go_wp2_with fail
  refine wp_region_keeps [0, 1, 3, 8, 9, 11, 17, 18, 20, 26, 30, 28] [(2, 0), (2, 1), (2, 3), (1, 2), (1, 4), (0, 5), (0, 6), (0, 7), (2, 8), (2, 9), (2, 11), (1, 10), (0, 12), (0, 13), (0, 14), (0, 15), (0, 16), (2, 17), (2, 18), (2, 20), (1, 19), (0, 21), (0, 22), (0, 23), (0, 24), (0, 25), (2, 26), (2, 30), (1, 27), (2, 28), (1, 29), (0, 31), (0, 32), (0, 33), (0, 34)] (by kernel_rfl) (by kernel_rfl) (fun c a d v w h => by cases d <;> exact h) ?_
  simp only [getPlan, List.filterMap_cons, List.filterMap_nil, List.getElem?_toArray, List.getElem?_cons_succ, List.getElem?_cons_zero, Option.map_some]
  repeat ((first | refine wpPlanK_pure (fun K hK => ?_) | refine wpPlanK_float (fun K hK => ?_)); go_simp; refine hK _ ?_; clear hK K)
  repeat (first
    | ((first | refine wpPlanK_pure (fun K hK => ?_) | refine wpPlanK_float (fun K hK => ?_)); go_simp; refine hK _ ?_; clear hK K)
    | (refine wpPlanK_keep ?_; go_wp2_with (first | (go_at_call 78; refine (rreg_is _ _ _ regs _ (HDZ.out _) _ (by first | exact HE1.out | exact HE2.out | exact HE3.out)).mono ?_; rintro e w' ⟨rfl, rfl⟩) | (go_at_call 79; refine (most_any _ _ _ _ _ _ _ _ _ _ hA hs).mono ?_; rintro e w9 ⟨rfl, hb9⟩)); refine ⟨by first | exact grew_below (Below.refl _ _).drew | exact grew_below (below_undrew hb9), ?_⟩))
  refine wpPlanK_nil ?_
  go_wp2
  go_ret
  exact ⟨rfl, ((HB.out.alloc (by have := HB.out.size; omega) _).drew).trans (hb9.mono (by have := HB.out.size; simp; omega))⟩


/-- **CHECK OF AN INSTRUCTION** -/
theorem check_any (arsA codeA : Option Addr) (nA arsC nC codeC : Nat) (regs spills op to a bb arg : Int) (w : World) (hA : nA ≤ 9223372036854775807) (hs : 0 ≤ spills ∧ spills ≤ 1024) (harg : 0 ≤ arg ∧ arg < 4294967296) :
    Calls Try.prog 46 #[.agg #[.slice arsA nA arsC, .int .i64 regs, .int .i64 spills, .slice codeA nC codeC], .agg #[.int .i64 op, .int .i64 to, .int .i64 a, .int .i64 bb, .int .u32 arg], .agg (tabCells tb6).toArray] w fun e w' => e = .returned (.int .i64 (chkI regs spills nA ⟨op, to, a, bb, arg⟩)) ∧ Below w.heap.size w w' := by
  by_cases h : op < 0 ∨ 39 ≤ op
  · have e : chkI regs spills nA ⟨op, to, a, bb, arg⟩ = 1 := by
      have : isOp op = false := by simp [isOp]; omega
      simp [chkI, this]
    rw [e]; exact check_far arsA codeA nA arsC nC codeC regs spills op to a bb arg w h
  obtain ⟨n, rfl⟩ : ∃ n : Nat, op = (n : Int) := ⟨op.toNat, by omega⟩
  have hn : n < 39 := by omega
  cases hk : isOp n with
  | false =>
    have e : chkI regs spills nA ⟨n, to, a, bb, arg⟩ = 1 := by simp [chkI, hk]
    rw [e]; exact check_none arsA codeA nA arsC nC codeC regs spills n to a bb arg w hn hk
  | true =>
    cases e1 : rightReg regs to (usesTo n) with
    | false =>
      have e : chkI regs spills nA ⟨n, to, a, bb, arg⟩ = 2 := by simp [chkI, hk, e1]
      rw [e]; exact check_c1 arsA codeA nA arsC nC codeC regs spills n to a bb arg w hn hk hA hs harg e1
    | true =>
      cases e2 : rightReg regs a (usesA n) with
      | false =>
        have e : chkI regs spills nA ⟨n, to, a, bb, arg⟩ = 2 := by simp [chkI, hk, e1, e2]
        rw [e]; exact check_c2 arsA codeA nA arsC nC codeC regs spills n to a bb arg w hn hk hA hs harg e1 e2
      | true =>
        cases e3 : rightReg regs bb (usesB n) with
        | false =>
          have e : chkI regs spills nA ⟨n, to, a, bb, arg⟩ = 2 := by simp [chkI, hk, e1, e2, e3]
          rw [e]; exact check_c3 arsA codeA nA arsC nC codeC regs spills n to a bb arg w hn hk hA hs harg e1 e2 e3
        | true =>
          by_cases e4 : mostArg nA spills n < arg
          · have e : chkI regs spills nA ⟨n, to, a, bb, arg⟩ = 2 := by simp [chkI, hk, e1, e2, e3, e4]
            rw [e]; exact check_c4 arsA codeA nA arsC nC codeC regs spills n to a bb arg w hn hk hA hs harg e1 e2 e3 (by simp [e4])
          · have e : chkI regs spills nA ⟨n, to, a, bb, arg⟩ = 0 := by simp [chkI, hk, e1, e2, e3, e4]
            rw [e]; exact check_c5 arsA codeA nA arsC nC codeC regs spills n to a bb arg w hn hk hA hs harg e1 e2 e3 (by simp [e4])
end Go.Proofs.Ytefdnjhhaejgbaa

namespace Go.Proofs.Ytefdnjhhaejgbaa
open Go.RowKit
set_option linter.unusedVariables false

theorem nat_cast_ltP {r len : Nat} (h : r < len) : (0 : Int) ≤ (r : Int) ∧ (r : Int) < (len : Int) := by omega
theorem any_upto {α : Type} (p : α → Bool) (d : α) : ∀ (xs : List α), (∀ j, j < xs.length → p (xs.getD j d) = false) → xs.any p = false
  | [], _ => rfl
  | x :: xs, h => by
    rw [List.any_cons, show p x = false from h 0 (by simp), Bool.false_or]
    exact any_upto p d xs fun j hj => h (j + 1) (by simpa using hj)
theorem any_at {α : Type} (p : α → Bool) (d : α) (xs : List α) (j : Nat) (hj : j < xs.length) (h : p (xs.getD j d) = true) : xs.any p = true := by
  rw [List.any_eq_true]
  exact ⟨xs[j], List.getElem_mem hj, by rw [List.getD_eq_getElem?_getD, List.getElem?_eq_getElem hj] at h; exact h⟩

/-- the place of the first number that meets p, or -1 -/
def firstAt (p : Int → Bool) : List Int → Nat → Int
  | [], _ => -1
  | x :: xs, k => if p x then (k : Int) else firstAt p xs (k + 1)
theorem firstAt_any (p : Int → Bool) : ∀ (xs : List Int) (k : Nat), decide (0 ≤ firstAt p xs k) = xs.any p
  | [], _ => rfl
  | x :: xs, k => by
    unfold firstAt
    cases h : p x
    · simp [h, ← firstAt_any p xs (k + 1)]
    · simp [h]
theorem firstAt_step (p : Int → Bool) : ∀ (xs : List Int) (k i : Nat), i ≤ xs.length → (∀ j, j < i → p (xs.getD j 0) = false) → firstAt p xs k = firstAt p (xs.drop i) (k + i)
  | xs, k, 0, _, _ => by simp
  | [], k, i + 1, h, _ => by simp at h
  | x :: xs, k, i + 1, h, hp => by
    have h0 : p x = false := hp 0 (by omega)
    rw [firstAt, h0]
    simp only [List.drop_succ_cons]
    rw [firstAt_step p xs (k + 1) i (by simpa using h) (fun j hj => hp (j + 1) (by omega)), show k + 1 + i = k + (i + 1) by omega]
    simp

set_option maxHeartbeats 1000000 in
theorem index_int (a : Option Addr) (cap : Nat) (xs : List Int) (F : Nat) (p : Int → Bool) (w : World) (hrow : RowB w.heap.size w 1 a xs.length fun i _ => .int .i64 (xs.getD i 0)) (hmax : xs.length ≤ 9223372036854775806)
    (hen : ∀ (args : Array Value) (w : World), (callFunc F args).run Try.prog w = .ok (.enter F args) w)
    (hp : ∀ (x : Int) (w : World), Calls Try.prog F #[.int .i64 x] w fun e w' => e = .returned (.bool (p x)) ∧ w = w') :
    Calls Try.prog 77 #[.slice a xs.length cap, .func (.func F) #[] #[]] w fun e w' => e = .returned (.int .i64 (firstAt p xs 0)) ∧ w = w' := by
  have HR := Lib.hid hrow
  have HP := Lib.hid hp
  clear hrow hp
  go_enter Try.func77, Try.ntmps77
  go_wp2
  go_loop [8] (fun i => ∃ k : Nat, k ≤ xs.length ∧ i = .int .i64 k ∧ Hid (∀ j, j < k → p (xs.getD j 0) = false)) (fun i => xs.length - (intOf i).toNat)
  case atStart => exact ⟨0, Nat.zero_le _, rfl, Lib.hid (fun j hj => by omega)⟩
  case round =>
    obtain ⟨k, hk, rfl, hj⟩ := hrel
    by_cases hlt : k < xs.length
    · have hlt' := nat_cast_ltP hlt
      obtain ⟨b, off, rfl, hb, hc⟩ := HR.out k hlt
      have c0 : w.cell? ⟨b, off + k, none⟩ = some (.int .i64 (xs.getD k 0)) := by have := hc 0 (by omega); simpa using this
      clear hc
      generalize hx : xs.getD k 0 = x at c0
      have HX := Lib.hid hx
      clear hx
      cases hpx : p x
      · have HPX := Lib.hid hpx
        clear hpx
        go_wp2_with fail
        refine (HP.out x w).mono ?_
        rintro e w' ⟨rfl, rfl⟩
        rw [HPX.out]
        go_wp2
        go_round
        case rel => exact ⟨k + 1, by omega, by simp, Lib.hid (fun j hj2 => by
            by_cases h : j < k
            · exact hj.out j h
            · have : j = k := by omega
              subst this; rw [HX.out]; exact HPX.out)⟩
        case measure => simp [intOf]; omega
      · have HPX := Lib.hid hpx
        clear hpx
        go_wp2_with fail
        refine (HP.out x w).mono ?_
        rintro e w' ⟨rfl, rfl⟩
        rw [HPX.out]
        go_wp2
        go_ret
        refine ⟨ret_int ?_, rfl⟩
        rw [firstAt_step p xs 0 k hk hj.out, List.drop_eq_getElem_cons hlt, firstAt]
        have : xs[k] = x := by rw [← HX.out, List.getD_eq_getElem?_getD, List.getElem?_eq_getElem hlt]; rfl
        rw [this, HPX.out]; simp
    · have hkk : k = xs.length := by omega
      subst hkk
      go_wp2
      go_ret
      refine ⟨ret_int ?_, rfl⟩
      rw [firstAt_step p xs 0 xs.length (Nat.le_refl _) hj.out, List.drop_length]; rfl

set_option maxHeartbeats 1000000 in
theorem contains_int (a : Option Addr) (cap : Nat) (xs : List Int) (F : Nat) (p : Int → Bool) (w : World) (hrow : RowB w.heap.size w 1 a xs.length fun i _ => .int .i64 (xs.getD i 0)) (hmax : xs.length ≤ 9223372036854775806)
    (hen : ∀ (args : Array Value) (w : World), (callFunc F args).run Try.prog w = .ok (.enter F args) w)
    (hp : ∀ (x : Int) (w : World), Calls Try.prog F #[.int .i64 x] w fun e w' => e = .returned (.bool (p x)) ∧ w = w') :
    Calls Try.prog 43 #[.slice a xs.length cap, .func (.func F) #[] #[]] w fun e w' => e = .returned (.bool (xs.any p)) ∧ w = w' := by
  have HI := Lib.hid (index_int a cap xs F p w hrow hmax hen hp)
  have HF := Lib.hid (firstAt_any p xs 0)
  clear hrow hp hen
  go_enter Try.func43, Try.ntmps43
  go_wp2_with fail
  refine HI.out.mono ?_
  rintro e w' ⟨rfl, rfl⟩
  generalize firstAt p xs 0 = z at HF
  go_wp2
  go_ret
  exact ⟨ret_bool HF.out, rfl⟩
set_option maxHeartbeats 1000000 in
theorem index_u32 (a : Option Addr) (cap : Nat) (xs : List Int) (F : Nat) (p : Int → Bool) (w : World) (hrow : RowB w.heap.size w 1 a xs.length fun i _ => .int .u32 (xs.getD i 0)) (hmax : xs.length ≤ 9223372036854775806)
    (hen : ∀ (args : Array Value) (w : World), (callFunc F args).run Try.prog w = .ok (.enter F args) w)
    (hp : ∀ (x : Int) (w : World), Calls Try.prog F #[.int .u32 x] w fun e w' => e = .returned (.bool (p x)) ∧ w = w') :
    Calls Try.prog 83 #[.slice a xs.length cap, .func (.func F) #[] #[]] w fun e w' => e = .returned (.int .i64 (firstAt p xs 0)) ∧ w = w' := by
  have HR := Lib.hid hrow
  have HP := Lib.hid hp
  clear hrow hp
  go_enter Try.func83, Try.ntmps83
  go_wp2
  go_loop [8] (fun i => ∃ k : Nat, k ≤ xs.length ∧ i = .int .i64 k ∧ Hid (∀ j, j < k → p (xs.getD j 0) = false)) (fun i => xs.length - (intOf i).toNat)
  case atStart => exact ⟨0, Nat.zero_le _, rfl, Lib.hid (fun j hj => by omega)⟩
  case round =>
    obtain ⟨k, hk, rfl, hj⟩ := hrel
    by_cases hlt : k < xs.length
    · have hlt' := nat_cast_ltP hlt
      obtain ⟨b, off, rfl, hb, hc⟩ := HR.out k hlt
      have c0 : w.cell? ⟨b, off + k, none⟩ = some (.int .u32 (xs.getD k 0)) := by have := hc 0 (by omega); simpa using this
      clear hc
      generalize hx : xs.getD k 0 = x at c0
      have HX := Lib.hid hx
      clear hx
      cases hpx : p x
      · have HPX := Lib.hid hpx
        clear hpx
        go_wp2_with fail
        refine (HP.out x w).mono ?_
        rintro e w' ⟨rfl, rfl⟩
        rw [HPX.out]
        go_wp2
        go_round
        case rel => exact ⟨k + 1, by omega, by simp, Lib.hid (fun j hj2 => by
            by_cases h : j < k
            · exact hj.out j h
            · have : j = k := by omega
              subst this; rw [HX.out]; exact HPX.out)⟩
        case measure => simp [intOf]; omega
      · have HPX := Lib.hid hpx
        clear hpx
        go_wp2_with fail
        refine (HP.out x w).mono ?_
        rintro e w' ⟨rfl, rfl⟩
        rw [HPX.out]
        go_wp2
        go_ret
        refine ⟨ret_int ?_, rfl⟩
        rw [firstAt_step p xs 0 k hk hj.out, List.drop_eq_getElem_cons hlt, firstAt]
        have : xs[k] = x := by rw [← HX.out, List.getD_eq_getElem?_getD, List.getElem?_eq_getElem hlt]; rfl
        rw [this, HPX.out]; simp
    · have hkk : k = xs.length := by omega
      subst hkk
      go_wp2
      go_ret
      refine ⟨ret_int ?_, rfl⟩
      rw [firstAt_step p xs 0 xs.length (Nat.le_refl _) hj.out, List.drop_length]; rfl

set_option maxHeartbeats 1000000 in
theorem contains_u32 (a : Option Addr) (cap : Nat) (xs : List Int) (F : Nat) (p : Int → Bool) (w : World) (hrow : RowB w.heap.size w 1 a xs.length fun i _ => .int .u32 (xs.getD i 0)) (hmax : xs.length ≤ 9223372036854775806)
    (hen : ∀ (args : Array Value) (w : World), (callFunc F args).run Try.prog w = .ok (.enter F args) w)
    (hp : ∀ (x : Int) (w : World), Calls Try.prog F #[.int .u32 x] w fun e w' => e = .returned (.bool (p x)) ∧ w = w') :
    Calls Try.prog 50 #[.slice a xs.length cap, .func (.func F) #[] #[]] w fun e w' => e = .returned (.bool (xs.any p)) ∧ w = w' := by
  have HI := Lib.hid (index_u32 a cap xs F p w hrow hmax hen hp)
  have HF := Lib.hid (firstAt_any p xs 0)
  clear hrow hp hen
  go_enter Try.func50, Try.ntmps50
  go_wp2_with fail
  refine HI.out.mono ?_
  rintro e w' ⟨rfl, rfl⟩
  generalize firstAt p xs 0 = z at HF
  go_wp2
  go_ret
  exact ⟨ret_bool HF.out, rfl⟩
end Go.Proofs.Ytefdnjhhaejgbaa

namespace Go.Proofs.Ytefdnjhhaejgbaa
open Go.RowKit
set_option linter.unusedVariables false

theorem chkArs_le : ∀ (l : List Ar) (n m : Int), chkArs l n = some m → 0 ≤ n → n ≤ m ∧ m ≤ n + 65536 * l.length
  | [], n, m, h, h0 => by simp [chkArs] at h; subst h; simp
  | a :: l, n, m, h, h0 => by
    unfold chkArs at h
    split at h
    · cases h
    · have := chkArs_le l (n + a.size) m h (by omega)
      simp only [List.length_cons]
      omega

/-- the head of a round over the arrays -/
def ArsRel (ars : List Ar) (W : World) (s i : Value) (wr : World) : Prop :=
  ∃ (k : Nat) (n : Int), s = .int .i64 n ∧ i = .int .i64 (k : Int) ∧ k ≤ ars.length ∧ 0 ≤ n ∧ n ≤ 65536 * k ∧ chkArs ars 0 = chkArs (ars.drop k) n ∧ Below W.heap.size W wr

/-- the head of a round over the instructions -/
def InsRel (regs spills nA : Int) (cd : List RI) (W : World) (i : Value) (wr : World) : Prop :=
  ∃ (k : Nat), i = .int .i64 (k : Int) ∧ k ≤ cd.length ∧ chkAll regs spills nA cd 0 = chkAll regs spills nA (cd.drop k) k ∧ Below W.heap.size W wr

theorem chkAll_next {regs spills nA : Int} (cd : List RI) (k : Nat) (hk : k < cd.length) (h : chkI regs spills nA (cd.getD k default) = 0) : chkAll regs spills nA (cd.drop k) k = chkAll regs spills nA (cd.drop (k + 1)) (k + 1) := by
  rw [List.getD_eq_getElem?_getD, List.getElem?_eq_getElem hk, Option.getD_some] at h
  rw [List.drop_eq_getElem_cons hk, chkAll, h]
  simp
theorem chkAll_bad {regs spills nA : Int} (cd : List RI) (k : Nat) (hk : k < cd.length) (h : chkI regs spills nA (cd.getD k default) ≠ 0) : chkAll regs spills nA (cd.drop k) k = some ((k : Int), chkI regs spills nA (cd.getD k default)) := by
  rw [List.getD_eq_getElem?_getD, List.getElem?_eq_getElem hk, Option.getD_some] at *
  rw [List.drop_eq_getElem_cons hk, chkAll, if_pos h]

theorem enter_Check1 (args : Array Value) (w : World) : (callFunc 44 args).run Try.prog w = .ok (.enter 44 args) w := run_enter Try.func44 rfl rfl args w

def CheckPost (ars : List Ar) (regs spills : Int) (cd : List RI) (w : World) (e : Ending) (w' : World) : Prop :=
  e = .returned (.tuple #[.int .i64 (chkCode ars regs spills cd).1, .int .i64 (chkCode ars regs spills cd).2]) ∧ Below w.heap.size w w'

set_option maxRecDepth 100000 in
set_option maxHeartbeats 1000000 in
theorem Check_any (arsA codeA : Option Addr) (arsC codeC : Nat) (ars : List Ar) (regs spills : Int) (cd : List RI) (w : World) (hars : RowB w.heap.size w 2 arsA ars.length fun i j => (ars.getD i default).cell j)
    (hcd : RowB w.heap.size w 5 codeA cd.length fun i j => (cd.getD i default).cell j) (hA : ars.length ≤ 9223372036854775807) (hC : cd.length ≤ 9223372036854775807) (harg : ∀ i ∈ cd, 0 ≤ i.arg ∧ i.arg < 4294967296) :
    Calls Try.prog 29 #[.agg #[.slice arsA ars.length arsC, .int .i64 regs, .int .i64 spills, .slice codeA cd.length codeC]] w (CheckPost ars regs spills cd w) := by
  have HARS := Lib.hid hars
  have HCD := Lib.hid hcd
  have HARG := Lib.hid harg
  clear hars hcd harg
  by_cases h8 : 8 < ars.length
  · have e : chkCode ars regs spills cd = (0, 6) := by simp [chkCode, h8]
    have HE := Lib.hid e
    clear e
    have h8' : (8 : Int) < (ars.length : Int) := by omega
    go_enter Try.func29, Try.ntmps29
    go_wp2
    go_ret2
    exact ⟨by rw [HE.out]; rfl, (Below.refl _ _).alloc (Nat.le_refl _) _⟩
  have h8' : ¬ (8 : Int) < (ars.length : Int) := by omega
  have hb : Below w.heap.size w (w.alloc (.cells #[.slice arsA ars.length arsC, .int .i64 regs, .int .i64 spills, .slice codeA cd.length codeC] 25)) := (Below.refl _ _).alloc (Nat.le_refl _) _
  have HB := Lib.hid (And.intro hb (heap_new1 w (.cells #[.slice arsA ars.length arsC, .int .i64 regs, .int .i64 spills, .slice codeA cd.length codeC] 25)))
  clear hb
  go_enter Try.func29, Try.ntmps29
  go_upto_region 1 with (fail)
  refine wp_gen (fun W => Below w.heap.size w W ∧ Blk W w.heap.size [.slice arsA ars.length arsC, .int .i64 regs, .int .i64 spills, .slice codeA cd.length codeC] 25 ∧ w.heap.size < W.heap.size) ⟨HB.out.1, HB.out.2, by simp⟩ ?_
  rintro W ⟨hbW, hbk, hWl⟩
  clear HB
  have a0 : W.cell? ⟨w.heap.size, 0, none⟩ = some (.slice arsA ars.length arsC) := hbk.cell 0
  have HW := Lib.hid (And.intro hbW hbk)
  clear hbW hbk
  go_wp2_with fail
  go_loopw [4, 21] (fun s i wr => ArsRel ars W s i wr) (fun _ i _ => ars.length - (intOf i).toNat)
  case atStart => exact ⟨0, 0, rfl, rfl, Nat.zero_le _, by omega, by simp, by simp, Below.refl _ _⟩
  case round =>
    obtain ⟨k, n, rfl, rfl, hk, hn0, hn1, hrun, hbel⟩ := hrel
    have HRUN := Lib.hid hrun
    clear hrun
    by_cases hlt : k < ars.length
    · have hk' := nat_cast_ltQ hlt
      obtain ⟨b, off, rfl, hb, hc⟩ := HARS.out k hlt
      have hbw : b < wr.heap.size := by have h1 := HW.out.1.size; have h2 := hbel.size; omega
      have hc2 : ∀ j, j < 2 → wr.cell? ⟨b, off + k * 2 + j, none⟩ = some ((ars.getD k default).cell j) := fun j hj => by
        rw [hbel.cell (p := ⟨b, off + k * 2 + j, none⟩) (by show b < W.heap.size; omega), HW.out.1.cell (p := ⟨b, off + k * 2 + j, none⟩) hb]; exact hc j hj
      clear hc
      have hd : ars.drop k = ars.getD k default :: ars.drop (k + 1) := by rw [List.drop_eq_getElem_cons hlt, List.getD_eq_getElem?_getD, List.getElem?_eq_getElem hlt]; rfl
      generalize hA : ars.getD k default = A at hc2 hd
      obtain ⟨wd, sz⟩ := A
      have q0 : wr.cell? ⟨b, off + k * 2, none⟩ = some (.bool wd) := hc2 0 (by omega)
      have q1 : wr.cell? ⟨b, off + k * 2 + 1, none⟩ = some (.int .i64 sz) := hc2 1 (by omega)
      have HD := Lib.hid hd
      clear hc2 hd hA
      have hbb : Below W.heap.size W (wr.alloc (.cells #[.bool wd, .int .i64 sz] 59)) := hbel.alloc hbel.size _
      have HBB := Lib.hid hbb
      clear hbb
      by_cases hs : sz < 1 ∨ 65536 < sz
      · have e : chkCode ars regs spills cd = (0, 2) := by
          have : chkArs ars 0 = none := by rw [HRUN.out, HD.out, chkArs, if_pos hs]
          simp [chkCode, h8, this]
        have HE := Lib.hid e
        clear e
        have hbl : Below w.heap.size w (wr.alloc (.cells #[.bool wd, .int .i64 sz] 59)) := HW.out.1.trans (HBB.out.mono HW.out.1.size)
        have HBL := Lib.hid hbl
        clear hbl
        rcases hs with hs | hs
        · go_wp2
          go_ret2
          exact ⟨by rw [HE.out]; rfl, HBL.out⟩
        · have hs2 : ¬ sz < 1 := by omega
          go_wp2
          go_ret2
          exact ⟨by rw [HE.out]; rfl, HBL.out⟩
      · have hs1 : ¬ sz < 1 := by omega
        have hs2 : ¬ 65536 < sz := by omega
        have hkk : n + sz ≤ 65536 * (k + 1) := by omega
        have hkb : k ≤ 8 := by omega
        go_wp2
        go_roundw
        case rel => exact ⟨k + 1, n + sz, rfl, by simp, by omega, by omega, by omega, by rw [HRUN.out, HD.out, chkArs, if_neg hs], HBB.out⟩
        case measure => simp [intOf]; omega
    · have hkk : k = ars.length := by omega
      subst hkk
      have hsum : chkArs ars 0 = some n := by rw [HRUN.out, List.drop_length, chkArs]
      have HS := Lib.hid hsum
      clear hsum HRUN
      have hwc : ∀ j, wr.cell? ⟨w.heap.size, j, none⟩ = W.cell? ⟨w.heap.size, j, none⟩ := fun j => hbel.cell (p := ⟨w.heap.size, j, none⟩) hWl
      have c1 : wr.cell? ⟨w.heap.size, 1, none⟩ = some (.int .i64 regs) := by rw [hwc]; exact HW.out.2.cell 1
      have c2 : wr.cell? ⟨w.heap.size, 2, none⟩ = some (.int .i64 spills) := by rw [hwc]; exact HW.out.2.cell 2
      have hwr : w.heap.size < wr.heap.size := by have := hbel.size; omega
      clear hwc
      have hbz : Below W.heap.size W (wr.alloc (.cells #[.int .i64 regs, .int .i64 spills] 3)) := hbel.alloc hbel.size _
      have HBZ := Lib.hid (And.intro hbz (heap_new1 wr (.cells #[.int .i64 regs, .int .i64 spills] 3)))
      clear hbz
      go_upto_region 12 with (fail)
      refine wp_gen (fun Z => Below W.heap.size W Z ∧ Blk Z wr.heap.size [.int .i64 regs, .int .i64 spills] 3 ∧ wr.heap.size < Z.heap.size) ⟨HBZ.out.1, HBZ.out.2, by simp⟩ ?_
      rintro Z ⟨hbZ, hkZ, hZl⟩
      clear HBZ c1 c2
      have HZ := Lib.hid hbZ
      have hwZ : Below w.heap.size w Z := HW.out.1.trans (hbZ.mono HW.out.1.size)
      have HWZ := Lib.hid hwZ
      clear hbZ hwZ
      by_cases hn : 65536 < n
      · have e : chkCode ars regs spills cd = (0, 2) := by simp [chkCode, h8, HS.out, hn]
        have HE := Lib.hid e
        clear e
        go_wp2
        go_ret2
        exact ⟨by rw [HE.out]; rfl, HWZ.out⟩
      have hrow : RowB Z.heap.size Z 1 (some ⟨wr.heap.size, 0, none⟩) [regs, spills].length fun i _ => .int .i64 ([regs, spills].getD i 0) := by
        intro i hi
        refine ⟨wr.heap.size, 0, rfl, hZl, fun j hj => ?_⟩
        have hj0 : j = 0 := by omega
        subst hj0
        have hi2 : i = 0 ∨ i = 1 := by simp at hi; omega
        rcases hi2 with rfl | rfl
        · exact hkZ.cell 0
        · exact hkZ.cell 1
      have cont := contains_int (some ⟨wr.heap.size, 0, none⟩) 2 [regs, spills] 44 (fun n => decide (n < 0) || decide (1024 < n)) Z hrow (by simp) enter_Check1 (fun x w => Check1_any x w)
      have HCO := Lib.hid cont
      clear cont hrow hkZ
      by_cases hany : [regs, spills].any (fun n => decide (n < 0) || decide (1024 < n)) = true
      · have e : chkCode ars regs spills cd = (0, 2) := by
          have hx : regs < 0 ∨ 1024 < regs ∨ spills < 0 ∨ 1024 < spills := by simp at hany; omega
          simp [chkCode, h8, HS.out, hn, hx]
        have HE := Lib.hid e
        have HAN := Lib.hid hany
        clear e hany
        go_wp2_with fail
        refine HCO.out.mono ?_
        rintro e w' ⟨rfl, rfl⟩
        rw [HAN.out]
        go_wp2
        go_ret2
        exact ⟨by rw [HE.out]; rfl, HWZ.out⟩
      have hrs : 0 ≤ regs ∧ regs ≤ 1024 ∧ 0 ≤ spills ∧ spills ≤ 1024 := by simp at hany; omega
      have hany2 : [regs, spills].any (fun n => decide (n < 0) || decide (1024 < n)) = false := by simpa using hany
      have HAN := Lib.hid hany2
      clear hany hany2
      have hZc : ∀ j, Z.cell? ⟨w.heap.size, j, none⟩ = W.cell? ⟨w.heap.size, j, none⟩ := fun j => HZ.out.cell (p := ⟨w.heap.size, j, none⟩) hWl
      have c3 : Z.cell? ⟨w.heap.size, 3, none⟩ = some (.slice codeA cd.length codeC) := by rw [hZc]; exact HW.out.2.cell 3
      clear hZc
      by_cases hcl : 16384 < cd.length
      · have e : chkCode ars regs spills cd = (0, 6) := by
          have : ¬ (65536 < n ∨ regs < 0 ∨ 1024 < regs ∨ spills < 0 ∨ 1024 < spills) := by omega
          simp [chkCode, h8, HS.out, this, hcl]
        have HE := Lib.hid e
        clear e
        have hcl' : (16384 : Int) < (cd.length : Int) := by omega
        go_wp2_with fail
        refine HCO.out.mono ?_
        rintro e w' ⟨rfl, rfl⟩
        rw [HAN.out]
        go_wp2
        go_ret2
        exact ⟨by rw [HE.out]; rfl, HWZ.out⟩
      have hcl' : ¬ (16384 : Int) < (cd.length : Int) := by omega
      go_wp2_with fail
      refine HCO.out.mono ?_
      rintro e w' ⟨rfl, rfl⟩
      rw [HAN.out]
      go_wp2_with fail
      refine (shapes_any _).mono ?_
      rintro e Y ⟨rfl, hbY⟩
      have hkey : ∀ (c : Array Value), (Y.alloc (.cells c 87)).setRow Y.heap.size (tabCells tb6).toArray = Y.alloc (.cells (tabCells tb6).toArray 87) := fun c => World.setRow_alloc_new Y c _ _
      have HKEY := Lib.hid hkey
      have HBY := Lib.hid (show Below W.heap.size W Y from HZ.out.trans (hbY.mono HZ.out.size))
      clear hkey hbY
      have z87 : Try.zeroCells87.size = (tabCells tb6).toArray.size := by kernel_rfl
      have hv : Below W.heap.size W (Y.alloc (.cells (tabCells tb6).toArray 87)) := HBY.out.alloc HBY.out.size _
      have HV := Lib.hid (And.intro hv (heap_new1 Y (.cells (tabCells tb6).toArray 87)))
      clear hv
      go_upto_region 17 with (refine wpList_store_row rfl _ _ _ rfl Y.heap.size (tabCells tb6).toArray rfl rfl 87 Try.zeroCells87 (heap_new1 _ _) (by kernel_rfl) z87 (by kernel_rfl) ?_; rw [HKEY.out])
      refine wp_gen (fun V => Below W.heap.size W V ∧ Blk V Y.heap.size (tabCells tb6) 87 ∧ Y.heap.size < V.heap.size) ⟨HV.out.1, HV.out.2, by simp⟩ ?_
      rintro V ⟨hbV, hkV, hVl⟩
      clear HV HKEY z87 c3 HCO HAN
      have hVc : ∀ j, V.cell? ⟨w.heap.size, j, none⟩ = W.cell? ⟨w.heap.size, j, none⟩ := fun j => hbV.cell (p := ⟨w.heap.size, j, none⟩) hWl
      have c3 : V.cell? ⟨w.heap.size, 3, none⟩ = some (.slice codeA cd.length codeC) := by rw [hVc]; exact HW.out.2.cell 3
      clear hVc
      have hwV : Below w.heap.size w V := HW.out.1.trans (hbV.mono HW.out.1.size)
      have hwVl : w.heap.size < V.heap.size := by have := hbV.size; omega
      have HVV := Lib.hid (And.intro hbV (And.intro hkV hwV))
      clear hbV hkV hwV
      go_wp2_with fail
      go_loopw [57] (fun i wr => InsRel regs spills ars.length cd V i wr) (fun i _ => cd.length - (intOf i).toNat)
      case atStart => exact ⟨0, rfl, Nat.zero_le _, by simp, Below.refl _ _⟩
      case round =>
        obtain ⟨k, rfl, hk, hrun, hbV⟩ := hrel
        have HRUN := Lib.hid hrun
        clear hrun
        have hwr2 : w.heap.size < wr.heap.size := by have := hbV.size; omega
        have hYr : Y.heap.size < wr.heap.size := by have := hbV.size; omega
        have htab : wr.heap[Y.heap.size]? = some (.cells (tabCells tb6).toArray 87 (0, 0)) := by rw [hbV.block _ hVl]; exact HVV.out.2.1
        have hrc : ∀ j, wr.cell? ⟨w.heap.size, j, none⟩ = W.cell? ⟨w.heap.size, j, none⟩ := fun j => by
          rw [hbV.cell (p := ⟨w.heap.size, j, none⟩) hwVl]; exact HVV.out.1.cell (p := ⟨w.heap.size, j, none⟩) hWl
        have d0 : wr.cell? ⟨w.heap.size, 0, none⟩ = some (.slice arsA ars.length arsC) := by rw [hrc]; exact HW.out.2.cell 0
        have d1 : wr.cell? ⟨w.heap.size, 0 + 1, none⟩ = some (.int .i64 regs) := by rw [hrc]; exact HW.out.2.cell 1
        have d2 : wr.cell? ⟨w.heap.size, 0 + 1 + 1, none⟩ = some (.int .i64 spills) := by rw [hrc]; exact HW.out.2.cell 2
        have d3 : wr.cell? ⟨w.heap.size, 0 + 1 + 1 + 1, none⟩ = some (.slice codeA cd.length codeC) := by rw [hrc]; exact HW.out.2.cell 3
        have d3' : wr.cell? ⟨w.heap.size, 3, none⟩ = some (.slice codeA cd.length codeC) := d3
        clear hrc
        have hwwr : Below w.heap.size w wr := HVV.out.2.2.trans (hbV.mono (by omega))
        by_cases hlt : k < cd.length
        · have hk' := nat_cast_ltQ hlt
          obtain ⟨b, off, rfl, hb, hc⟩ := HCD.out k hlt
          have hbw : b < wr.heap.size := by omega
          have hc2 : ∀ j, j < 5 → wr.cell? ⟨b, off + k * 5 + j, none⟩ = some ((cd.getD k default).cell j) := fun j hj => by
            rw [hwwr.cell (p := ⟨b, off + k * 5 + j, none⟩) hb]; exact hc j hj
          have harg := HARG.out (cd.getD k default) (by rw [List.getD_eq_getElem?_getD, List.getElem?_eq_getElem hlt]; exact List.getElem_mem hlt)
          have hnext := chkAll_next (regs := regs) (spills := spills) (nA := ars.length) cd k hlt
          have hbad := chkAll_bad (regs := regs) (spills := spills) (nA := ars.length) cd k hlt
          clear hc
          generalize hA : cd.getD k default = A at hc2 harg hnext hbad
          obtain ⟨op, to, a, bb, arg⟩ := A
          have q0 : wr.cell? ⟨b, off + k * 5, none⟩ = some (.int .i64 op) := hc2 0 (by omega)
          have q1 : wr.cell? ⟨b, off + k * 5 + 1, none⟩ = some (.int .i64 to) := hc2 1 (by omega)
          have q2 : wr.cell? ⟨b, off + k * 5 + 1 + 1, none⟩ = some (.int .i64 a) := hc2 2 (by omega)
          have q3 : wr.cell? ⟨b, off + k * 5 + 1 + 1 + 1, none⟩ = some (.int .i64 bb) := hc2 3 (by omega)
          have q4 : wr.cell? ⟨b, off + k * 5 + 1 + 1 + 1 + 1, none⟩ = some (.int .u32 arg) := hc2 4 (by omega)
          clear hc2 hA
          have HNX := Lib.hid (And.intro hnext hbad)
          have HBV := Lib.hid (And.intro hbV hwwr)
          have HG := Lib.hid harg
          clear hnext hbad hbV hwwr harg d3'
          have hblk := fun (o : Obj) => (show (wr.alloc o).heap[Y.heap.size]? = some (.cells (tabCells tb6).toArray 87 (0, 0)) by rw [Below.heap_alloc _ _ _ hYr]; exact htab)
          have HBK := Lib.hid hblk
          clear hblk htab
          have hnot : ¬ (65536 < n ∨ regs < 0 ∨ 1024 < regs ∨ spills < 0 ∨ 1024 < spills) := by omega
          by_cases hz : chkI regs spills ars.length ⟨op, to, a, bb, arg⟩ = 0
          · have HZ0 := Lib.hid hz
            clear hz
            go_wp2_with (first | (refine wpList_load_row rfl _ _ rfl Y.heap.size rfl 87 (tabCells tb6).toArray (0, 0) _ (HBK.out _) Try.underlying87 rfl (by kernel_rfl) ?_) | (go_at_call 46; refine (check_any _ _ _ _ _ _ _ _ _ _ _ _ _ _ hA ⟨hrs.2.2.1, hrs.2.2.2⟩ HG.out).mono ?_; rintro e X ⟨he, hbX⟩; rw [HZ0.out] at he; subst he))
            go_roundw
            case rel => exact ⟨k + 1, by simp, by omega, HRUN.out.trans (HNX.out.1 HZ0.out), (HBV.out.1.alloc HBV.out.1.size _).trans (hbX.mono (by have := HBV.out.1.size; simp; omega))⟩
            case measure => simp [intOf]; omega
          · obtain ⟨er, her⟩ : ∃ er, chkI regs spills ars.length ⟨op, to, a, bb, arg⟩ = er := ⟨_, rfl⟩
            have e : chkCode ars regs spills cd = ((k : Int), er) := by
              have := HRUN.out.trans (HNX.out.2 hz)
              simp [chkCode, h8, HS.out, hnot, hcl, this, her]
            have HE := Lib.hid (And.intro e her)
            have hne : (er != 0) = true := by rw [← her]; simpa using hz
            clear e her hz
            go_wp2_with (first | (refine wpList_load_row rfl _ _ rfl Y.heap.size rfl 87 (tabCells tb6).toArray (0, 0) _ (HBK.out _) Try.underlying87 rfl (by kernel_rfl) ?_) | (go_at_call 46; refine (check_any _ _ _ _ _ _ _ _ _ _ _ _ _ _ hA ⟨hrs.2.2.1, hrs.2.2.2⟩ HG.out).mono ?_; rintro e X ⟨he, hbX⟩; rw [HE.out.2] at he; subst he))
            go_ret2
            exact ⟨by rw [HE.out.1]; rfl, (HBV.out.2.alloc HBV.out.2.size _).trans (hbX.mono (by have := HBV.out.2.size; simp; omega))⟩
        · have hkk : k = cd.length := by omega
          subst hkk
          have hnone : chkAll regs spills ars.length cd 0 = none := by rw [HRUN.out, List.drop_length, chkAll]
          have hnot : ¬ (65536 < n ∨ regs < 0 ∨ 1024 < regs ∨ spills < 0 ∨ 1024 < spills) := by omega
          have e : chkCode ars regs spills cd = if (nestRun cd 0 []).2 then ((nestRun cd 0 []).1, 15) else (0, 0) := by simp [chkCode, h8, HS.out, hnot, hcl, hnone]
          have hrow : RowB wr.heap.size wr 5 codeA cd.length fun i j => (cd.getD i default).cell j := (HCD.out.below hwwr).mono hwwr.size
          have hnest := nested_any codeA codeC cd wr hrow (by omega)
          have HNE := Lib.hid hnest
          have HE := Lib.hid e
          have HWW := Lib.hid hwwr
          clear e hrow hnest hwwr hbV htab hnone HRUN
          generalize nestRun cd 0 [] = nr at HNE HE
          obtain ⟨p, q⟩ := nr
          cases q
          · go_wp2_with (go_at_call 47; refine HNE.out.mono ?_; rintro e X ⟨rfl, hbX⟩)
            go_ret2
            exact ⟨by rw [HE.out]; rfl, HWW.out.trans (hbX.mono HWW.out.size)⟩
          · go_wp2_with (go_at_call 47; refine HNE.out.mono ?_; rintro e X ⟨rfl, hbX⟩)
            go_ret2
            exact ⟨by rw [HE.out]; rfl, HWW.out.trans (hbX.mono HWW.out.size)⟩
end Go.Proofs.Ytefdnjhhaejgbaa

namespace Go.Proofs.Ytefdnjhhaejgbaa
open Go.RowKit
set_option linter.unusedVariables false

/-- arrays of zeros -/
def zeros (ars : List Ar) : List (List Int) := ars.map fun a => List.replicate a.size.toNat 0

theorem zeros_getD (ars : List Ar) (k : Nat) (hk : k < ars.length) : (zeros ars).getD k [] = List.replicate (ars.getD k default).size.toNat 0 := by
  simp [zeros, List.getD_eq_getElem?_getD, hk]

theorem zeros_take (ars : List Ar) (k : Nat) (hk : k < ars.length) : (zeros ars).take (k + 1) = (zeros ars).take k ++ [List.replicate (ars.getD k default).size.toNat 0] := by
  rw [List.take_succ_eq_append_getElem (by simpa [zeros] using hk)]
  simp [zeros, List.getD_eq_getElem?_getD, hk]

theorem run_make_16 (w : World) : (Instr.makeSlice 29 (.int .i64 16) (.int .i64 16)).run Try.prog w = .ok (.slice (some ⟨w.heap.size, 0, none⟩) 16 16) (w.alloc (.cells (ints .u32 (List.replicate 16 0)).toArray 42)) := run_make_u32 16 (by omega) w

theorem wpPlan_gen {P : Program} {md : Region.Mode} {ops : Array Oper} {Q : Exit → Act → World → Prop} {S : World → Prop} {fl : List Nat} {l : List (Nat × Nat × Oper)} {a : Act} {w : World} (F : World → Prop) (hF : F w) (h : ∀ w', F w' → wpPlan P md ops Q S fl l a w') :
    wpPlan P md ops Q S fl l a w := h w hF

set_option maxRecDepth 100000 in
set_option maxHeartbeats 1000000 in
theorem start_any (qa : Option Addr) (cq : Nat) (ars : List Ar) (w : World) (hars : RowB w.heap.size w 2 qa ars.length fun i j => (ars.getD i default).cell j)
    (hn : ars.length ≤ 8) (h1 : ∀ a ∈ ars, 1 ≤ a.size ∧ a.size ≤ 65536) :
    Calls Try.prog 30 #[.slice qa ars.length cq] w (CopyPost w (zeros ars) (List.replicate 16 0)) := by
  have m16 := run_make_16
  have HARS := Lib.hid hars
  have H1 := Lib.hid h1
  clear hars h1
  have start : ∀ wr, wr = ((w.alloc (.cells #[.slice none 0 0, .slice none 0 0] 31)).alloc (.cells (ints .u32 (List.replicate 16 0)).toArray 42)).alloc (.cells #[.slice none 0 0, .slice (some ⟨w.heap.size + 1, 0, none⟩) 16 16] 31) →
      CopyRel w (zeros ars) (List.replicate 16 0) w.heap.size (w.heap.size + 1 + 1) (w.heap.size + 1) 16 (.int .i64 0) wr := by
    rintro wr rfl
    refine ⟨0, fun x => if x = w.heap.size + 1 then 3 else if x = w.heap.size then 2000 else 2001, fun _ => 0, fun _ => 0, .slice none 0 0, rfl, ⟨by omega, ⟨?_, fun k hk => by simp at hk, fun k hk => by simp at hk, fun g hg => by simp [Value.ownBlock] at hg, fun k hk => by simp at hk⟩, ?_, ?_, ⟨[], ?_⟩, by simp, ?_, ?_, by omega, by omega, by omega, ((((Below.refl _ _).alloc (by simp) _).alloc (by simp) _).alloc (by simp; omega) _)⟩⟩
    · exact World.ownsRow_nil _ _ _ _
    · have := heap_new1 ((w.alloc (.cells #[.slice none 0 0, .slice none 0 0] 31)).alloc (.cells (ints .u32 (List.replicate 16 0)).toArray 42)) (.cells #[.slice none 0 0, .slice (some ⟨w.heap.size + 1, 0, none⟩) 16 16] 31)
      unfold Blk
      simpa using this
    · unfold Blk
      rw [Below.heap_alloc _ _ _ (by simp; omega), Below.heap_alloc _ _ _ (by simp)]
      exact heap_new1 _ _
    · unfold Blk
      rw [Below.heap_alloc _ _ _ (by simp), List.append_nil]
      exact heap_new2 _ _ _
    · rw [if_neg (by omega)]; simp
    · rw [if_neg (by omega), if_neg (by omega)]
  have HST := Lib.hid start
  clear start
  go_enter Try.func30, Try.ntmps30
  go_wp2_with fail
  go_loopw [10] (fun i wr => CopyRel w (zeros ars) (List.replicate 16 0) w.heap.size (w.heap.size + 1 + 1) (w.heap.size + 1) 16 i wr) (fun i _ => ars.length - (intOf i).toNat)
  case atStart => exact HST.out _ rfl
  case round =>
    obtain ⟨k, τ, ab, ac, v, rfl, CA⟩ := hrel
    have hzl : (zeros ars).length = ars.length := by simp [zeros]
    by_cases hk : k < ars.length
    · obtain ⟨b, off, rfl, hb, hcells⟩ := HARS.out k hk
      have hx := H1.out (ars.getD k default) (by rw [List.getD_eq_getElem?_getD, List.getElem?_eq_getElem hk]; exact List.getElem_mem hk)
      have hZ := zeros_take ars k hk
      have c0 : w.cell? ⟨b, off + k * 2 + 0, none⟩ = some ((ars.getD k default).cell 0) := hcells 0 (by omega)
      have c1 : w.cell? ⟨b, off + k * 2 + 1, none⟩ = some ((ars.getD k default).cell 1) := hcells 1 (by omega)
      clear hcells
      generalize hA : ars.getD k default = A at *
      obtain ⟨wd, sz⟩ := A
      obtain ⟨n, rfl⟩ : ∃ n : Nat, sz = (n : Int) := ⟨sz.toNat, by simp at hx; omega⟩
      have hx1 : 1 ≤ n ∧ n ≤ 65536 := by simp at hx; omega
      have hk' := nat_cast_lt hk
      have hbw : b < wr.heap.size := Nat.lt_of_lt_of_le hb CA.bel.size
      have q0 : wr.cell? ⟨b, off + k * 2, none⟩ = some (.bool wd) := by rw [CA.bel.cell (p := ⟨b, off + k * 2, none⟩) hb]; exact c0
      have q1 : wr.cell? ⟨b, off + k * 2 + 1, none⟩ = some (.int .i64 (n : Int)) := by rw [CA.bel.cell (p := ⟨b, off + k * 2 + 1, none⟩) hb]; exact c1
      have mk := run_make_u32 n (by omega)
      have c3 : wr.cell? ⟨w.heap.size + 1 + 1, 0, none⟩ = some v := CA.out.cell 0
      have z3 := CA.out.frozen 0
      have hol := CA.out.lt
      obtain ⟨va, vc, rfl⟩ : ∃ va vc, v = .slice va k vc := by
        have hl : ((zeros ars).take k).length = k := by simp [hzl]; omega
        have hown := CA.grid.own
        rw [hl] at hown
        rcases hown.2 with ⟨h1, h2⟩ | ⟨g, cc, cur, h1, _⟩
        · exact ⟨none, 0, by rw [h1, h2]⟩
        · exact ⟨_, cc, h1⟩
      have HZ := Lib.hid hZ
      have HA := Lib.hid hA
      clear hZ hA c0 c1 hx
      go_wp2_with fail
      refine wp_region_grew [1, 3] [0, 2] [(2, 0), (2, 2), (1, 1), (1, 3), (0, 4), (0, 5), (0, 6), (0, 7), (0, 8)] (by kernel_rfl) (by kernel_rfl) (fun c a d v w h => by cases d <;> exact h) ?_
      simp only [getPlan, List.filterMap_cons, List.filterMap_nil, List.getElem?_toArray, List.getElem?_cons_succ, List.getElem?_cons_zero, Option.map_some]
      repeat ((first | refine wpPlan_pure (fun K hK => ?_) | refine wpPlan_float (fun K hK => ?_)); go_simp; refine hK _ ?_; clear hK K)
      refine wpPlan_keep ?_
      go_wp2_with fail
      refine ⟨grew_below (((Below.refl _ _).drew).alloc (by simp) _), ?_⟩
      refine wpPlan_keep ?_
      go_wp2_with fail
      refine ⟨grew_below ((((Below.refl _ _).drew).alloc (by simp) _).alloc (by simp) _), ?_⟩
      refine wpPlan_gen (fun z => Below wr.heap.size wr z ∧ Blk z (wr.heap.size + 1) (ints .u32 (List.replicate n 0) ++ []) 42 ∧ z.heap[wr.heap.size + 1 + 1]? = some (.cells [.slice (some ⟨wr.heap.size + 1, 0, none⟩) n n].toArray 29 (0, 0)) ∧ wr.heap.size + 2 < z.heap.size) ?_ ?_
      · refine ⟨((((Below.refl _ _).alloc (by simp) _).alloc (by simp) _).alloc (by simp; omega) _).drew, ?_, ?_, ?_⟩
        · unfold Blk
          rw [drew_heap, Below.heap_alloc _ _ _ (by simp), List.append_nil]
          exact heap_new2 _ _ _
        · rw [drew_heap]
          have := heap_new1 ((wr.alloc (.cells #[.bool wd, .int .i64 (n : Int)] 59)).alloc (.cells (ints .u32 (List.replicate n 0)).toArray 42)) (.cells #[.slice (some ⟨wr.heap.size + 1, 0, none⟩) n n] 29)
          simpa using this
        · simp
      rintro z ⟨hb5, hblk4, hnew, hs4⟩
      have hl : ((zeros ars).take k).length = k := by simp [hzl]; omega
      have hown4 : z.ownsRow w.heap.size 29 1 (.slice va k vc) k ((List.range k).map fun j => .slice (some ⟨ab j, 0, none⟩) (((zeros ars).take k).getD j []).length (ac j)) := by
        have h9 := CA.grid.own.kept (grownBy_of_below hb5 none) (by cases hv : (Value.slice va ((zeros ars).take k).length vc).ownBlock <;> simp_all)
        rw [hl] at h9
        exact h9
      refine wpPlan_sees (by kernel_rfl) ?_
      refine wpList_app1 Try.elSl rfl _ _ rfl w.heap.size (.slice va k vc) k _ rfl hown4 (wr.heap.size + 1 + 1) [.slice (some ⟨wr.heap.size + 1, 0, none⟩) n n] (0, 0) rfl hnew rfl ?_ ?_ ?_ ?_
      · simp [Value.oneCell']
      · omega
      · have := CA.bel.size; omega
      intro g6 c6 w6 hown6 hg5 hat5 hlt6
      have hB := CA.bel.size
      have vto : ∀ x, (Value.slice va k vc).ownBlock = some x → τ x = 4 := CA.grid.to
      have vlt : ∀ x, (Value.slice va k vc).ownBlock = some x → x < wr.heap.size := fun x hx => (CA.grid.own.lt x hx).2
      have hat6 : (Value.slice va k vc).ownBlock = some g6 ∨ z.heap.size ≤ g6 := by
        rcases hat5 with h | h
        · exact .inl h
        · right; omega
      have P := CA.grid.push (List.replicate n 0) hB hb5 hblk4 (by omega) (by rw [hl]; simpa using hown6) hg5 hat6
      rw [hl] at P
      have fr : ∀ y t, y < wr.heap.size → τ y = t → t ≠ 4 → y ≠ wr.heap.size + 1 ∧ y ≠ g6 ∧ w6.heap[y]? = wr.heap[y]? := by
        intro y t hy ht hne
        have hne2 : some y ≠ (Value.slice va k vc).ownBlock := fun e => hne (by rw [← ht]; exact vto y e.symm)
        refine ⟨by omega, fun e => ?_, ?_⟩
        · rcases hat6 with h | h
          · exact hne2 (by rw [h, e])
          · omega
        · rw [hg5.block y (by omega) hne2, hb5.block y hy]
      have f3 := fr (w.heap.size + 1 + 1) 2001 hol CA.t3 (by omega)
      have c6' : w6.cell? ⟨w.heap.size + 1 + 1, 0, none⟩ = some (.slice va k vc) := by rw [World.cell?_of_block f3.2.2]; exact c3
      have z6 : w6.frozen? ⟨w.heap.size + 1 + 1, 0, none⟩ = false := by rw [World.frozen?_of_block f3.2.2]; exact z3
      have f2 := fr w.heap.size 2000 CA.res.lt CA.t2 (by omega)
      have fc := fr (w.heap.size + 1) 3 (by obtain ⟨t, ht⟩ := CA.ctx; exact ht.lt) CA.tc (by omega)
      have rel : CopyRel w (zeros ars) (List.replicate 16 0) w.heap.size (w.heap.size + 1 + 1) (w.heap.size + 1) 16 (.int .i64 ((k : Int) + 1)) (w6.setCell ⟨w.heap.size + 1 + 1, 0, none⟩ (.slice (some ⟨g6, 0, none⟩) (k + 1) c6)) := by
        have hP2 := P.foreign (by simp [hzl]; omega) (y := w.heap.size + 1 + 1) (by show 1000 ≤ (if _ then _ else if _ then _ else _); rw [if_neg f3.1, if_neg f3.2.1, CA.t3]; omega) 0 (.slice (some ⟨g6, 0, none⟩) (k + 1) c6)
        have hne : ∀ y, y ≠ w.heap.size + 1 + 1 → (w6.setCell ⟨w.heap.size + 1 + 1, 0, none⟩ (.slice (some ⟨g6, 0, none⟩) (k + 1) c6)).heap[y]? = w6.heap[y]? := fun y hy => Below.heap_setCell _ _ _ _ hy
        refine ⟨k + 1, _, _, _, _, by simp, ⟨by omega, by rw [HZ.out]; exact hP2, ?_, ?_, ?_, by show (if _ then _ else if _ then _ else _) = _; rw [if_neg fc.1, if_neg fc.2.1]; exact CA.tc, by show (if _ then _ else if _ then _ else _) = _; rw [if_neg f2.1, if_neg f2.2.1]; exact CA.t2, by show (if _ then _ else if _ then _ else _) = _; rw [if_neg f3.1, if_neg f3.2.1]; exact CA.t3, CA.bc, CA.b2, CA.b3, ?_⟩⟩
        · have o6 : Blk w6 (w.heap.size + 1 + 1) [.slice va k vc, .slice (some ⟨w.heap.size + 1, 0, none⟩) (List.replicate 16 (0 : Int)).length 16] 31 := by unfold Blk; rw [f3.2.2]; exact CA.out
          exact o6.set 0 _
        · unfold Blk; rw [hne _ (by omega), f2.2.2]; exact CA.res
        · obtain ⟨t, ht⟩ := CA.ctx
          exact ⟨t, by unfold Blk; rw [hne _ (by omega), fc.2.2]; exact ht⟩
        · exact ((CA.bel.trans (hb5.mono hB)).trans (below_grown hg5 (by omega) (fun x hx => (CA.grid.own.lt x hx).1))).setCell CA.b3 _
      have HREL := Lib.hid rel
      clear fr P hown6 hg5 hat6 hat5 hown4 f3 f2 fc c3 z3 rel hb5 hblk4 hnew vto vlt q0 q1
      go_wp2
      refine wpPlan_tail (by kernel_rfl) ?_
      simp only [List.map_cons, List.map_nil]
      go_wp2
      go_roundw
      case rel => exact HREL.out
      case measure => simp [intOf]; omega
    · have hkk : k = ars.length := by have := CA.le; omega
      subst hkk
      obtain ⟨va, vc, rfl⟩ : ∃ va vc, v = .slice va ars.length vc := by
        have hown := CA.grid.own
        rw [← hzl, List.take_length] at hown
        rw [← hzl]
        rcases hown.2 with ⟨h1, h2⟩ | ⟨g, cc, cur, h1, _⟩
        · exact ⟨none, 0, by rw [h1, h2]⟩
        · exact ⟨_, cc, h1⟩
      have c0 : wr.cell? ⟨w.heap.size + 1 + 1, 0, none⟩ = some (.slice va ars.length vc) := CA.out.cell 0
      have c1 : wr.cell? ⟨w.heap.size + 1 + 1, 0 + 1, none⟩ = some (.slice (some ⟨w.heap.size + 1, 0, none⟩) 16 16) := CA.out.cell 1
      have y0 : wr.cell? ⟨w.heap.size, 0, none⟩ = some (.slice none 0 0) := CA.res.cell 0
      have y1 : wr.cell? ⟨w.heap.size, 0 + 1, none⟩ = some (.slice none 0 0) := CA.res.cell 1
      have z0 := CA.res.frozen 0
      have z1 := CA.res.frozen (0 + 1)
      have HZL := Lib.hid hzl
      clear hzl
      go_wp2
      refine bodyPost_ret (v := .agg #[.slice va ars.length vc, .slice (some ⟨w.heap.size + 1, 0, none⟩) 16 16]) ?_ rfl ?_
      · have e0 := (CA.res.set 0 (.slice va ars.length vc)).set 1 (.slice (some ⟨w.heap.size + 1, 0, none⟩) 16 16)
        have x0 := e0.cell 0
        have x1 := e0.cell 1
        simp only [List.set_cons_zero, List.set_cons_succ, List.getElem?_cons_zero, List.getElem?_cons_succ] at x0 x1
        simp [results, Try.results30, go_sem, x0, x1]
      · have hgr := CA.grid
        rw [← HZL.out, List.take_length] at hgr
        have g1 := (hgr.foreign (by rw [HZL.out]; omega) (y := w.heap.size) (by rw [CA.t2]; omega) 0 (.slice va ars.length vc)).foreign (by rw [HZL.out]; omega) (y := w.heap.size) (by rw [CA.t2]; omega) 1 (.slice (some ⟨w.heap.size + 1, 0, none⟩) 16 16)
        obtain ⟨t9, ht9⟩ := CA.ctx
        have hgn : w.heap.size + 1 ≠ w.heap.size := by omega
        rw [HZL.out] at g1
        exact ⟨_, τ, ab, ac, w.heap.size + 1, 16, rfl, g1, ⟨t9, (ht9.other hgn _).other hgn _⟩, CA.tc, CA.bc, (CA.bel.setCell CA.b2 _).setCell CA.b2 _⟩

end Go.Proofs.Ytefdnjhhaejgbaa

namespace Go.Proofs.Ytefdnjhhaejgbaa
open Go.RowKit
set_option linter.unusedVariables false

/-- a slice of slices of numbers, whatever they are -/
def GridR (w : World) (qa : Option Addr) (arr : List (List Int)) : Prop :=
  ∀ k, k < arr.length → ∃ q qo a cap, qa = some ⟨q, qo, none⟩ ∧ w.cell? ⟨q, qo + k, none⟩ = some (.slice a (arr.getD k []).length cap) ∧ RowB w.heap.size w 1 a (arr.getD k []).length (fun j _ => .int .u32 ((arr.getD k []).getD j 0))

theorem GridR.below {w w' : World} {qa : Option Addr} {arr : List (List Int)} (h : GridR w qa arr) (hb : Below w.heap.size w w') : GridR w' qa arr := by
  intro k hk
  obtain ⟨q, qo, a, cap, h1, h2, h3⟩ := h k hk
  exact ⟨q, qo, a, cap, h1, by rw [hb.cell (p := ⟨q, qo + k, none⟩) (World.block_lt_of_cell? w _ h2)]; exact h2, (h3.below hb).mono hb.size⟩

theorem NumsAt.row {w : World} {a : Option Addr} {xs : List Int} (h : NumsAt w a xs) : RowB w.heap.size w 1 a xs.length (fun j _ => .int .u32 (xs.getD j 0)) := by
  obtain ⟨b, off, ha, hc⟩ := h
  intro j hj
  refine ⟨b, off, ha, World.block_lt_of_cell? w _ (hc j hj), fun i hi => ?_⟩
  have : i = 0 := by omega
  subst this
  simpa using hc j hj
theorem RowB.nums {B : Nat} {w : World} {a : Option Addr} {xs : List Int} (h : RowB B w 1 a xs.length (fun j _ => .int .u32 (xs.getD j 0))) (h0 : 0 < xs.length) : NumsAt w a xs := by
  obtain ⟨b, off, ha, hb, _⟩ := h 0 h0
  refine ⟨b, off, ha, fun j hj => ?_⟩
  obtain ⟨b', off', ha', _, hc⟩ := h j hj
  rw [ha] at ha'
  simp only [Option.some.injEq, Addr.mk.injEq] at ha'
  obtain ⟨rfl, rfl, _⟩ := ha'
  simpa using hc 0 (by omega)
theorem GridAt.toR {w : World} {qa : Option Addr} {arr : List (List Int)} (h : GridAt w qa arr) : GridR w qa arr := by
  intro k hk
  obtain ⟨q, qo, a, cap, h1, h2, h3⟩ := h k hk
  exact ⟨q, qo, a, cap, h1, h2, h3.row⟩
theorem GridR.toAt {w : World} {qa : Option Addr} {arr : List (List Int)} (h : GridR w qa arr) (h0 : ∀ a ∈ arr, 0 < a.length) : GridAt w qa arr := by
  intro k hk
  obtain ⟨q, qo, a, cap, h1, h2, h3⟩ := h k hk
  exact ⟨q, qo, a, cap, h1, h2, h3.nums (h0 _ (by rw [List.getD_eq_getElem?_getD, List.getElem?_eq_getElem hk]; exact List.getElem_mem hk))⟩

def fitB (a : Ar) (xs : List Int) : Bool := decide ((xs.length : Int) = a.size) && (a.word || !xs.any (fun n => decide (255 < n)))
/-- a memory fits arrays -/
def fitsB (ars : List Ar) (arr : List (List Int)) (nctx : Nat) : Bool := decide (arr.length = ars.length) && decide (nctx = 16) && (List.range ars.length).all fun k => fitB (ars.getD k default) (arr.getD k [])

def FitRel (ars : List Ar) (arr : List (List Int)) (W : World) (i : Value) (wr : World) : Prop :=
  ∃ k : Nat, i = .int .i64 (k : Int) ∧ k ≤ ars.length ∧ (∀ j, j < k → fitB (ars.getD j default) (arr.getD j []) = true) ∧ Below W.heap.size W wr

theorem enter_fits1 (args : Array Value) (w : World) : (callFunc 51 args).run Try.prog w = .ok (.enter 51 args) w := run_enter Try.func51 rfl rfl args w

theorem fits_not {ars : List Ar} {arr : List (List Int)} {n k : Nat} (hk : k < ars.length) (h : fitB (ars.getD k default) (arr.getD k []) = false) : fitsB ars arr n = false := by
  unfold fitsB
  rw [Bool.and_eq_false_iff]
  right
  rw [List.all_eq_false]
  exact ⟨k, List.mem_range.2 hk, by simpa using h⟩

set_option maxRecDepth 100000 in
set_option maxHeartbeats 1000000 in
theorem fits_any (arsA qa ca : Option Addr) (arsC cq cc nctx : Nat) (ars : List Ar) (arr : List (List Int)) (w : World) (hars : RowB w.heap.size w 2 arsA ars.length fun i j => (ars.getD i default).cell j)
    (hg : GridR w qa arr) (hA : ars.length ≤ 9223372036854775806) (hl : ∀ a ∈ arr, a.length ≤ 9223372036854775806) :
    Calls Try.prog 37 #[.slice arsA ars.length arsC, .agg #[.slice qa arr.length cq, .slice ca nctx cc]] w fun e w' => e = .returned (.bool (fitsB ars arr nctx)) ∧ Below w.heap.size w w' := by
  have HARS := Lib.hid hars
  have HG := Lib.hid hg
  have HL := Lib.hid hl
  clear hars hg hl
  have hb : Below w.heap.size w (w.alloc (.cells #[.slice qa arr.length cq, .slice ca nctx cc] 31)) := (Below.refl _ _).alloc (Nat.le_refl _) _
  have HB := Lib.hid (And.intro hb (heap_new1 w (.cells #[.slice qa arr.length cq, .slice ca nctx cc] 31)))
  clear hb
  by_cases hne : arr.length = ars.length
  rotate_left
  · have e : fitsB ars arr nctx = false := by simp [fitsB, hne]
    have HE := Lib.hid e
    have hne2 : ((arr.length : Int) != (ars.length : Int)) = true := by simp; omega
    clear e hne
    go_enter Try.func37, Try.ntmps37
    go_wp2
    go_ret
    exact ⟨ret_bool HE.out.symm, HB.out.1⟩
  by_cases h16 : nctx = 16
  rotate_left
  · have e : fitsB ars arr nctx = false := by simp [fitsB, h16]
    have HE := Lib.hid e
    have hne2 : ((arr.length : Int) != (ars.length : Int)) = false := by simp [hne]
    have h162 : ((nctx : Int) != 16) = true := by simp; omega
    clear e hne h16
    go_enter Try.func37, Try.ntmps37
    go_wp2
    go_ret
    exact ⟨ret_bool HE.out.symm, HB.out.1⟩
  subst h16
  have hne2 : ((arr.length : Int) != (ars.length : Int)) = false := by simp [hne]
  have HNE := Lib.hid hne
  clear hne
  go_enter Try.func37, Try.ntmps37
  go_upto_region 1 with (fail)
  refine wp_gen (fun W => Below w.heap.size w W ∧ Blk W w.heap.size [.slice qa arr.length cq, .slice ca 16 cc] 31 ∧ w.heap.size < W.heap.size) ⟨HB.out.1, HB.out.2, by simp⟩ ?_
  rintro W ⟨hbW, hbk, hWl⟩
  clear HB
  have a0 : W.cell? ⟨w.heap.size, 0, none⟩ = some (.slice qa arr.length cq) := hbk.cell 0
  have a1 : W.cell? ⟨w.heap.size, 1, none⟩ = some (.slice ca 16 cc) := hbk.cell 1
  have HW := Lib.hid (And.intro hbW hbk)
  clear hbW hbk
  go_wp2_with fail
  go_loopw [21] (fun i wr => FitRel ars arr W i wr) (fun i _ => ars.length - (intOf i).toNat)
  case atStart => exact ⟨0, rfl, Nat.zero_le _, fun j hj => by omega, Below.refl _ _⟩
  case round =>
    obtain ⟨k, rfl, hk, hfit, hbel⟩ := hrel
    have HF := Lib.hid hfit
    clear hfit a0 a1
    have hwwr : Below w.heap.size w wr := HW.out.1.trans (hbel.mono HW.out.1.size)
    by_cases hlt : k < ars.length
    · have hk' := nat_cast_ltP hlt
      have hka : k < arr.length := by rw [HNE.out]; exact hlt
      have hka' := nat_cast_ltP hka
      obtain ⟨b, off, rfl, hb, hc⟩ := HARS.out k hlt
      have hbw : b < wr.heap.size := by have := hwwr.size; omega
      have hc2 : ∀ j, j < 2 → wr.cell? ⟨b, off + k * 2 + j, none⟩ = some ((ars.getD k default).cell j) := fun j hj => by
        rw [hwwr.cell (p := ⟨b, off + k * 2 + j, none⟩) hb]; exact hc j hj
      clear hc
      obtain ⟨q, qo, a, cap, rfl, hq, hrow⟩ := (HG.out.below hwwr) k hka
      have hlen := HL.out (arr.getD k []) (by rw [List.getD_eq_getElem?_getD, List.getElem?_eq_getElem hka]; exact List.getElem_mem hka)
      have hnot := fits_not (arr := arr) (n := 16) hlt
      have hstep : fitB (ars.getD k default) (arr.getD k []) = true → ∀ j, j < k + 1 → fitB (ars.getD j default) (arr.getD j []) = true := fun h j hj => by
        by_cases hjk : j = k
        · subst hjk; exact h
        · exact HF.out j (by omega)
      generalize hA : ars.getD k default = A at hc2 hnot hstep
      generalize hX : arr.getD k [] = X at hq hrow hlen hnot hstep
      obtain ⟨wd, sz⟩ := A
      have q0 : wr.cell? ⟨b, off + k * 2, none⟩ = some (.bool wd) := hc2 0 (by omega)
      have q1 : wr.cell? ⟨b, off + k * 2 + 1, none⟩ = some (.int .i64 sz) := hc2 1 (by omega)
      have hql : q < wr.heap.size := World.block_lt_of_cell? wr _ hq
      have hbz : Below wr.heap.size wr (wr.alloc (.cells #[.bool wd, .int .i64 sz] 59)) := (Below.refl _ _).alloc (Nat.le_refl _) _
      have hwz : Below w.heap.size w (wr.alloc (.cells #[.bool wd, .int .i64 sz] 59)).drew := (hwwr.trans (hbz.mono hwwr.size)).drew
      have hWz : Below W.heap.size W (wr.alloc (.cells #[.bool wd, .int .i64 sz] 59)).drew := (hbel.trans (hbz.mono hbel.size)).drew
      have c0 : wr.cell? ⟨w.heap.size, 0, none⟩ = some (.slice (some ⟨q, qo, none⟩) arr.length cq) := by rw [hbel.cell (p := ⟨w.heap.size, 0, none⟩) hWl]; exact HW.out.2.cell 0
      have hwl : w.heap.size < wr.heap.size := by have := hbel.size; omega
      have hrow2 : RowB (wr.alloc (.cells #[.bool wd, .int .i64 sz] 59)).drew.heap.size (wr.alloc (.cells #[.bool wd, .int .i64 sz] 59)).drew 1 a X.length (fun j _ => .int .u32 (X.getD j 0)) := (hrow.below hbz.drew).mono hbz.drew.size
      have cont := contains_u32 a cap X 51 (fun n => decide (255 < n)) (wr.alloc (.cells #[.bool wd, .int .i64 sz] 59)).drew hrow2 hlen enter_fits1 (fun x w => fits1_any x w)
      have HCO := Lib.hid cont
      have HNOT := Lib.hid hnot
      have HST := Lib.hid hstep
      have HWZ := Lib.hid (And.intro hwz hWz)
      clear hc2 hA hX hrow hrow2 cont hnot hstep hbz hwz hWz hbel hwwr HF
      have hnn : 0 ≤ (X.length : Int) := by omega
      cases hl : decide ((X.length : Int) = sz)
      · have e : fitB ⟨wd, sz⟩ X = false := by simp [fitB, hl]
        have HE := Lib.hid (HNOT.out e)
        have hd : ((X.length : Int) != sz) = true := by simpa using hl
        clear e hl
        go_wp2_with fail
        refine wp_region_keeps [0, 2, 6, 3, 5, 8, 9, 10, 12, 13, 14, 16, 17] [(2, 0), (2, 2), (2, 6), (1, 1), (2, 3), (1, 4), (2, 5), (1, 7), (2, 8), (2, 9), (2, 10), (1, 11), (2, 12), (2, 13), (2, 14), (2, 16), (1, 15), (2, 17), (1, 18), (0, 19), (0, 20), (0, 21)] (by kernel_rfl) (by kernel_rfl) (fun c a d v w h => by cases d <;> exact h) ?_
        simp only [getPlan, List.filterMap_cons, List.filterMap_nil, List.getElem?_toArray, List.getElem?_cons_succ, List.getElem?_cons_zero, Option.map_some]
        repeat ((first | refine wpPlanK_pure (fun K hK => ?_) | refine wpPlanK_float (fun K hK => ?_)); go_simp; refine hK _ ?_; clear hK K)
        repeat (refine wpPlanK_keep ?_; go_wp2_with fail; refine ⟨grew_below (Below.refl _ _).drew, ?_⟩)
        refine wpPlanK_nil ?_
        go_wp2
        go_ret
        exact ⟨ret_bool HE.out.symm, HWZ.out.1⟩
      · have hl2 : (X.length : Int) = sz := by simpa using hl
        have hd : ((X.length : Int) != sz) = false := by simpa using hl2
        have HL2 := Lib.hid hl2
        clear hl hl2
        cases wd
        · cases hany : X.any (fun n => decide (255 < n))
          · have e : fitB ⟨false, sz⟩ X = true := by simp [fitB, HL2.out, hany]
            have HE := Lib.hid (HST.out e)
            have HAN := Lib.hid hany
            clear e hany
            go_wp2_with fail
            refine wp_region_keeps [0, 2, 6, 3, 5, 8, 9, 10, 12, 13, 14, 16, 17] [(2, 0), (2, 2), (2, 6), (1, 1), (2, 3), (1, 4), (2, 5), (1, 7), (2, 8), (2, 9), (2, 10), (1, 11), (2, 12), (2, 13), (2, 14), (2, 16), (1, 15), (2, 17), (1, 18), (0, 19), (0, 20), (0, 21)] (by kernel_rfl) (by kernel_rfl) (fun c a d v w h => by cases d <;> exact h) ?_
            simp only [getPlan, List.filterMap_cons, List.filterMap_nil, List.getElem?_toArray, List.getElem?_cons_succ, List.getElem?_cons_zero, Option.map_some]
            repeat ((first | refine wpPlanK_pure (fun K hK => ?_) | refine wpPlanK_float (fun K hK => ?_)); go_simp; refine hK _ ?_; clear hK K)
            refine wpPlanK_keep ?_
            go_wp2_with fail
            refine HCO.out.mono ?_
            rintro e w' ⟨rfl, rfl⟩
            rw [HAN.out]
            go_wp2_with fail
            refine ⟨grew_below (Below.refl _ _).drew, ?_⟩
            repeat (refine wpPlanK_keep ?_; go_wp2_with fail; refine ⟨grew_below (Below.refl _ _).drew, ?_⟩)
            refine wpPlanK_nil ?_
            go_wp2
            go_roundw
            case rel => exact ⟨k + 1, by simp, by omega, HE.out, HWZ.out.2⟩
            case measure => simp [intOf]; omega
          · have e : fitB ⟨false, sz⟩ X = false := by simp [fitB, HL2.out, hany]
            have HE := Lib.hid (HNOT.out e)
            have HAN := Lib.hid hany
            clear e hany
            go_wp2_with fail
            refine wp_region_keeps [0, 2, 6, 3, 5, 8, 9, 10, 12, 13, 14, 16, 17] [(2, 0), (2, 2), (2, 6), (1, 1), (2, 3), (1, 4), (2, 5), (1, 7), (2, 8), (2, 9), (2, 10), (1, 11), (2, 12), (2, 13), (2, 14), (2, 16), (1, 15), (2, 17), (1, 18), (0, 19), (0, 20), (0, 21)] (by kernel_rfl) (by kernel_rfl) (fun c a d v w h => by cases d <;> exact h) ?_
            simp only [getPlan, List.filterMap_cons, List.filterMap_nil, List.getElem?_toArray, List.getElem?_cons_succ, List.getElem?_cons_zero, Option.map_some]
            repeat ((first | refine wpPlanK_pure (fun K hK => ?_) | refine wpPlanK_float (fun K hK => ?_)); go_simp; refine hK _ ?_; clear hK K)
            refine wpPlanK_keep ?_
            go_wp2_with fail
            refine HCO.out.mono ?_
            rintro e w' ⟨rfl, rfl⟩
            rw [HAN.out]
            go_wp2_with fail
            refine ⟨grew_below (Below.refl _ _).drew, ?_⟩
            repeat (refine wpPlanK_keep ?_; go_wp2_with fail; refine ⟨grew_below (Below.refl _ _).drew, ?_⟩)
            refine wpPlanK_nil ?_
            go_wp2
            go_ret
            exact ⟨ret_bool HE.out.symm, HWZ.out.1⟩
        · have e : fitB ⟨true, sz⟩ X = true := by simp [fitB, HL2.out]
          have HE := Lib.hid (HST.out e)
          clear e
          go_wp2_with fail
          refine wp_region_keeps [0, 2, 6, 3, 5, 8, 9, 10, 12, 13, 14, 16, 17] [(2, 0), (2, 2), (2, 6), (1, 1), (2, 3), (1, 4), (2, 5), (1, 7), (2, 8), (2, 9), (2, 10), (1, 11), (2, 12), (2, 13), (2, 14), (2, 16), (1, 15), (2, 17), (1, 18), (0, 19), (0, 20), (0, 21)] (by kernel_rfl) (by kernel_rfl) (fun c a d v w h => by cases d <;> exact h) ?_
          simp only [getPlan, List.filterMap_cons, List.filterMap_nil, List.getElem?_toArray, List.getElem?_cons_succ, List.getElem?_cons_zero, Option.map_some]
          repeat ((first | refine wpPlanK_pure (fun K hK => ?_) | refine wpPlanK_float (fun K hK => ?_)); go_simp; refine hK _ ?_; clear hK K)
          repeat (refine wpPlanK_keep ?_; go_wp2_with fail; refine ⟨grew_below (Below.refl _ _).drew, ?_⟩)
          refine wpPlanK_nil ?_
          go_wp2
          go_roundw
          case rel => exact ⟨k + 1, by simp, by omega, HE.out, HWZ.out.2⟩
          case measure => simp [intOf]; omega
    · have hkk : k = ars.length := by omega
      subst hkk
      have e : fitsB ars arr 16 = true := by
        simp only [fitsB, HNE.out, decide_true, Bool.true_and, List.all_eq_true, List.mem_range]
        exact HF.out
      have HE := Lib.hid e
      have HBW := Lib.hid hwwr
      clear e hwwr hbel
      go_wp2
      go_ret
      exact ⟨ret_bool HE.out.symm, HBW.out⟩
end Go.Proofs.Ytefdnjhhaejgbaa

namespace Go.Proofs.Ytefdnjhhaejgbaa
open Go.RowKit
set_option linter.unusedVariables false

theorem GridOwn.lower {B : Nat} {τ : Nat → Nat} {arr : List (List Int)} {ab ac : Nat → Nat} {v : Value} {w : World} (h : GridOwn B τ arr ab ac v w) {y : Nat} (hy : y < B) (j : Nat) (u : Value) : GridOwn B τ arr ab ac v (w.setCell ⟨y, j, none⟩ u) := by
  have hg : w.grownBy (w.setCell ⟨y, j, none⟩ u) (some y) := ⟨rfl, rfl, rfl, by simp [World.setCell], fun k _ hk => Below.heap_setCell _ _ _ _ (fun e => hk (by rw [e]))⟩
  exact { h with
    own := h.own.kept hg (by
      cases hv : v.ownBlock with
      | none => exact .inl rfl
      | some x => right; intro e; have := (h.own.lt x hv).1; have e2 := Option.some.inj e; omega)
    blk := fun k hk => by
      obtain ⟨t, ht⟩ := h.blk k hk
      exact ⟨t, ht.other (fun e => by have := h.ba k hk; simp at e; omega) _⟩ }

theorem GridOwn.above {B : Nat} {τ : Nat → Nat} {arr : List (List Int)} {ab ac : Nat → Nat} {v : Value} {w w2 : World} (h : GridOwn B τ arr ab ac v w) (hw : ∀ k, B ≤ k → w2.heap[k]? = w.heap[k]?) : GridOwn B τ arr ab ac v w2 :=
  { h with
    own := by
      refine ⟨h.own.1, ?_⟩
      rcases h.own.2 with h1 | ⟨g, cc, cur, hv, hb, hgg, hle, hmx, hcs, htk⟩
      · exact .inl h1
      · exact .inr ⟨g, cc, cur, hv, hb, (hw g hb).trans hgg, hle, hmx, hcs, htk⟩
    blk := fun k hk => by
      obtain ⟨t, ht⟩ := h.blk k hk
      exact ⟨t, by unfold Blk; rw [hw _ (h.ba k hk)]; exact ht⟩ }

theorem GridOwn.at {B : Nat} {τ : Nat → Nat} {arr : List (List Int)} {ab ac : Nat → Nat} {va : Option Addr} {vc n : Nat} {w : World} (h : GridOwn B τ arr ab ac (.slice va n vc) w) (hn : n = arr.length) : GridAt w va arr := by
  subst hn
  intro k hk
  obtain ⟨g, hva, _, hc, _⟩ := own_cells h.own (by simp) hk
  refine ⟨g, 0, some ⟨ab k, 0, none⟩, ac k, hva, ?_, ab k, 0, rfl, fun j hj => ?_⟩
  · rw [hc]; simp [hk]
  · obtain ⟨t, ht⟩ := h.blk k hk
    rw [Nat.zero_add, ht.cell, ints_get_app hj]

theorem grid_slice' {B : Nat} {τ : Nat → Nat} {arr : List (List Int)} {ab ac : Nat → Nat} {v : Value} {w : World} (h : GridOwn B τ arr ab ac v w) : ∃ va vc, v = .slice va arr.length vc := by
  rcases h.own.2 with ⟨h1, h2⟩ | ⟨g, cc, cur, h1, _⟩
  · exact ⟨none, 0, by rw [h1, h2]⟩
  · exact ⟨_, cc, h1⟩

/-- what a memory value reads as -/
def MemVal (w : World) (arr : List (List Int)) (ctx : List Int) (v : Value) : Prop :=
  ∃ qa cq ca cc, v = .agg #[.slice qa arr.length cq, .slice ca ctx.length cc] ∧ GridAt w qa arr ∧ NumsAt w ca ctx
theorem MemVal.below {w w' : World} {arr : List (List Int)} {ctx : List Int} {v : Value} (h : MemVal w arr ctx v) (hb : Below w.heap.size w w') : MemVal w' arr ctx v := by
  obtain ⟨qa, cq, ca, cc, rfl, h1, h2⟩ := h
  exact ⟨qa, cq, ca, cc, rfl, h1.below hb, h2.below hb⟩

def zeroMemV : Value := .agg #[.slice none 0 0, .slice none 0 0]

def StartPost (ars : List Ar) (regs spills : Int) (cd : List RI) (w : World) (e : Ending) (w' : World) : Prop :=
  Below w.heap.size w w' ∧ if (chkCode ars regs spills cd).2 = 0 then ∃ v, e = .returned (.tuple #[v, .int .i64 0]) ∧ ∀ w2 : World, (∀ k, w.heap.size ≤ k → w2.heap[k]? = w'.heap[k]?) → MemVal w2 (zeros ars) (List.replicate 16 0) v
    else e = .returned (.tuple #[zeroMemV, .int .i64 (chkCode ars regs spills cd).2])

theorem chkArs_mem : ∀ (l : List Ar) (n m : Int), chkArs l n = some m → ∀ a ∈ l, 1 ≤ a.size ∧ a.size ≤ 65536
  | [], _, _, _, a, ha => by cases ha
  | b :: l, n, m, h, a, ha => by
    unfold chkArs at h
    split at h
    · cases h
    · rename_i hb
      cases ha with
      | head => omega
      | tail _ ha => exact chkArs_mem l _ m h a ha

theorem chkAll_none {regs spills nA : Int} : ∀ (l : List RI) (k : Nat), chkAll regs spills nA l k = none → ∀ i ∈ l, chkI regs spills nA i = 0
  | [], _, _, i, hi => by cases hi
  | x :: l, k, h, i, hi => by
    unfold chkAll at h
    split at h
    · cases h
    · rename_i hx
      cases hi with
      | head => exact Decidable.not_not.1 hx
      | tail _ hi => exact chkAll_none l (k + 1) h i hi
theorem chkAll_some {regs spills nA : Int} : ∀ (l : List RI) (k : Nat) (r : Int × Int), chkAll regs spills nA l k = some r → r.2 ≠ 0
  | [], _, _, h => by simp [chkAll] at h
  | x :: l, k, r, h => by
    unfold chkAll at h
    split at h
    · rename_i hx; simp at h; subst h; exact hx
    · exact chkAll_some l (k + 1) r h

/-- code that is in order -/
structure InOrd (ars : List Ar) (regs spills : Int) (cd : List RI) : Prop where
  hnA : ars.length ≤ 8
  hars : ∀ a ∈ ars, 1 ≤ a.size ∧ a.size ≤ 65536
  hregs : 0 ≤ regs ∧ regs ≤ 1024
  hspl : 0 ≤ spills ∧ spills ≤ 1024
  hcd : cd.length ≤ 16384
  hins : ∀ i ∈ cd, chkI regs spills ars.length i = 0
  hnest : (nestRun cd 0 []).2 = false

theorem chk_good {ars : List Ar} {regs spills : Int} {cd : List RI} (h : (chkCode ars regs spills cd).2 = 0) : InOrd ars regs spills cd := by
  unfold chkCode at h
  split at h
  · simp at h
  rename_i h8
  split at h
  · simp at h
  rename_i n hn
  split at h
  · simp at h
  rename_i hr
  split at h
  · simp at h
  rename_i hc
  split at h
  · rename_i r hr; exact absurd h (chkAll_some _ _ _ hr)
  rename_i hi
  cases hq : (nestRun cd 0 []).2 with
  | true => rw [hq] at h; simp at h
  | false => exact ⟨by omega, chkArs_mem _ _ _ hn, by omega, by omega, by omega, chkAll_none _ _ hi, hq⟩

set_option maxRecDepth 100000 in
set_option maxHeartbeats 1000000 in
theorem Start_any (arsA codeA : Option Addr) (arsC codeC : Nat) (ars : List Ar) (regs spills : Int) (cd : List RI) (w : World) (hars : RowB w.heap.size w 2 arsA ars.length fun i j => (ars.getD i default).cell j)
    (hcd : RowB w.heap.size w 5 codeA cd.length fun i j => (cd.getD i default).cell j) (hA : ars.length ≤ 9223372036854775807) (hC : cd.length ≤ 9223372036854775807) (harg : ∀ i ∈ cd, 0 ≤ i.arg ∧ i.arg < 4294967296) :
    Calls Try.prog 11 #[.agg #[.slice arsA ars.length arsC, .int .i64 regs, .int .i64 spills, .slice codeA cd.length codeC]] w (StartPost ars regs spills cd w) := by
  have HARS := Lib.hid hars
  have HCD := Lib.hid hcd
  have HARG := Lib.hid harg
  clear hars hcd harg
  have hb : Below w.heap.size w ((w.alloc (.cells #[.slice arsA ars.length arsC, .int .i64 regs, .int .i64 spills, .slice codeA cd.length codeC] 25)).alloc (.cells #[.slice none 0 0, .slice none 0 0] 31)) := ((Below.refl _ _).alloc (by simp) _).alloc (by simp) _
  have hk1 : ((w.alloc (.cells #[.slice arsA ars.length arsC, .int .i64 regs, .int .i64 spills, .slice codeA cd.length codeC] 25)).alloc (.cells #[.slice none 0 0, .slice none 0 0] 31)).heap[w.heap.size]? = some (.cells #[.slice arsA ars.length arsC, .int .i64 regs, .int .i64 spills, .slice codeA cd.length codeC] 25) := by
    rw [Below.heap_alloc _ _ _ (by simp)]; exact heap_new1 _ _
  have HB := Lib.hid (And.intro hb (And.intro hk1 (heap_new2 w (.cells #[.slice arsA ars.length arsC, .int .i64 regs, .int .i64 spills, .slice codeA cd.length codeC] 25) (.cells #[.slice none 0 0, .slice none 0 0] 31))))
  clear hb hk1
  go_enter Try.func11, Try.ntmps11
  go_upto_region 1 with (fail)
  refine wp_gen (fun W => Below w.heap.size w W ∧ Blk W w.heap.size [.slice arsA ars.length arsC, .int .i64 regs, .int .i64 spills, .slice codeA cd.length codeC] 25 ∧ Blk W (w.heap.size + 1) [.slice none 0 0, .slice none 0 0] 31) HB.out ?_
  rintro W ⟨hbW, hbk, hres⟩
  clear HB
  have a0 : W.cell? ⟨w.heap.size, 0, none⟩ = some (.slice arsA ars.length arsC) := hbk.cell 0
  have a1 : W.cell? ⟨w.heap.size, 0 + 1, none⟩ = some (.int .i64 regs) := hbk.cell 1
  have a2 : W.cell? ⟨w.heap.size, 0 + 1 + 1, none⟩ = some (.int .i64 spills) := hbk.cell 2
  have a3 : W.cell? ⟨w.heap.size, 0 + 1 + 1 + 1, none⟩ = some (.slice codeA cd.length codeC) := hbk.cell 3
  have HCH := Lib.hid (Check_any arsA codeA arsC codeC ars regs spills cd W ((HARS.out.below hbW).mono hbW.size) ((HCD.out.below hbW).mono hbW.size) hA hC HARG.out)
  have hWl := hres.lt
  have HW := Lib.hid (And.intro hbW (And.intro hbk hres))
  clear hbW hbk hres
  obtain ⟨ce, hce⟩ : ∃ ce, chkCode ars regs spills cd = ce := ⟨_, rfl⟩
  have HCE := Lib.hid hce
  clear hce
  by_cases hz : ce.2 = 0
  · have G := chk_good (ars := ars) (regs := regs) (spills := spills) (cd := cd) (by rw [HCE.out]; exact hz)
    have HZ := Lib.hid hz
    have HG := Lib.hid G
    clear hz G
    go_wp2_with fail
    refine HCH.out.mono ?_
    rintro e Y ⟨he, hbY⟩
    rw [HCE.out, HZ.out] at he
    subst he
    have y0 : Y.cell? ⟨w.heap.size, 0, none⟩ = some (.slice arsA ars.length arsC) := by rw [hbY.cell (p := ⟨w.heap.size, 0, none⟩) (by show w.heap.size < W.heap.size; omega)]; exact a0
    have hYl : w.heap.size + 1 < Y.heap.size := by have := hbY.size; omega
    have hwY : Below w.heap.size w Y := HW.out.1.trans (hbY.mono HW.out.1.size)
    have hres : Blk Y (w.heap.size + 1) [.slice none 0 0, .slice none 0 0] 31 := HW.out.2.2.below hbY hWl
    have HST := Lib.hid (start_any arsA arsC ars Y ((HARS.out.below hwY).mono hwY.size) HG.out.hnA HG.out.hars)
    have HY := Lib.hid (And.intro hwY hres)
    clear hbY hwY hres a0 a1 a2 a3
    go_wp2_with fail
    refine HST.out.mono ?_
    rintro e X ⟨v, τ, ab, ac, cb, cc, rfl, hgo, hcx, tcb, hcb, hbX⟩
    obtain ⟨va, vc, rfl⟩ := grid_slice' hgo
    have hresX : Blk X (w.heap.size + 1) [.slice none 0 0, .slice none 0 0] 31 := HY.out.2.below hbX hYl
    have z0 : X.cell? ⟨w.heap.size + 1, 0, none⟩ = some (.slice none 0 0) := hresX.cell 0
    have z1 : X.cell? ⟨w.heap.size + 1, 0 + 1, none⟩ = some (.slice none 0 0) := hresX.cell 1
    have f0 := hresX.frozen 0
    have f1 := hresX.frozen (0 + 1)
    have hzl : (zeros ars).length = ars.length := by simp [zeros]
    have HX := Lib.hid (And.intro hgo (And.intro hcx (And.intro hcb (And.intro hbX (And.intro hresX hzl)))))
    clear hgo hcx hcb hbX hresX hzl tcb
    go_wp2
    refine bodyPost_ret (v := .tuple #[.agg #[.slice va (zeros ars).length vc, .slice (some ⟨cb, 0, none⟩) (List.replicate 16 (0 : Int)).length cc], .int .i64 0]) ?_ rfl ?_
    · have e0 := (HX.out.2.2.2.2.1.set 0 (.slice va (zeros ars).length vc)).set 1 (.slice (some ⟨cb, 0, none⟩) (List.replicate 16 (0 : Int)).length cc)
      have x0 := e0.cell 0
      have x1 := e0.cell 1
      simp only [List.set_cons_zero, List.set_cons_succ, List.getElem?_cons_zero, List.getElem?_cons_succ] at x0 x1
      simp [results, Try.results11, go_sem] at x0 x1 ⊢
      simp [x0, x1]
    · obtain ⟨hgo, ⟨t9, ht9⟩, hcb, hbX, hresX, hzl⟩ := HX.out
      have hx : w.heap.size ≤ w.heap.size + 1 := by omega
      refine ⟨((HY.out.1.trans (hbX.mono HY.out.1.size)).setCell hx _).setCell hx _, ?_⟩
      rw [if_pos (by rw [HCE.out, HZ.out])]
      have same : ∀ (w2 : World), (∀ k, w.heap.size ≤ k → w2.heap[k]? = ((X.setCell ⟨w.heap.size + 1, 0, none⟩ (.slice va (zeros ars).length vc)).setCell ⟨w.heap.size + 1, 1, none⟩ (.slice (some ⟨cb, 0, none⟩) 16 cc)).heap[k]?) → ∀ k, Y.heap.size ≤ k → w2.heap[k]? = X.heap[k]? := fun w2 h2 k hk => by
        have hne : k ≠ w.heap.size + 1 := by omega
        rw [h2 k (by omega), Below.heap_setCell _ _ _ _ hne, Below.heap_setCell _ _ _ _ hne]
      refine ⟨_, rfl, fun w2 h2 => ⟨va, vc, some ⟨cb, 0, none⟩, cc, rfl, ?_, cb, 0, rfl, fun j hj => ?_⟩⟩
      · exact (hgo.above (same w2 h2)).at rfl
      · have ht2 : Blk w2 cb (ints .u32 (List.replicate 16 0) ++ t9) 42 := by unfold Blk; rw [same w2 h2 cb hcb]; exact ht9
        rw [Nat.zero_add]
        exact (ht2.cell j).trans (ints_get_app hj)
  · have hne : (ce.2 != 0) = true := by simpa using hz
    have HZ := Lib.hid hz
    clear hz
    go_wp2_with fail
    refine HCH.out.mono ?_
    rintro e Y ⟨he, hbY⟩
    rw [HCE.out] at he
    subst he
    have hYl : w.heap.size + 1 < Y.heap.size := by have := hbY.size; omega
    have hres : Blk Y (w.heap.size + 1) [.slice none 0 0, .slice none 0 0] 31 := HW.out.2.2.below hbY hWl
    have z0 : Y.cell? ⟨w.heap.size + 1, 0, none⟩ = some (.slice none 0 0) := hres.cell 0
    have z1 : Y.cell? ⟨w.heap.size + 1, 0 + 1, none⟩ = some (.slice none 0 0) := hres.cell 1
    have f0 := hres.frozen 0
    have f1 := hres.frozen (0 + 1)
    have HY := Lib.hid (And.intro hbY hres)
    clear hbY hres
    go_wp2
    refine bodyPost_ret (v := .tuple #[zeroMemV, .int .i64 ce.2]) ?_ rfl ?_
    · have e0 := (HY.out.2.set 0 (.slice none 0 0)).set 1 (.slice none 0 0)
      have x0 := e0.cell 0
      have x1 := e0.cell 1
      simp only [List.set_cons_zero, List.set_cons_succ, List.getElem?_cons_zero, List.getElem?_cons_succ] at x0 x1
      simp [results, Try.results11, go_sem, x0, x1, zeroMemV]
    · have hx : w.heap.size ≤ w.heap.size + 1 := by omega
      refine ⟨((HW.out.1.trans (HY.out.1.mono HW.out.1.size)).setCell hx _).setCell hx _, ?_⟩
      rw [if_neg (by rw [HCE.out]; exact HZ.out), HCE.out]
end Go.Proofs.Ytefdnjhhaejgbaa
