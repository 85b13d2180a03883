/- A part of the proof of MachineFeeds: B B2. No condition. -/
import Derived.Deep.RegionHeld3
import Derived.Lib.Hide
import Derived.StillTailTactics
import Derived.Test.YtefdnjhhaejgbaaGf05
import Derived.Test.YtefdnjhhaejgbaaGf02
set_option linter.unusedSimpArgs false
set_option linter.unusedVariables false
namespace Go.Proofs.Ytefdnjhhaejgbaa
open Go.RowKit
set_option maxHeartbeats 400000 in
theorem get_neg (m : Addr) (r : Int) (w : World) (h : r < 0) :
    Calls Try.prog 109 #[.pointer (some m), .int .i64 r] w fun e w' => e = .returned (.int .u32 0) ∧ w = w' := by
  go_enter Try.func109, Try.ntmps109
  go_wp2
  go_ret
  exact ⟨rfl, rfl⟩
set_option maxHeartbeats 400000 in
theorem get_reg (m b off len cap r : Nat) (x : Int) (w : World) (h : r < len) (_hl : len ≤ 1024)
    (hm : w.cell? ⟨m, 10, none⟩ = some (.slice (some ⟨b, off, none⟩) len cap))
    (hx : w.cell? ⟨b, off + r, none⟩ = some (.int .u32 x)) :
    Calls Try.prog 109 #[.pointer (some ⟨m, 0, none⟩), .int .i64 r] w fun e w' => e = .returned (.int .u32 x) ∧ w = w' := by
  go_enter Try.func109, Try.ntmps109
  go_wp2
  go_ret
  exact ⟨rfl, rfl⟩
set_option maxHeartbeats 400000 in
theorem step_yes (m : Nat) (s f : Int) (w : World) (hs : w.cell? ⟨m, 14, none⟩ = some (.int .i64 s)) (hf : w.cell? ⟨m, 9, none⟩ = some (.int .i64 f))
    (hz : w.frozen? ⟨m, 14, none⟩ = false) (h : s < f) (h0 : 0 ≤ s) (hf2 : f ≤ 281474976710656) :
    Calls Try.prog 87 #[.pointer (some ⟨m, 0, none⟩)] w fun e w' => e = .returned (.tuple #[]) ∧ ∃ n, w' = (w.setCell ⟨m, 14, none⟩ (.int .i64 (s + 1))).drewN n := by
  have hd : decide (s < f) = true := by simp [h]
  go_enter Try.func87, Try.ntmps87
  go_wp2
  go_quiet ((go_at_call 108; exact Calls.quiet_of_same ((demand_yes _ _).mono (fun _ _ ⟨a, b⟩ => ⟨a, b.symm⟩))))
  go_wp2
  go_end0
  exact ⟨rfl, _, rfl⟩
set_option maxRecDepth 100000 in
set_option maxHeartbeats 400000 in
theorem step_no (m : Nat) (s f : Int) (w : World) (hs : w.cell? ⟨m, 14, none⟩ = some (.int .i64 s)) (hf : w.cell? ⟨m, 9, none⟩ = some (.int .i64 f)) (h : ¬ s < f) :
    Calls Try.prog 87 #[.pointer (some ⟨m, 0, none⟩)] w fun e w' => e = .panicked (failed 19) ∧ ∃ n, w' = w.drewN n := by
  have hd : decide (s < f) = false := by simp [h]
  go_enter Try.func87, Try.ntmps87
  go_wp2
  go_still_tail 10, (by kernel_rfl)
  go_wp2_with (go_at_call 108; refine (demand_no _ _).mono ?_; rintro e w' ⟨rfl, rfl⟩)
  go_outline
  exact ⟨rfl, rfl, 1, rfl⟩
theorem nat_cast_lt {r len : Nat} (h : r < len) : (0 : Int) ≤ (r : Int) ∧ (r : Int) < (len : Int) := by omega
theorem drewN_below {B : Nat} {a w : World} (h : Below B a w) (n : Nat) : Below B a (w.drewN n) := ⟨h.os, h.tape, h.output, h.size, h.block⟩
def GetIs (w : World) (m : Nat) (a v : Int) : Prop :=
  ∀ w', Below w.heap.size w w' → Calls Try.prog 109 #[.pointer (some ⟨m, 0, none⟩), .int .i64 a] w' fun e w'' => e = .returned (.int .u32 v) ∧ w' = w''
set_option maxRecDepth 100000 in
set_option maxHeartbeats 400000 in
theorem m_push (m b off len cap : Nat) (op a bb arg : Int) (r : Nat) (w : World) (h : r < len) (x0 : Value)
    (hm : w.cell? ⟨m, 10, none⟩ = some (.slice (some ⟨b, off, none⟩) len cap))
    (hx : w.cell? ⟨b, off + r, none⟩ = some x0) (hz : w.frozen? ⟨b, off + r, none⟩ = false) (hb : b < w.heap.size) (hmm : m < w.heap.size) :
    Calls Try.prog 93 #[.pointer (some ⟨m, 0, none⟩), .agg #[.int .i64 op, .int .i64 r, .int .i64 a, .int .i64 bb, .int .u32 arg]] w fun e w' => e = .returned (.tuple #[]) ∧
      Below w.heap.size (w.setCell ⟨b, off + r, none⟩ (.int .u32 arg)) w' := by
  have h0 := nat_cast_lt h
  go_enter Try.func93, Try.ntmps93
  go_wp2
  go_region
  go_end0
  exact ⟨rfl, ((Below.refl _ _).alloc (by simp) _).drew⟩
set_option maxRecDepth 100000 in
set_option maxHeartbeats 400000 in
theorem m_move (m b off len cap : Nat) (op a bb arg : Int) (r : Nat) (w : World) (h : r < len) (x0 : Value) (v : Int)
    (hm : w.cell? ⟨m, 10, none⟩ = some (.slice (some ⟨b, off, none⟩) len cap)) (hget : GetIs w m a v)
    (hx : w.cell? ⟨b, off + r, none⟩ = some x0) (hz : w.frozen? ⟨b, off + r, none⟩ = false) (hb : b < w.heap.size) (hmm : m < w.heap.size) :
    Calls Try.prog 94 #[.pointer (some ⟨m, 0, none⟩), .agg #[.int .i64 op, .int .i64 r, .int .i64 a, .int .i64 bb, .int .u32 arg]] w fun e w' => e = .returned (.tuple #[]) ∧
      Below w.heap.size (w.setCell ⟨b, off + r, none⟩ (.int .u32 v)) w' := by
  have h0 := nat_cast_lt h
  go_enter Try.func94, Try.ntmps94
  go_wp2
  refine wp_region_grew [3, 5, 8] [0, 1, 2, 4, 6, 7] [(2, 0), (2, 1), (2, 2), (2, 4), (2, 6), (2, 7), (1, 3), (1, 5), (1, 8), (0, 9), (0, 10), (0, 11)] (by kernel_rfl) (by kernel_rfl) (fun c a d v w h => by cases d <;> exact h) ?_
  simp only [getPlan, List.filterMap_cons, List.filterMap_nil, List.getElem?_toArray, List.getElem?_cons_succ, List.getElem?_cons_zero, Option.map_some]
  repeat ((first | refine wpPlan_pure (fun K hK => ?_) | refine wpPlan_float (fun K hK => ?_)); go_simp; refine hK _ ?_; clear hK K)
  refine wpPlan_keep ?_
  go_wp2_with (go_at_call 109; refine (hget _ (((Below.refl _ _).alloc (by simp) _).drew)).mono ?_; rintro e w' ⟨rfl, rfl⟩)
  refine ⟨grew_below (Below.refl _ _).drew, ?_⟩
  refine wpPlan_tail (by kernel_rfl) ?_
  simp only [List.map_cons, List.map_nil]
  go_wp2
  go_end0
  exact ⟨rfl, ((Below.refl _ _).alloc (by simp) _).drew⟩
end Go.Proofs.Ytefdnjhhaejgbaa

namespace Go.Proofs.Ytefdnjhhaejgbaa
open Go.RowKit
set_option maxRecDepth 100000 in
set_option maxHeartbeats 1000000 in
theorem m_save (m b off len cap : Nat) (op to a bb : Int) (r : Nat) (w : World) (h : r < len) (x0 : Value) (v : Int)
    (hm : w.cell? ⟨m, 11, none⟩ = some (.slice (some ⟨b, off, none⟩) len cap)) (hget : GetIs w m a v)
    (hx : w.cell? ⟨b, off + r, none⟩ = some x0) (hz : w.frozen? ⟨b, off + r, none⟩ = false) (hb : b < w.heap.size) (hmm : m < w.heap.size) :
    Calls Try.prog 95 #[.pointer (some ⟨m, 0, none⟩), .agg #[.int .i64 op, .int .i64 to, .int .i64 a, .int .i64 bb, .int .u32 r]] w fun e w' => e = .returned (.tuple #[]) ∧
      Below w.heap.size (w.setCell ⟨b, off + r, none⟩ (.int .u32 v)) w' := by
  have h0 := nat_cast_lt h
  go_enter Try.func95, Try.ntmps95
  go_wp2
  refine wp_region_grew [3, 5, 8] [0, 1, 2, 4, 6, 7] [(2, 0), (2, 1), (2, 2), (2, 4), (2, 6), (2, 7), (1, 3), (1, 5), (1, 8), (0, 9), (0, 10), (0, 11)] (by kernel_rfl) (by kernel_rfl) (fun c a d v w h => by cases d <;> exact h) ?_
  simp only [getPlan, List.filterMap_cons, List.filterMap_nil, List.getElem?_toArray, List.getElem?_cons_succ, List.getElem?_cons_zero, Option.map_some]
  repeat ((first | refine wpPlan_pure (fun K hK => ?_) | refine wpPlan_float (fun K hK => ?_)); go_simp; refine hK _ ?_; clear hK K)
  refine wpPlan_keep ?_
  go_wp2_with (go_at_call 109; refine (hget _ (((Below.refl _ _).alloc (by simp) _).drew)).mono ?_; rintro e w' ⟨rfl, rfl⟩)
  refine ⟨grew_below (Below.refl _ _).drew, ?_⟩
  refine wpPlan_tail (by kernel_rfl) ?_
  simp only [List.map_cons, List.map_nil]
  go_wp2
  go_end0
  exact ⟨rfl, ((Below.refl _ _).alloc (by simp) _).drew⟩
set_option maxRecDepth 100000 in
set_option maxHeartbeats 1000000 in
theorem m_context (m b off len cap : Nat) (op to a bb : Int) (r : Nat) (w : World) (h : r < len) (x0 : Value) (v : Int)
    (hm : w.cell? ⟨m, 6, none⟩ = some (.slice (some ⟨b, off, none⟩) len cap)) (hget : GetIs w m a v)
    (hx : w.cell? ⟨b, off + r, none⟩ = some x0) (hz : w.frozen? ⟨b, off + r, none⟩ = false) (hb : b < w.heap.size) (hmm : m < w.heap.size) :
    Calls Try.prog 100 #[.pointer (some ⟨m, 0, none⟩), .agg #[.int .i64 op, .int .i64 to, .int .i64 a, .int .i64 bb, .int .u32 r]] w fun e w' => e = .returned (.tuple #[]) ∧
      Below w.heap.size (w.setCell ⟨b, off + r, none⟩ (.int .u32 v)) w' := by
  have h0 := nat_cast_lt h
  go_enter Try.func100, Try.ntmps100
  go_wp2
  refine wp_region_grew [4, 6, 9] [0, 1, 2, 3, 5, 7, 8] [(2, 0), (2, 1), (2, 2), (2, 3), (2, 5), (2, 7), (2, 8), (1, 4), (1, 6), (1, 9), (0, 10), (0, 11), (0, 12)] (by kernel_rfl) (by kernel_rfl) (fun c a d v w h => by cases d <;> exact h) ?_
  simp only [getPlan, List.filterMap_cons, List.filterMap_nil, List.getElem?_toArray, List.getElem?_cons_succ, List.getElem?_cons_zero, Option.map_some]
  repeat ((first | refine wpPlan_pure (fun K hK => ?_) | refine wpPlan_float (fun K hK => ?_)); go_simp; refine hK _ ?_; clear hK K)
  refine wpPlan_keep ?_
  go_wp2_with (go_at_call 109; refine (hget _ (((Below.refl _ _).alloc (by simp) _).drew)).mono ?_; rintro e w' ⟨rfl, rfl⟩)
  refine ⟨grew_below (Below.refl _ _).drew, ?_⟩
  refine wpPlan_tail (by kernel_rfl) ?_
  simp only [List.map_cons, List.map_nil]
  go_wp2
  go_end0
  exact ⟨rfl, ((Below.refl _ _).alloc (by simp) _).drew⟩
set_option maxRecDepth 100000 in
set_option maxHeartbeats 1000000 in
theorem m_restore (m b off len cap b2 off2 len2 cap2 : Nat) (op a bb : Int) (r s : Nat) (w : World) (h : r < len) (h2 : s < len2) (x0 : Value) (v : Int)
    (hm : w.cell? ⟨m, 10, none⟩ = some (.slice (some ⟨b, off, none⟩) len cap)) (hm2 : w.cell? ⟨m, 11, none⟩ = some (.slice (some ⟨b2, off2, none⟩) len2 cap2))
    (hv : w.cell? ⟨b2, off2 + s, none⟩ = some (.int .u32 v)) (hb2 : b2 < w.heap.size)
    (hx : w.cell? ⟨b, off + r, none⟩ = some x0) (hz : w.frozen? ⟨b, off + r, none⟩ = false) (hb : b < w.heap.size) (hmm : m < w.heap.size) :
    Calls Try.prog 96 #[.pointer (some ⟨m, 0, none⟩), .agg #[.int .i64 op, .int .i64 r, .int .i64 a, .int .i64 bb, .int .u32 s]] w fun e w' => e = .returned (.tuple #[]) ∧
      Below w.heap.size (w.setCell ⟨b, off + r, none⟩ (.int .u32 v)) w' := by
  have h0 := nat_cast_lt h
  have h02 := nat_cast_lt h2
  go_enter Try.func96, Try.ntmps96
  go_wp2
  refine wp_region_grew [3, 5, 9, 11, 13] [0, 1, 2, 4, 6, 7, 8, 10, 12, 14] [(2, 0), (2, 1), (2, 2), (2, 4), (2, 6), (2, 7), (2, 8), (2, 10), (1, 3), (1, 5), (1, 9), (1, 11), (2, 12), (1, 13), (2, 14), (0, 15)] (by kernel_rfl) (by kernel_rfl) (fun c a d v w h => by cases d <;> exact h) ?_
  simp only [getPlan, List.filterMap_cons, List.filterMap_nil, List.getElem?_toArray, List.getElem?_cons_succ, List.getElem?_cons_zero, Option.map_some]
  repeat ((first | refine wpPlan_pure (fun K hK => ?_) | refine wpPlan_float (fun K hK => ?_)); go_simp; refine hK _ ?_; clear hK K)
  refine wpPlan_tail (by kernel_rfl) ?_
  simp only [List.map_cons, List.map_nil]
  go_wp2
  go_end0
  exact ⟨rfl, ((Below.refl _ _).alloc (by simp) _).drew⟩
set_option maxRecDepth 100000 in
set_option maxHeartbeats 1000000 in
theorem m_input (m b off len cap : Nat) (op a bb arg : Int) (r : Nat) (w : World) (h : r < len) (x0 : Value) (v : Int)
    (hm : w.cell? ⟨m, 10, none⟩ = some (.slice (some ⟨b, off, none⟩) len cap)) (hv : w.cell? ⟨m, 7, none⟩ = some (.int .u32 v))
    (hx : w.cell? ⟨b, off + r, none⟩ = some x0) (hz : w.frozen? ⟨b, off + r, none⟩ = false) (hb : b < w.heap.size) (hmm : m < w.heap.size) :
    Calls Try.prog 97 #[.pointer (some ⟨m, 0, none⟩), .agg #[.int .i64 op, .int .i64 r, .int .i64 a, .int .i64 bb, .int .u32 arg]] w fun e w' => e = .returned (.tuple #[]) ∧
      Below w.heap.size (w.setCell ⟨b, off + r, none⟩ (.int .u32 v)) w' := by
  have h0 := nat_cast_lt h
  go_enter Try.func97, Try.ntmps97
  go_wp2
  refine wp_region_grew [3, 5, 10] [0, 1, 2, 4, 6, 7, 8, 9, 11] [(2, 0), (2, 1), (2, 2), (2, 4), (2, 6), (2, 7), (2, 8), (2, 9), (1, 3), (1, 5), (1, 10), (2, 11), (0, 12)] (by kernel_rfl) (by kernel_rfl) (fun c a d v w h => by cases d <;> exact h) ?_
  simp only [getPlan, List.filterMap_cons, List.filterMap_nil, List.getElem?_toArray, List.getElem?_cons_succ, List.getElem?_cons_zero, Option.map_some]
  repeat ((first | refine wpPlan_pure (fun K hK => ?_) | refine wpPlan_float (fun K hK => ?_)); go_simp; refine hK _ ?_; clear hK K)
  refine wpPlan_tail (by kernel_rfl) ?_
  simp only [List.map_cons, List.map_nil]
  go_wp2
  go_end0
  exact ⟨rfl, ((Below.refl _ _).alloc (by simp) _).drew⟩
set_option maxRecDepth 100000 in
set_option maxHeartbeats 1000000 in
theorem m_ended_no (m b off len cap : Nat) (op a bb arg : Int) (r : Nat) (w : World) (h : r < len) (x0 : Value)
    (hm : w.cell? ⟨m, 10, none⟩ = some (.slice (some ⟨b, off, none⟩) len cap)) (hv : w.cell? ⟨m, 8, none⟩ = some (.bool false))
    (hx : w.cell? ⟨b, off + r, none⟩ = some x0) (hz : w.frozen? ⟨b, off + r, none⟩ = false) (hb : b < w.heap.size) (hmm : m < w.heap.size) (hne : ¬ b = m) :
    Calls Try.prog 98 #[.pointer (some ⟨m, 0, none⟩), .agg #[.int .i64 op, .int .i64 r, .int .i64 a, .int .i64 bb, .int .u32 arg]] w fun e w' => e = .returned (.tuple #[]) ∧
      Below w.heap.size (w.setCell ⟨b, off + r, none⟩ (.int .u32 0)) w' := by
  have h0 := nat_cast_lt h
  go_enter Try.func98, Try.ntmps98
  go_wp2
  refine wp_region_grew [3, 5] [0, 1, 2, 4, 6] [(2, 0), (2, 1), (2, 2), (2, 4), (1, 3), (1, 5), (2, 6), (0, 7)] (by kernel_rfl) (by kernel_rfl) (fun c a d v w h => by cases d <;> exact h) ?_
  simp only [getPlan, List.filterMap_cons, List.filterMap_nil, List.getElem?_toArray, List.getElem?_cons_succ, List.getElem?_cons_zero, Option.map_some]
  repeat ((first | refine wpPlan_pure (fun K hK => ?_) | refine wpPlan_float (fun K hK => ?_)); go_simp; refine hK _ ?_; clear hK K)
  refine wpPlan_tail (by kernel_rfl) ?_
  simp only [List.map_cons, List.map_nil]
  go_wp2
  go_end0
  exact ⟨rfl, ((Below.refl _ _).alloc (by simp) _).drew⟩
set_option maxRecDepth 100000 in
set_option maxHeartbeats 1000000 in
theorem m_ended_yes (m b off len cap : Nat) (op a bb arg : Int) (r : Nat) (w : World) (h : r < len) (x0 : Value)
    (hm : w.cell? ⟨m, 10, none⟩ = some (.slice (some ⟨b, off, none⟩) len cap)) (hv : w.cell? ⟨m, 8, none⟩ = some (.bool true))
    (hx : w.cell? ⟨b, off + r, none⟩ = some x0) (hz : w.frozen? ⟨b, off + r, none⟩ = false) (hb : b < w.heap.size) (hmm : m < w.heap.size) (hne : ¬ b = m) (hne2 : ¬ m = b) :
    Calls Try.prog 98 #[.pointer (some ⟨m, 0, none⟩), .agg #[.int .i64 op, .int .i64 r, .int .i64 a, .int .i64 bb, .int .u32 arg]] w fun e w' => e = .returned (.tuple #[]) ∧
      Below w.heap.size ((w.setCell ⟨b, off + r, none⟩ (.int .u32 0)).setCell ⟨b, off + r, none⟩ (.int .u32 1)) w' := by
  have h0 := nat_cast_lt h
  go_enter Try.func98, Try.ntmps98
  go_wp2
  refine wp_region_grew [3, 5] [0, 1, 2, 4, 6] [(2, 0), (2, 1), (2, 2), (2, 4), (1, 3), (1, 5), (2, 6), (0, 7)] (by kernel_rfl) (by kernel_rfl) (fun c a d v w h => by cases d <;> exact h) ?_
  simp only [getPlan, List.filterMap_cons, List.filterMap_nil, List.getElem?_toArray, List.getElem?_cons_succ, List.getElem?_cons_zero, Option.map_some]
  repeat ((first | refine wpPlan_pure (fun K hK => ?_) | refine wpPlan_float (fun K hK => ?_)); go_simp; refine hK _ ?_; clear hK K)
  refine wpPlan_tail (by kernel_rfl) ?_
  simp only [List.map_cons, List.map_nil]
  go_wp2
  refine wp_region_grew [3, 5] [0, 1, 2, 4, 6] [(2, 0), (2, 1), (2, 2), (2, 4), (1, 3), (1, 5), (2, 6), (0, 7)] (by kernel_rfl) (by kernel_rfl) (fun c a d v w h => by cases d <;> exact h) ?_
  simp only [getPlan, List.filterMap_cons, List.filterMap_nil, List.getElem?_toArray, List.getElem?_cons_succ, List.getElem?_cons_zero, Option.map_some]
  repeat ((first | refine wpPlan_pure (fun K hK => ?_) | refine wpPlan_float (fun K hK => ?_)); go_simp; refine hK _ ?_; clear hK K)
  refine wpPlan_tail (by kernel_rfl) ?_
  simp only [List.map_cons, List.map_nil]
  go_wp2
  go_end0
  exact ⟨rfl, ((Below.refl _ _).alloc (by simp) _).drew.drew⟩
end Go.Proofs.Ytefdnjhhaejgbaa
