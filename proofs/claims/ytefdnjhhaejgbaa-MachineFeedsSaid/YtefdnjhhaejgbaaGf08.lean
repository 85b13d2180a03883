/- A part of the proof of MachineFeeds: B3 B4 B5. No condition. -/
import Derived.Deep.AppendLies
import Derived.Test.YtefdnjhhaejgbaaGf07
import Derived.Test.YtefdnjhhaejgbaaGf03
set_option linter.unusedSimpArgs false
set_option linter.unusedVariables false
namespace Go.Proofs.Ytefdnjhhaejgbaa
open Go.RowKit
set_option linter.unusedVariables false
set_option maxRecDepth 100000 in
set_option maxHeartbeats 1000000 in
theorem m_element_yes (m q qo nq cq b off len cap : Nat) (op to a bb : Int) (r v : Nat) (w : World) (h : r < nq) (hv : v < len)
    (hm : w.cell? ⟨m, 5, none⟩ = some (.slice (some ⟨q, qo, none⟩) nq cq)) (hq : w.cell? ⟨q, qo + r, none⟩ = some (.slice (some ⟨b, off, none⟩) len cap)) (hget : GetIs w m a v)
    (hl : len ≤ 65536) (hqq : q < w.heap.size) (hmm : m < w.heap.size) :
    Calls Try.prog 113 #[.pointer (some ⟨m, 0, none⟩), .agg #[.int .i64 op, .int .i64 to, .int .i64 a, .int .i64 bb, .int .u32 r]] w fun e w' => e = .returned (.pointer (some ⟨b, off + v, none⟩)) ∧
      Below w.heap.size w w' := by
  have h0 := nat_cast_lt h
  have h1 := nat_cast_lt hv
  have hd : decide ((v : Int) < (len : Int)) = true := by simp [hv]
  go_enter Try.func113, Try.ntmps113
  go_wp2
  refine wp_region_grew [4, 6, 8, 11] [0, 1, 2, 3, 5, 9, 10, 7] [(2, 0), (2, 1), (2, 2), (2, 3), (2, 5), (2, 9), (2, 10), (1, 4), (1, 6), (2, 7), (1, 8), (1, 11), (0, 12), (0, 13), (0, 14)] (by kernel_rfl) (by kernel_rfl) (fun c a d v w h => by cases d <;> exact h) ?_
  simp only [getPlan, List.filterMap_cons, List.filterMap_nil, List.getElem?_toArray, List.getElem?_cons_succ, List.getElem?_cons_zero, Option.map_some]
  repeat ((first | refine wpPlan_pure (fun K hK => ?_) | refine wpPlan_float (fun K hK => ?_)); go_simp; refine hK _ ?_; clear hK K)
  refine wpPlan_keep ?_
  go_wp2_with (go_at_call 109; refine (hget _ (((Below.refl _ _).alloc (by simp) _).drew)).mono ?_; rintro e w' ⟨rfl, rfl⟩)
  refine ⟨grew_below (Below.refl _ _).drew, ?_⟩
  refine wpPlan_tail (by kernel_rfl) ?_
  simp only [List.map_cons, List.map_nil]
  go_wp2_with (go_at_call 108; refine (demand_yes _ _).mono ?_; rintro e w' ⟨rfl, rfl⟩)
  go_ret
  exact ⟨rfl, ((Below.refl _ _).alloc (by simp) _).drew⟩
set_option maxRecDepth 100000 in
set_option maxHeartbeats 1000000 in
theorem m_element_no (m q qo nq cq b off len cap : Nat) (op to a bb : Int) (r v : Nat) (w : World) (h : r < nq) (hv : ¬ v < len) (hv2 : v < 4294967296)
    (hm : w.cell? ⟨m, 5, none⟩ = some (.slice (some ⟨q, qo, none⟩) nq cq)) (hq : w.cell? ⟨q, qo + r, none⟩ = some (.slice (some ⟨b, off, none⟩) len cap)) (hget : GetIs w m a v)
    (hl : len ≤ 65536) (hqq : q < w.heap.size) (hmm : m < w.heap.size) :
    Calls Try.prog 113 #[.pointer (some ⟨m, 0, none⟩), .agg #[.int .i64 op, .int .i64 to, .int .i64 a, .int .i64 bb, .int .u32 r]] w fun e w' => e = .panicked (failed 16) ∧
      Below w.heap.size w w' := by
  have h0 := nat_cast_lt h
  have hd : decide (v < len) = false := by simp [hv]
  have hv3 : ¬ (v : Int) < (len : Int) := by omega
  have hv4 : (v : Int) < 4294967296 := by omega
  go_enter Try.func113, Try.ntmps113
  go_wp2
  refine wp_region_grew [4, 6, 8, 11] [0, 1, 2, 3, 5, 9, 10, 7] [(2, 0), (2, 1), (2, 2), (2, 3), (2, 5), (2, 9), (2, 10), (1, 4), (1, 6), (2, 7), (1, 8), (1, 11), (0, 12), (0, 13), (0, 14)] (by kernel_rfl) (by kernel_rfl) (fun c a d v w h => by cases d <;> exact h) ?_
  simp only [getPlan, List.filterMap_cons, List.filterMap_nil, List.getElem?_toArray, List.getElem?_cons_succ, List.getElem?_cons_zero, Option.map_some]
  repeat ((first | refine wpPlan_pure (fun K hK => ?_) | refine wpPlan_float (fun K hK => ?_)); go_simp; refine hK _ ?_; clear hK K)
  refine wpPlan_keep ?_
  go_wp2_with (go_at_call 109; refine (hget _ (((Below.refl _ _).alloc (by simp) _).drew)).mono ?_; rintro e w' ⟨rfl, rfl⟩)
  refine ⟨grew_below (Below.refl _ _).drew, ?_⟩
  refine wpPlan_tail (by kernel_rfl) ?_
  simp only [List.map_cons, List.map_nil]
  go_wp2_with (go_at_call 108; refine (demand_no _ _).mono ?_; rintro e w' ⟨rfl, rfl⟩)
  exact ⟨rfl, rfl, ((Below.refl _ _).alloc (by simp) _).drew⟩
set_option maxRecDepth 100000 in
set_option maxHeartbeats 1000000 in
theorem m_choose_yes (m : Nat) (op to a bb arg v : Int) (w : World) (hget : GetIs w m a v) (hv : (v == 0) = false) (hmm : m < w.heap.size) :
    Calls Try.prog 103 #[.pointer (some ⟨m, 0, none⟩), .agg #[.int .i64 op, .int .i64 to, .int .i64 a, .int .i64 bb, .int .u32 arg]] w fun e w' => e = .returned (.tuple #[]) ∧ Below w.heap.size w w' := by
  go_enter Try.func103, Try.ntmps103
  go_wp2_with (go_at_call 109; refine (hget _ (((Below.refl _ _).alloc (by simp) _))).mono ?_; rintro e w' ⟨rfl, rfl⟩)
  go_end0
  exact ⟨rfl, ((Below.refl _ _).alloc (by simp) _)⟩
set_option maxRecDepth 100000 in
set_option maxHeartbeats 1000000 in
theorem m_choose_no (m b off len cap : Nat) (at_ : Nat) (p : Int) (op to a bb arg : Int) (w : World) (hget : GetIs w m a 0) (h : at_ < len)
    (hm : w.cell? ⟨m, 4, none⟩ = some (.slice (some ⟨b, off, none⟩) len cap)) (ha : w.cell? ⟨m, 15, none⟩ = some (.int .i64 at_)) (hp : w.cell? ⟨b, off + at_, none⟩ = some (.int .i64 p))
    (hz : w.frozen? ⟨m, 15, none⟩ = false) (hb : b < w.heap.size) (hmm : m < w.heap.size) :
    Calls Try.prog 103 #[.pointer (some ⟨m, 0, none⟩), .agg #[.int .i64 op, .int .i64 to, .int .i64 a, .int .i64 bb, .int .u32 arg]] w fun e w' => e = .returned (.tuple #[]) ∧ Below w.heap.size (w.setCell ⟨m, 15, none⟩ (.int .i64 p)) w' := by
  have h0 := nat_cast_lt h
  go_enter Try.func103, Try.ntmps103
  go_wp2_with (go_at_call 109; refine (hget _ (((Below.refl _ _).alloc (by simp) _))).mono ?_; rintro e w' ⟨rfl, rfl⟩)
  refine wp_region_grew [4, 8, 10] [0, 1, 2, 3, 5, 6, 7, 9, 11, 12] [(2, 0), (2, 1), (2, 2), (2, 3), (2, 5), (2, 6), (2, 7), (1, 4), (1, 8), (2, 9), (1, 10), (2, 11), (2, 12), (0, 13)] (by kernel_rfl) (by kernel_rfl) (fun c a d v w h => by cases d <;> exact h) ?_
  simp only [getPlan, List.filterMap_cons, List.filterMap_nil, List.getElem?_toArray, List.getElem?_cons_succ, List.getElem?_cons_zero, Option.map_some]
  repeat ((first | refine wpPlan_pure (fun K hK => ?_) | refine wpPlan_float (fun K hK => ?_)); go_simp; refine hK _ ?_; clear hK K)
  refine wpPlan_tail (by kernel_rfl) ?_
  simp only [List.map_cons, List.map_nil]
  go_wp2
  go_end0
  exact ⟨rfl, ((Below.refl _ _).alloc (by simp) _).drew⟩
set_option maxRecDepth 100000 in
set_option maxHeartbeats 1000000 in
theorem m_skip (m b off len cap : Nat) (at_ : Nat) (p : Int) (op to a bb arg : Int) (w : World) (h : at_ < len)
    (hm : w.cell? ⟨m, 4, none⟩ = some (.slice (some ⟨b, off, none⟩) len cap)) (ha : w.cell? ⟨m, 15, none⟩ = some (.int .i64 at_)) (hp : w.cell? ⟨b, off + at_, none⟩ = some (.int .i64 p))
    (hz : w.frozen? ⟨m, 15, none⟩ = false) (hb : b < w.heap.size) (hmm : m < w.heap.size) :
    Calls Try.prog 104 #[.pointer (some ⟨m, 0, none⟩), .agg #[.int .i64 op, .int .i64 to, .int .i64 a, .int .i64 bb, .int .u32 arg]] w fun e w' => e = .returned (.tuple #[]) ∧ Below w.heap.size (w.setCell ⟨m, 15, none⟩ (.int .i64 p)) w' := by
  have h0 := nat_cast_lt h
  go_enter Try.func104, Try.ntmps104
  go_wp2
  refine wp_region_grew [4, 8, 10] [0, 1, 2, 3, 5, 6, 7, 9, 11, 12] [(2, 0), (2, 1), (2, 2), (2, 3), (2, 5), (2, 6), (2, 7), (1, 4), (1, 8), (2, 9), (1, 10), (2, 11), (2, 12), (0, 13)] (by kernel_rfl) (by kernel_rfl) (fun c a d v w h => by cases d <;> exact h) ?_
  simp only [getPlan, List.filterMap_cons, List.filterMap_nil, List.getElem?_toArray, List.getElem?_cons_succ, List.getElem?_cons_zero, Option.map_some]
  repeat ((first | refine wpPlan_pure (fun K hK => ?_) | refine wpPlan_float (fun K hK => ?_)); go_simp; refine hK _ ?_; clear hK K)
  refine wpPlan_tail (by kernel_rfl) ?_
  simp only [List.map_cons, List.map_nil]
  go_wp2
  go_end0
  exact ⟨rfl, ((Below.refl _ _).alloc (by simp) _).drew⟩
set_option maxRecDepth 100000 in
set_option maxHeartbeats 1000000 in
theorem m_leave_no (m : Nat) (op to a bb arg : Int) (w : World) (hget : GetIs w m a 0) (hmm : m < w.heap.size) :
    Calls Try.prog 106 #[.pointer (some ⟨m, 0, none⟩), .agg #[.int .i64 op, .int .i64 to, .int .i64 a, .int .i64 bb, .int .u32 arg]] w fun e w' => e = .returned (.tuple #[]) ∧ Below w.heap.size w w' := by
  go_enter Try.func106, Try.ntmps106
  go_wp2_with (go_at_call 109; refine (hget _ (((Below.refl _ _).alloc (by simp) _))).mono ?_; rintro e w' ⟨rfl, rfl⟩)
  go_end0
  exact ⟨rfl, ((Below.refl _ _).alloc (by simp) _)⟩
set_option maxRecDepth 100000 in
set_option maxHeartbeats 1000000 in
theorem m_leave_yes (m b off len cap g go n c : Nat) (at_ : Nat) (p v : Int) (op to a bb arg : Int) (w : World) (hget : GetIs w m a v) (hv : (v != 0) = true) (h : at_ < len)
    (hm : w.cell? ⟨m, 4, none⟩ = some (.slice (some ⟨b, off, none⟩) len cap)) (ha : w.cell? ⟨m, 15, none⟩ = some (.int .i64 at_)) (hp : w.cell? ⟨b, off + at_, none⟩ = some (.int .i64 p))
    (hl : w.cell? ⟨m, 12, none⟩ = some (.slice (some ⟨g, go, none⟩) (n + 1) c)) (hnc : n + 1 ≤ c) (hc : c ≤ maxLen)
    (hz : w.frozen? ⟨m, 15, none⟩ = false) (hz2 : w.frozen? ⟨m, 12, none⟩ = false) (hb : b < w.heap.size) (hmm : m < w.heap.size) (hne : ¬ b = m) :
    Calls Try.prog 106 #[.pointer (some ⟨m, 0, none⟩), .agg #[.int .i64 op, .int .i64 to, .int .i64 a, .int .i64 bb, .int .u32 arg]] w fun e w' => e = .returned (.tuple #[]) ∧
      Below w.heap.size ((w.setCell ⟨m, 15, none⟩ (.int .i64 p)).setCell ⟨m, 12, none⟩ (.slice (some ⟨g, go, none⟩) n c)) w' := by
  have h0 := nat_cast_lt h
  unfold maxLen at hc
  have hw : IntKind.i64.wrap (n : Int) = (n : Int) := IntWalk.i64_in _ (by omega)
  have hw2 : ¬ (c : Int) < (n : Int) := by omega
  have hw3 : (n : Int) ≤ (c : Int) := by omega
  go_enter Try.func106, Try.ntmps106
  go_wp2_with (go_at_call 109; refine (hget _ (((Below.refl _ _).alloc (by simp) _))).mono ?_; rintro e w' ⟨rfl, rfl⟩)
  refine wp_region_grew [4, 8, 10] [0, 1, 2, 3, 5, 6, 7, 9, 11, 12] [(2, 0), (2, 1), (2, 2), (2, 3), (2, 5), (2, 6), (2, 7), (1, 4), (1, 8), (2, 9), (1, 10), (2, 11), (2, 12), (0, 13)] (by kernel_rfl) (by kernel_rfl) (fun c a d v w h => by cases d <;> exact h) ?_
  simp only [getPlan, List.filterMap_cons, List.filterMap_nil, List.getElem?_toArray, List.getElem?_cons_succ, List.getElem?_cons_zero, Option.map_some]
  repeat ((first | refine wpPlan_pure (fun K hK => ?_) | refine wpPlan_float (fun K hK => ?_)); go_simp; refine hK _ ?_; clear hK K)
  refine wpPlan_tail (by kernel_rfl) ?_
  simp only [List.map_cons, List.map_nil]
  go_wp2
  refine wp_region_grew [4, 8] [0, 1, 2, 3, 5, 6, 7, 9, 10, 11, 12, 13] [(2, 0), (2, 1), (2, 2), (2, 3), (2, 5), (2, 6), (2, 7), (1, 4), (1, 8), (2, 9), (2, 10), (2, 11), (2, 12), (2, 13), (0, 14)] (by kernel_rfl) (by kernel_rfl) (fun c a d v w h => by cases d <;> exact h) ?_
  simp only [getPlan, List.filterMap_cons, List.filterMap_nil, List.getElem?_toArray, List.getElem?_cons_succ, List.getElem?_cons_zero, Option.map_some]
  repeat ((first | refine wpPlan_pure (fun K hK => ?_) | refine wpPlan_float (fun K hK => ?_)); go_simp; refine hK _ ?_; clear hK K)
  refine wpPlan_tail (by kernel_rfl) ?_
  simp only [List.map_cons, List.map_nil]
  go_wp2
  go_end0
  exact ⟨rfl, ((Below.refl _ _).alloc (by simp) _).drew.drew⟩
end Go.Proofs.Ytefdnjhhaejgbaa

namespace Go.Proofs.Ytefdnjhhaejgbaa
open Go.RowKit
set_option linter.unusedVariables false
theorem Try.elU8 : ElT Try.prog 47 5 (.int .u8 0) 1 1 := ⟨Try.underlying47, by kernel_rfl, rfl, by decide, by decide⟩
theorem Try.elFr : ElT Try.prog 99 138 (.agg #[.int .i64 0, .int .u32 0]) 2 16 := ⟨Try.underlying99, by kernel_rfl, rfl, by decide, by decide⟩
theorem GetIs.below {w w1 : World} {m : Nat} {a v : Int} (h : GetIs w m a v) (hb : Below w.heap.size w w1) : GetIs w1 m a v :=
  fun w' hw' => h w' (hb.trans (hw'.mono hb.size))
def ElemIs (w : World) (m : Nat) (i : Value) (p : Addr) : Prop :=
  ∀ w', Below w.heap.size w w' → Calls Try.prog 113 #[.pointer (some ⟨m, 0, none⟩), i] w' fun e w'' => e = .returned (.pointer (some p)) ∧ Below w'.heap.size w' w''
def ElemNo (w : World) (m : Nat) (i : Value) : Prop :=
  ∀ w', Below w.heap.size w w' → Calls Try.prog 113 #[.pointer (some ⟨m, 0, none⟩), i] w' fun e w'' => e = .panicked (failed 16) ∧ Below w'.heap.size w' w''
theorem elemIs_of (m q qo nq cq b off len cap : Nat) (op to a bb : Int) (r v : Nat) (w : World) (h : r < nq) (hv : v < len)
    (hm : w.cell? ⟨m, 5, none⟩ = some (.slice (some ⟨q, qo, none⟩) nq cq)) (hq : w.cell? ⟨q, qo + r, none⟩ = some (.slice (some ⟨b, off, none⟩) len cap)) (hget : GetIs w m a v)
    (hl : len ≤ 65536) (hqq : q < w.heap.size) (hmm : m < w.heap.size) :
    ElemIs w m (.agg #[.int .i64 op, .int .i64 to, .int .i64 a, .int .i64 bb, .int .u32 r]) ⟨b, off + v, none⟩ := fun w' hb => by
  refine m_element_yes m q qo nq cq b off len cap op to a bb r v w' h hv ?_ ?_ (hget.below hb) hl ?_ ?_
  · rw [hb.cell (p := ⟨m, 5, none⟩) hmm]; exact hm
  · rw [hb.cell (p := ⟨q, qo + r, none⟩) hqq]; exact hq
  · exact Nat.lt_of_lt_of_le hqq hb.size
  · exact Nat.lt_of_lt_of_le hmm hb.size
theorem elemNo_of (m q qo nq cq b off len cap : Nat) (op to a bb : Int) (r v : Nat) (w : World) (h : r < nq) (hv : ¬ v < len) (hv2 : v < 4294967296)
    (hm : w.cell? ⟨m, 5, none⟩ = some (.slice (some ⟨q, qo, none⟩) nq cq)) (hq : w.cell? ⟨q, qo + r, none⟩ = some (.slice (some ⟨b, off, none⟩) len cap)) (hget : GetIs w m a v)
    (hl : len ≤ 65536) (hqq : q < w.heap.size) (hmm : m < w.heap.size) :
    ElemNo w m (.agg #[.int .i64 op, .int .i64 to, .int .i64 a, .int .i64 bb, .int .u32 r]) := fun w' hb => by
  refine m_element_no m q qo nq cq b off len cap op to a bb r v w' h hv hv2 ?_ ?_ (hget.below hb) hl ?_ ?_
  · rw [hb.cell (p := ⟨m, 5, none⟩) hmm]; exact hm
  · rw [hb.cell (p := ⟨q, qo + r, none⟩) hqq]; exact hq
  · exact Nat.lt_of_lt_of_le hqq hb.size
  · exact Nat.lt_of_lt_of_le hmm hb.size
set_option maxRecDepth 100000 in
set_option maxHeartbeats 1000000 in
theorem m_load_yes (m b off len cap eb eo : Nat) (op a bb arg : Int) (r : Nat) (x : Int) (w : World) (h : r < len) (x0 : Value)
    (hel : ElemIs w m (.agg #[.int .i64 op, .int .i64 r, .int .i64 a, .int .i64 bb, .int .u32 arg]) ⟨eb, eo, none⟩) (hev : w.cell? ⟨eb, eo, none⟩ = some (.int .u32 x)) (heb : eb < w.heap.size)
    (hm : w.cell? ⟨m, 10, none⟩ = some (.slice (some ⟨b, off, none⟩) len cap))
    (hx : w.cell? ⟨b, off + r, none⟩ = some x0) (hz : w.frozen? ⟨b, off + r, none⟩ = false) (hb : b < w.heap.size) (hmm : m < w.heap.size) :
    Calls Try.prog 101 #[.pointer (some ⟨m, 0, none⟩), .agg #[.int .i64 op, .int .i64 r, .int .i64 a, .int .i64 bb, .int .u32 arg]] w fun e w' => e = .returned (.tuple #[]) ∧
      Below w.heap.size (w.setCell ⟨b, off + r, none⟩ (.int .u32 x)) w' := by
  have h0 := nat_cast_lt h
  go_enter Try.func101, Try.ntmps101
  go_wp2
  refine wp_region_grew [3, 5, 7, 10] [0, 1, 2, 4, 6, 9, 11] [(2, 0), (2, 1), (2, 2), (2, 4), (2, 6), (1, 3), (1, 5), (1, 7), (0, 8), (2, 9), (1, 10), (2, 11), (0, 12)] (by kernel_rfl) (by kernel_rfl) (fun c a d v w h => by cases d <;> exact h) ?_
  simp only [getPlan, List.filterMap_cons, List.filterMap_nil, List.getElem?_toArray, List.getElem?_cons_succ, List.getElem?_cons_zero, Option.map_some]
  repeat ((first | refine wpPlan_pure (fun K hK => ?_) | refine wpPlan_float (fun K hK => ?_)); go_simp; refine hK _ ?_; clear hK K)
  refine wpPlan_keep ?_
  go_wp2_with fail
  refine (hel _ (((Below.refl _ _).alloc (by simp) _).drew)).mono ?_
  rintro e w1 ⟨rfl, hb1⟩
  have hw1 : Below w.heap.size w w1 := ((Below.refl _ _).alloc (by simp) _).drew.trans (hb1.mono (by simp))
  have c1 : w1.cell? ⟨eb, eo, none⟩ = some (.int .u32 x) := by rw [hw1.cell (p := ⟨eb, eo, none⟩) heb]; exact hev
  have c2 : w1.cell? ⟨b, off + r, none⟩ = some x0 := by rw [hw1.cell (p := ⟨b, off + r, none⟩) hb]; exact hx
  have c3 : w1.frozen? ⟨b, off + r, none⟩ = false := by rw [hw1.frozen (p := ⟨b, off + r, none⟩) hb]; exact hz
  go_wp2_with fail
  refine ⟨grew_below (below_undrew hb1), ?_⟩
  repeat ((first | refine wpPlan_pure (fun K hK => ?_) | refine wpPlan_float (fun K hK => ?_)); go_simp; refine hK _ ?_; clear hK K)
  refine wpPlan_tail (by kernel_rfl) ?_
  simp only [List.map_cons, List.map_nil]
  go_wp2
  go_end0
  exact ⟨rfl, below_setCell_both hw1 _ _⟩
set_option maxRecDepth 100000 in
set_option maxHeartbeats 1000000 in
theorem m_load_no (m b off len cap : Nat) (op to a bb arg : Int) (w : World)
    (hel : ElemNo w m (.agg #[.int .i64 op, .int .i64 to, .int .i64 a, .int .i64 bb, .int .u32 arg]))
    (hm : w.cell? ⟨m, 10, none⟩ = some (.slice (some ⟨b, off, none⟩) len cap)) (hmm : m < w.heap.size) :
    Calls Try.prog 101 #[.pointer (some ⟨m, 0, none⟩), .agg #[.int .i64 op, .int .i64 to, .int .i64 a, .int .i64 bb, .int .u32 arg]] w fun e w' => e = .panicked (failed 16) ∧ Below w.heap.size w w' := by
  go_enter Try.func101, Try.ntmps101
  go_wp2
  refine wp_region_grew [3, 5, 7, 10] [0, 1, 2, 4, 6, 9, 11] [(2, 0), (2, 1), (2, 2), (2, 4), (2, 6), (1, 3), (1, 5), (1, 7), (0, 8), (2, 9), (1, 10), (2, 11), (0, 12)] (by kernel_rfl) (by kernel_rfl) (fun c a d v w h => by cases d <;> exact h) ?_
  simp only [getPlan, List.filterMap_cons, List.filterMap_nil, List.getElem?_toArray, List.getElem?_cons_succ, List.getElem?_cons_zero, Option.map_some]
  repeat ((first | refine wpPlan_pure (fun K hK => ?_) | refine wpPlan_float (fun K hK => ?_)); go_simp; refine hK _ ?_; clear hK K)
  refine wpPlan_keep ?_
  go_wp2_with fail
  refine (hel _ (((Below.refl _ _).alloc (by simp) _).drew)).mono ?_
  rintro e w1 ⟨rfl, hb1⟩
  have hw1 : Below w.heap.size w w1 := ((Below.refl _ _).alloc (by simp) _).drew.trans (hb1.mono (by simp))
  exact ⟨rfl, rfl, hw1⟩
set_option maxRecDepth 100000 in
set_option maxHeartbeats 1000000 in
theorem m_store_word (m ab ao na ca eb eo : Nat) (op to a bb : Int) (r : Nat) (v : Int) (w : World) (h : r < na) (x0 : Value)
    (hel : ElemIs w m (.agg #[.int .i64 op, .int .i64 to, .int .i64 a, .int .i64 bb, .int .u32 r]) ⟨eb, eo, none⟩) (hget : GetIs w m bb v)
    (hm : w.cell? ⟨m, 0, none⟩ = some (.slice (some ⟨ab, ao, none⟩) na ca)) (hw : w.cell? ⟨ab, ao + r * 2, none⟩ = some (.bool true)) (hab : ab < w.heap.size)
    (hx : w.cell? ⟨eb, eo, none⟩ = some x0) (hz : w.frozen? ⟨eb, eo, none⟩ = false) (heb : eb < w.heap.size) (hmm : m < w.heap.size) :
    Calls Try.prog 102 #[.pointer (some ⟨m, 0, none⟩), .agg #[.int .i64 op, .int .i64 to, .int .i64 a, .int .i64 bb, .int .u32 r]] w fun e w' => e = .returned (.tuple #[]) ∧
      Below w.heap.size (w.setCell ⟨eb, eo, none⟩ (.int .u32 v)) w' := by
  have h0 := nat_cast_lt h
  go_enter Try.func102, Try.ntmps102
  go_wp2
  refine wp_region_grew [1, 5] [0, 3, 4] [(2, 0), (2, 3), (2, 4), (1, 1), (1, 5), (0, 2), (0, 6), (0, 7), (0, 8)] (by kernel_rfl) (by kernel_rfl) (fun c a d v w h => by cases d <;> exact h) ?_
  simp only [getPlan, List.filterMap_cons, List.filterMap_nil, List.getElem?_toArray, List.getElem?_cons_succ, List.getElem?_cons_zero, Option.map_some]
  repeat ((first | refine wpPlan_pure (fun K hK => ?_) | refine wpPlan_float (fun K hK => ?_)); go_simp; refine hK _ ?_; clear hK K)
  refine wpPlan_keep ?_
  go_wp2_with fail
  refine (hel _ (((Below.refl _ _).alloc (by simp) _).drew)).mono ?_
  rintro e w1 ⟨rfl, hb1⟩
  have hw1 : Below w.heap.size w w1 := ((Below.refl _ _).alloc (by simp) _).drew.trans (hb1.mono (by simp))
  have b1 : w1.cell? ⟨w.heap.size, 4, none⟩ = some (.int .u32 r) := by rw [hb1.cell (p := ⟨w.heap.size, 4, none⟩) (by simp)]; simp [go_sem]
  go_wp2_with fail
  refine ⟨grew_below (below_undrew hb1), ?_⟩
  refine wpPlan_keep ?_
  go_wp2_with fail
  refine (hget _ hw1).mono ?_
  rintro e w2 ⟨rfl, rfl⟩
  go_wp2_with fail
  refine ⟨grew_below (below_undrew hb1), ?_⟩
  have hmm1 : m < w1.heap.size := Nat.lt_of_lt_of_le hmm hw1.size
  have hab1 : ab < w1.heap.size := Nat.lt_of_lt_of_le hab hw1.size
  have hbx : w.heap.size < w1.heap.size := by have := hb1.size; simp at this; omega
  have c1 : w1.cell? ⟨m, 0, none⟩ = some (.slice (some ⟨ab, ao, none⟩) na ca) := by rw [hw1.cell (p := ⟨m, 0, none⟩) hmm]; exact hm
  have c2 : w1.cell? ⟨ab, ao + r * 2, none⟩ = some (.bool true) := by rw [hw1.cell (p := ⟨ab, ao + r * 2, none⟩) hab]; exact hw
  have c3 : w1.cell? ⟨eb, eo, none⟩ = some x0 := by rw [hw1.cell (p := ⟨eb, eo, none⟩) heb]; exact hx
  have c4 : w1.frozen? ⟨eb, eo, none⟩ = false := by rw [hw1.frozen (p := ⟨eb, eo, none⟩) heb]; exact hz
  refine wpPlan_tail (by kernel_rfl) ?_
  simp only [List.map_cons, List.map_nil]
  clear hb1 hel
  go_wp2
  refine wp_region_grew [4, 6, 9] [0, 1, 2, 3, 5, 7, 8, 10] [(2, 0), (2, 1), (2, 2), (2, 3), (2, 5), (1, 4), (1, 6), (2, 7), (2, 8), (1, 9), (2, 10)] (by kernel_rfl) (by kernel_rfl) (fun c a d v w h => by cases d <;> exact h) ?_
  simp only [getPlan, List.filterMap_cons, List.filterMap_nil, List.getElem?_toArray, List.getElem?_cons_succ, List.getElem?_cons_zero, Option.map_some]
  repeat ((first | refine wpPlan_pure (fun K hK => ?_) | refine wpPlan_float (fun K hK => ?_)); go_simp; refine hK _ ?_; clear hK K)
  refine wpPlan_nil ?_
  go_wp2
  go_end0
  exact ⟨rfl, (below_setCell_both hw1 _ _).drew⟩
set_option maxRecDepth 100000 in
set_option maxHeartbeats 1000000 in
theorem m_store_byte (m ab ao na ca eb eo : Nat) (op to a bb : Int) (r : Nat) (v : Int) (hv0 : 0 ≤ v) (hv1 : v < 4294967296) (w : World) (h : r < na) (x0 : Value)
    (hel : ElemIs w m (.agg #[.int .i64 op, .int .i64 to, .int .i64 a, .int .i64 bb, .int .u32 r]) ⟨eb, eo, none⟩) (hget : GetIs w m bb v)
    (hm : w.cell? ⟨m, 0, none⟩ = some (.slice (some ⟨ab, ao, none⟩) na ca)) (hw : w.cell? ⟨ab, ao + r * 2, none⟩ = some (.bool false)) (hab : ab < w.heap.size)
    (hx : w.cell? ⟨eb, eo, none⟩ = some x0) (hz : w.frozen? ⟨eb, eo, none⟩ = false) (heb : eb < w.heap.size) (hmm : m < w.heap.size) :
    Calls Try.prog 102 #[.pointer (some ⟨m, 0, none⟩), .agg #[.int .i64 op, .int .i64 to, .int .i64 a, .int .i64 bb, .int .u32 r]] w fun e w' => e = .returned (.tuple #[]) ∧
      Below w.heap.size (w.setCell ⟨eb, eo, none⟩ (.int .u32 (v % 256))) w' := by
  have h0 := nat_cast_lt h
  go_enter Try.func102, Try.ntmps102
  go_wp2
  refine wp_region_grew [1, 5] [0, 3, 4] [(2, 0), (2, 3), (2, 4), (1, 1), (1, 5), (0, 2), (0, 6), (0, 7), (0, 8)] (by kernel_rfl) (by kernel_rfl) (fun c a d v w h => by cases d <;> exact h) ?_
  simp only [getPlan, List.filterMap_cons, List.filterMap_nil, List.getElem?_toArray, List.getElem?_cons_succ, List.getElem?_cons_zero, Option.map_some]
  repeat ((first | refine wpPlan_pure (fun K hK => ?_) | refine wpPlan_float (fun K hK => ?_)); go_simp; refine hK _ ?_; clear hK K)
  refine wpPlan_keep ?_
  go_wp2_with fail
  refine (hel _ (((Below.refl _ _).alloc (by simp) _).drew)).mono ?_
  rintro e w1 ⟨rfl, hb1⟩
  have hw1 : Below w.heap.size w w1 := ((Below.refl _ _).alloc (by simp) _).drew.trans (hb1.mono (by simp))
  have b1 : w1.cell? ⟨w.heap.size, 4, none⟩ = some (.int .u32 r) := by rw [hb1.cell (p := ⟨w.heap.size, 4, none⟩) (by simp)]; simp [go_sem]
  go_wp2_with fail
  refine ⟨grew_below (below_undrew hb1), ?_⟩
  refine wpPlan_keep ?_
  go_wp2_with fail
  refine (hget _ hw1).mono ?_
  rintro e w2 ⟨rfl, rfl⟩
  go_wp2_with fail
  refine ⟨grew_below (below_undrew hb1), ?_⟩
  have hmm1 : m < w1.heap.size := Nat.lt_of_lt_of_le hmm hw1.size
  have hab1 : ab < w1.heap.size := Nat.lt_of_lt_of_le hab hw1.size
  have hbx : w.heap.size < w1.heap.size := by have := hb1.size; simp at this; omega
  have c1 : w1.cell? ⟨m, 0, none⟩ = some (.slice (some ⟨ab, ao, none⟩) na ca) := by rw [hw1.cell (p := ⟨m, 0, none⟩) hmm]; exact hm
  have c2 : w1.cell? ⟨ab, ao + r * 2, none⟩ = some (.bool false) := by rw [hw1.cell (p := ⟨ab, ao + r * 2, none⟩) hab]; exact hw
  have c3 : w1.cell? ⟨eb, eo, none⟩ = some x0 := by rw [hw1.cell (p := ⟨eb, eo, none⟩) heb]; exact hx
  have c4 : w1.frozen? ⟨eb, eo, none⟩ = false := by rw [hw1.frozen (p := ⟨eb, eo, none⟩) heb]; exact hz
  refine wpPlan_tail (by kernel_rfl) ?_
  simp only [List.map_cons, List.map_nil]
  clear hb1 hel
  go_wp2
  refine wp_region_grew [4, 6, 9] [0, 1, 2, 3, 5, 7, 8, 10] [(2, 0), (2, 1), (2, 2), (2, 3), (2, 5), (1, 4), (1, 6), (2, 7), (2, 8), (1, 9), (2, 10)] (by kernel_rfl) (by kernel_rfl) (fun c a d v w h => by cases d <;> exact h) ?_
  simp only [getPlan, List.filterMap_cons, List.filterMap_nil, List.getElem?_toArray, List.getElem?_cons_succ, List.getElem?_cons_zero, Option.map_some]
  repeat ((first | refine wpPlan_pure (fun K hK => ?_) | refine wpPlan_float (fun K hK => ?_)); go_simp; refine hK _ ?_; clear hK K)
  refine wpPlan_nil ?_
  go_wp2
  go_end0
  rw [bits_and_255 v hv0 hv1]
  exact ⟨rfl, (below_setCell_both hw1 _ _).drew⟩
set_option maxRecDepth 100000 in
set_option maxHeartbeats 1000000 in
theorem m_store_no (m : Nat) (op to a bb arg : Int) (w : World) (hel : ElemNo w m (.agg #[.int .i64 op, .int .i64 to, .int .i64 a, .int .i64 bb, .int .u32 arg])) (hmm : m < w.heap.size) :
    Calls Try.prog 102 #[.pointer (some ⟨m, 0, none⟩), .agg #[.int .i64 op, .int .i64 to, .int .i64 a, .int .i64 bb, .int .u32 arg]] w fun e w' => e = .panicked (failed 16) ∧ Below w.heap.size w w' := by
  go_enter Try.func102, Try.ntmps102
  go_wp2
  refine wp_region_grew [1, 5] [0, 3, 4] [(2, 0), (2, 3), (2, 4), (1, 1), (1, 5), (0, 2), (0, 6), (0, 7), (0, 8)] (by kernel_rfl) (by kernel_rfl) (fun c a d v w h => by cases d <;> exact h) ?_
  simp only [getPlan, List.filterMap_cons, List.filterMap_nil, List.getElem?_toArray, List.getElem?_cons_succ, List.getElem?_cons_zero, Option.map_some]
  repeat ((first | refine wpPlan_pure (fun K hK => ?_) | refine wpPlan_float (fun K hK => ?_)); go_simp; refine hK _ ?_; clear hK K)
  refine wpPlan_keep ?_
  go_wp2_with fail
  refine (hel _ (((Below.refl _ _).alloc (by simp) _).drew)).mono ?_
  rintro e w1 ⟨rfl, hb1⟩
  have hw1 : Below w.heap.size w w1 := ((Below.refl _ _).alloc (by simp) _).drew.trans (hb1.mono (by simp))
  exact ⟨rfl, rfl, hw1⟩
set_option maxRecDepth 100000 in
set_option maxHeartbeats 1000000 in
theorem m_emit_long (m n : Nat) (ov : Value) (oa : Option Addr) (oc : Nat) (op to a bb arg : Int) (w : World)
    (ho : w.cell? ⟨m, 13, none⟩ = some (.slice oa n oc)) (hn : ¬ n < 65536) (hmm : m < w.heap.size) :
    Calls Try.prog 99 #[.pointer (some ⟨m, 0, none⟩), .agg #[.int .i64 op, .int .i64 to, .int .i64 a, .int .i64 bb, .int .u32 arg]] w fun e w' => e = .panicked (failed 5) ∧ Below w.heap.size w w' := by
  have hd : decide (n < 65536) = false := by simp [hn]
  have hd2 : ¬ (n : Int) < 65536 := by omega
  go_enter Try.func99, Try.ntmps99
  go_wp2_with (go_at_call 108; refine (demand_no _ _).mono ?_; rintro e w' ⟨rfl, rfl⟩)
  exact ⟨rfl, rfl, ((Below.refl _ _).alloc (by simp) _)⟩
set_option maxRecDepth 100000 in
set_option maxHeartbeats 1000000 in
theorem m_emit (m n B : Nat) (oa : Option Addr) (oc : Nat) (os : List Value) (op to a bb arg v : Int) (w : World) (hget : GetIs w m a v) (hv0 : 0 ≤ v) (hv1 : v < 4294967296)
    (ho : w.cell? ⟨m, 13, none⟩ = some (.slice oa n oc)) (hn : n < 65536) (hmm : m < w.heap.size) (hz : w.frozen? ⟨m, 13, none⟩ = false)
    (hown : w.ownsRow B 5 1 (.slice oa n oc) n os) (hB : B ≤ w.heap.size) (hne : (Value.slice oa n oc).ownBlock ≠ some m) :
    Calls Try.prog 99 #[.pointer (some ⟨m, 0, none⟩), .agg #[.int .i64 op, .int .i64 to, .int .i64 a, .int .i64 bb, .int .u32 arg]] w fun e w' => e = .returned (.tuple #[]) ∧ ∃ g c w1, w1.ownsRow B 5 1 (.slice (some ⟨g, 0, none⟩) (n + 1) c) (n + 1) (os ++ [.int .u8 (v % 256)]) ∧
      w.grownBy w1 (Value.slice oa n oc).ownBlock ∧ ((Value.slice oa n oc).ownBlock = some g ∨ w.heap.size ≤ g) ∧ w' = w1.setCell ⟨m, 13, none⟩ (.slice (some ⟨g, 0, none⟩) (n + 1) c) := by
  have hd : decide (n < 65536) = true := by simp [hn]
  have hd2 : (n : Int) < 65536 := by omega
  go_enter Try.func99, Try.ntmps99
  go_wp2_with (go_at_call 108; refine (demand_yes _ _).mono ?_; rintro e w' ⟨rfl, rfl⟩)
  refine wp_region_grew [4, 7] [0, 1, 2, 3, 5, 6, 9, 12, 13] [(2, 0), (2, 1), (2, 2), (2, 3), (2, 5), (2, 6), (1, 4), (1, 7), (0, 8), (2, 9), (0, 10), (0, 11), (2, 12), (2, 13), (0, 14)] (by kernel_rfl) (by kernel_rfl) (fun c a d v w h => by cases d <;> exact h) ?_
  simp only [getPlan, List.filterMap_cons, List.filterMap_nil, List.getElem?_toArray, List.getElem?_cons_succ, List.getElem?_cons_zero, Option.map_some]
  repeat ((first | refine wpPlan_pure (fun K hK => ?_) | refine wpPlan_float (fun K hK => ?_)); go_simp; refine hK _ ?_; clear hK K)
  refine wpPlan_keep ?_
  go_wp2_with (go_at_call 109; refine (hget _ (((Below.refl _ _).alloc (by simp) _).drew)).mono ?_; rintro e w' ⟨rfl, rfl⟩)
  refine ⟨grew_below (Below.refl _ _).drew, ?_⟩
  repeat ((first | refine wpPlan_pure (fun K hK => ?_) | refine wpPlan_float (fun K hK => ?_)); go_simp; refine hK _ ?_; clear hK K)
  refine wpPlan_keep ?_
  go_wp2_with fail
  refine ⟨grew_below ((Below.refl _ _).alloc (by simp) _).drew, ?_⟩
  refine wpPlan_sees (by kernel_rfl) ?_
  refine wpList_app1 Try.elU8 rfl _ _ rfl B _ n os rfl ((hown.alloc _).alloc _).drew (w.heap.size + 1) [.int .u8 (v % 256)] (0, 0) rfl ?_ rfl ?_ ?_ ?_ ?_
  · exact heap_new2 w _ _
  · simp [Value.oneCell']
  · omega
  · simp; omega
  intro g c w1 hown1 hgrow hat hlt
  have hg2 : w.grownBy w1 (Value.slice oa n oc).ownBlock := grownBy_trans (grownBy_of_below (((Below.refl _ _).alloc (by simp) _).alloc (by simp) _).drew _) hgrow
  have c1 : w1.cell? ⟨m, 13, none⟩ = some (.slice oa n oc) := hg2.cell ho (Ne.symm hne)
  have c2 : w1.frozen? ⟨m, 13, none⟩ = false := by rw [World.frozen?_of_block (hg2.block m hmm (Ne.symm hne))]; exact hz
  clear hgrow
  go_wp2_with fail
  repeat ((first | refine wpPlan_pure (fun K hK => ?_) | refine wpPlan_float (fun K hK => ?_)); go_simp; refine hK _ ?_; clear hK K)
  refine wpPlan_tail (by kernel_rfl) ?_
  simp only [List.map_cons, List.map_nil]
  go_wp2
  go_end0
  refine ⟨rfl, g, c, w1, hown1, hg2, ?_, rfl⟩
  rcases hat with hat | hat
  · exact .inl hat
  · right; rw [hat]; simp; omega
set_option maxRecDepth 100000 in
set_option maxHeartbeats 1000000 in
theorem m_loop_bound (m : Nat) (op to a bb arg v : Int) (w : World) (hget : GetIs w m a v) (hv : ¬ v ≤ arg) (hmm : m < w.heap.size) :
    Calls Try.prog 105 #[.pointer (some ⟨m, 0, none⟩), .agg #[.int .i64 op, .int .i64 to, .int .i64 a, .int .i64 bb, .int .u32 arg]] w fun e w' => e = .panicked (failed 18) ∧ Below w.heap.size w w' := by
  have hd : decide (v ≤ arg) = false := by simp [hv]
  go_enter Try.func105, Try.ntmps105
  go_wp2_with (first | (go_at_call 109; refine (hget _ (((Below.refl _ _).alloc (by simp) _))).mono ?_; rintro e w' ⟨rfl, rfl⟩) | (go_at_call 108; refine (demand_no _ _).mono ?_; rintro e w' ⟨rfl, rfl⟩))
  exact ⟨rfl, rfl, ((Below.refl _ _).alloc (by simp) _)⟩
set_option maxRecDepth 100000 in
set_option maxHeartbeats 1000000 in
theorem m_loop_none (m b off len cap : Nat) (at_ : Nat) (p : Int) (op to a bb arg : Int) (w : World) (hget : GetIs w m a 0) (harg : 0 ≤ arg) (h : at_ < len)
    (hm : w.cell? ⟨m, 4, none⟩ = some (.slice (some ⟨b, off, none⟩) len cap)) (ha : w.cell? ⟨m, 15, none⟩ = some (.int .i64 at_)) (hp : w.cell? ⟨b, off + at_, none⟩ = some (.int .i64 p))
    (hz : w.frozen? ⟨m, 15, none⟩ = false) (hb : b < w.heap.size) (hmm : m < w.heap.size) :
    Calls Try.prog 105 #[.pointer (some ⟨m, 0, none⟩), .agg #[.int .i64 op, .int .i64 to, .int .i64 a, .int .i64 bb, .int .u32 arg]] w fun e w' => e = .returned (.tuple #[]) ∧ Below w.heap.size (w.setCell ⟨m, 15, none⟩ (.int .i64 p)) w' := by
  have h0 := nat_cast_lt h
  have hd : decide ((0 : Int) ≤ arg) = true := by simp [harg]
  go_enter Try.func105, Try.ntmps105
  go_wp2_with (first | (go_at_call 109; refine (hget _ (((Below.refl _ _).alloc (by simp) _))).mono ?_; rintro e w' ⟨rfl, rfl⟩) | (go_at_call 108; refine (demand_yes _ _).mono ?_; rintro e w' ⟨rfl, rfl⟩))
  refine wp_region_grew [4, 8, 10] [0, 1, 2, 3, 5, 6, 7, 9, 11, 12] [(2, 0), (2, 1), (2, 2), (2, 3), (2, 5), (2, 6), (2, 7), (1, 4), (1, 8), (2, 9), (1, 10), (2, 11), (2, 12), (0, 13)] (by kernel_rfl) (by kernel_rfl) (fun c a d v w h => by cases d <;> exact h) ?_
  simp only [getPlan, List.filterMap_cons, List.filterMap_nil, List.getElem?_toArray, List.getElem?_cons_succ, List.getElem?_cons_zero, Option.map_some]
  repeat ((first | refine wpPlan_pure (fun K hK => ?_) | refine wpPlan_float (fun K hK => ?_)); go_simp; refine hK _ ?_; clear hK K)
  refine wpPlan_tail (by kernel_rfl) ?_
  simp only [List.map_cons, List.map_nil]
  go_wp2
  first | go_end0 | refine bodyPost_ret (results_none rfl _ _ _) rfl ?_
  exact ⟨rfl, ((Below.refl _ _).alloc (by simp) _).drew⟩
set_option maxRecDepth 100000 in
set_option maxHeartbeats 1000000 in
theorem m_loop_yes (m n B : Nat) (la : Option Addr) (lc : Nat) (ls : List Value) (at_ : Nat) (op to a bb arg v s f : Int) (w : World) (hget : GetIs w m a v) (hv : v ≤ arg) (hv0 : (v == 0) = false)
    (ha : w.cell? ⟨m, 15, none⟩ = some (.int .i64 at_)) (hl : w.cell? ⟨m, 12, none⟩ = some (.slice la n lc)) (hn : n < 65536) (hmm : m < w.heap.size) (hz : w.frozen? ⟨m, 12, none⟩ = false)
    (hown : w.ownsRow B 138 2 (.slice la n lc) n ls) (hB : B ≤ w.heap.size) (hne : (Value.slice la n lc).ownBlock ≠ some m)
    (hs : w.cell? ⟨m, 14, none⟩ = some (.int .i64 s)) (hf : w.cell? ⟨m, 9, none⟩ = some (.int .i64 f)) (hzs : w.frozen? ⟨m, 14, none⟩ = false) (h0 : 0 ≤ s) (hf2 : f ≤ 281474976710656) (hsf : s < f) :
    Calls Try.prog 105 #[.pointer (some ⟨m, 0, none⟩), .agg #[.int .i64 op, .int .i64 to, .int .i64 a, .int .i64 bb, .int .u32 arg]] w fun e w' => e = .returned (.tuple #[]) ∧ ∃ g c w1 k, w1.ownsRow B 138 2 (.slice (some ⟨g, 0, none⟩) (n + 1) c) (n + 1) (ls ++ [.int .i64 at_, .int .u32 v]) ∧
      w.grownBy w1 (Value.slice la n lc).ownBlock ∧ ((Value.slice la n lc).ownBlock = some g ∨ w.heap.size ≤ g) ∧ w' = ((w1.setCell ⟨m, 12, none⟩ (.slice (some ⟨g, 0, none⟩) (n + 1) c)).setCell ⟨m, 14, none⟩ (.int .i64 (s + 1))).drewN k := by
  have hd : decide (v ≤ arg) = true := by simp [hv]
  go_enter Try.func105, Try.ntmps105
  go_wp2_with (first | (go_at_call 109; refine (hget _ (((Below.refl _ _).alloc (by simp) _))).mono ?_; rintro e w' ⟨rfl, rfl⟩) | (go_at_call 108; refine (demand_yes _ _).mono ?_; rintro e w' ⟨rfl, rfl⟩))
  refine wp_region_grew [4, 8] [0, 1, 2, 3, 5, 6, 7, 9, 10, 13, 14] [(2, 0), (2, 1), (2, 2), (2, 3), (2, 5), (2, 6), (2, 7), (2, 9), (1, 4), (1, 8), (2, 10), (0, 11), (0, 12), (2, 13), (2, 14), (0, 15)] (by kernel_rfl) (by kernel_rfl) (fun c a d v w h => by cases d <;> exact h) ?_
  simp only [getPlan, List.filterMap_cons, List.filterMap_nil, List.getElem?_toArray, List.getElem?_cons_succ, List.getElem?_cons_zero, Option.map_some]
  repeat ((first | refine wpPlan_pure (fun K hK => ?_) | refine wpPlan_float (fun K hK => ?_)); go_simp; refine hK _ ?_; clear hK K)
  refine wpPlan_keep ?_
  go_wp2_with fail
  refine ⟨grew_below ((Below.refl _ _).alloc (by simp) _).drew, ?_⟩
  refine wpPlan_sees (by kernel_rfl) ?_
  refine wpList_app1 Try.elFr rfl _ _ rfl B _ n ls rfl ((hown.alloc _).alloc _).drew (w.heap.size + 1) [.int .i64 at_, .int .u32 v] (0, 0) rfl ?_ rfl ?_ ?_ ?_ ?_
  · exact heap_new2 w _ _
  · simp [Value.oneCell']
  · omega
  · simp; omega
  intro g c w1 hown1 hgrow hat hlt
  have hg2 : w.grownBy w1 (Value.slice la n lc).ownBlock := grownBy_trans (grownBy_of_below (((Below.refl _ _).alloc (by simp) _).alloc (by simp) _).drew _) hgrow
  have c1 : w1.cell? ⟨m, 12, none⟩ = some (.slice la n lc) := hg2.cell hl (Ne.symm hne)
  have c2 : w1.frozen? ⟨m, 12, none⟩ = false := by rw [World.frozen?_of_block (hg2.block m hmm (Ne.symm hne))]; exact hz
  have c3 : w1.cell? ⟨m, 14, none⟩ = some (.int .i64 s) := hg2.cell hs (Ne.symm hne)
  have c4 : w1.cell? ⟨m, 9, none⟩ = some (.int .i64 f) := hg2.cell hf (Ne.symm hne)
  have c5 : w1.frozen? ⟨m, 14, none⟩ = false := by rw [World.frozen?_of_block (hg2.block m hmm (Ne.symm hne))]; exact hzs
  clear hgrow
  go_wp2_with fail
  repeat ((first | refine wpPlan_pure (fun K hK => ?_) | refine wpPlan_float (fun K hK => ?_)); go_simp; refine hK _ ?_; clear hK K)
  refine wpPlan_tail (by kernel_rfl) ?_
  simp only [List.map_cons, List.map_nil]
  have hat2 : (Value.slice la n lc).ownBlock = some g ∨ w.heap.size ≤ g := by
    rcases hat with hat | hat
    · exact .inl hat
    · right; rw [hat]; simp; omega
  clear hat
  go_wp2_with (go_at_call 87; refine (step_yes m s f _ (by simp [go_sem, c3]) (by simp [go_sem, c4]) (by simp [go_sem, c5]) hsf h0 hf2).mono ?_; rintro e w' ⟨rfl, k, rfl⟩)
  go_end0
  exact ⟨rfl, g, c, w1, k, hown1, hg2, hat2, rfl⟩
set_option maxRecDepth 100000 in
set_option maxHeartbeats 1000000 in
theorem m_loop_no (m n B : Nat) (la : Option Addr) (lc : Nat) (ls : List Value) (at_ : Nat) (op to a bb arg v s f : Int) (w : World) (hget : GetIs w m a v) (hv : v ≤ arg) (hv0 : (v == 0) = false)
    (ha : w.cell? ⟨m, 15, none⟩ = some (.int .i64 at_)) (hl : w.cell? ⟨m, 12, none⟩ = some (.slice la n lc)) (hn : n < 65536) (hmm : m < w.heap.size) (hz : w.frozen? ⟨m, 12, none⟩ = false)
    (hown : w.ownsRow B 138 2 (.slice la n lc) n ls) (hB : B ≤ w.heap.size) (hne : (Value.slice la n lc).ownBlock ≠ some m)
    (hs : w.cell? ⟨m, 14, none⟩ = some (.int .i64 s)) (hf : w.cell? ⟨m, 9, none⟩ = some (.int .i64 f)) (hzs : w.frozen? ⟨m, 14, none⟩ = false) (h0 : 0 ≤ s) (hf2 : f ≤ 281474976710656) (hsf : ¬ s < f) :
    Calls Try.prog 105 #[.pointer (some ⟨m, 0, none⟩), .agg #[.int .i64 op, .int .i64 to, .int .i64 a, .int .i64 bb, .int .u32 arg]] w fun e w' => e = .panicked (failed 19) ∧ ∃ w1 u k, w.grownBy w1 (Value.slice la n lc).ownBlock ∧ w' = (w1.setCell ⟨m, 12, none⟩ u).drewN k := by
  have hd : decide (v ≤ arg) = true := by simp [hv]
  go_enter Try.func105, Try.ntmps105
  go_wp2_with (first | (go_at_call 109; refine (hget _ (((Below.refl _ _).alloc (by simp) _))).mono ?_; rintro e w' ⟨rfl, rfl⟩) | (go_at_call 108; refine (demand_yes _ _).mono ?_; rintro e w' ⟨rfl, rfl⟩))
  refine wp_region_grew [4, 8] [0, 1, 2, 3, 5, 6, 7, 9, 10, 13, 14] [(2, 0), (2, 1), (2, 2), (2, 3), (2, 5), (2, 6), (2, 7), (2, 9), (1, 4), (1, 8), (2, 10), (0, 11), (0, 12), (2, 13), (2, 14), (0, 15)] (by kernel_rfl) (by kernel_rfl) (fun c a d v w h => by cases d <;> exact h) ?_
  simp only [getPlan, List.filterMap_cons, List.filterMap_nil, List.getElem?_toArray, List.getElem?_cons_succ, List.getElem?_cons_zero, Option.map_some]
  repeat ((first | refine wpPlan_pure (fun K hK => ?_) | refine wpPlan_float (fun K hK => ?_)); go_simp; refine hK _ ?_; clear hK K)
  refine wpPlan_keep ?_
  go_wp2_with fail
  refine ⟨grew_below ((Below.refl _ _).alloc (by simp) _).drew, ?_⟩
  refine wpPlan_sees (by kernel_rfl) ?_
  refine wpList_app1 Try.elFr rfl _ _ rfl B _ n ls rfl ((hown.alloc _).alloc _).drew (w.heap.size + 1) [.int .i64 at_, .int .u32 v] (0, 0) rfl ?_ rfl ?_ ?_ ?_ ?_
  · exact heap_new2 w _ _
  · simp [Value.oneCell']
  · omega
  · simp; omega
  intro g c w1 hown1 hgrow hat hlt
  have hg2 : w.grownBy w1 (Value.slice la n lc).ownBlock := grownBy_trans (grownBy_of_below (((Below.refl _ _).alloc (by simp) _).alloc (by simp) _).drew _) hgrow
  have c1 : w1.cell? ⟨m, 12, none⟩ = some (.slice la n lc) := hg2.cell hl (Ne.symm hne)
  have c2 : w1.frozen? ⟨m, 12, none⟩ = false := by rw [World.frozen?_of_block (hg2.block m hmm (Ne.symm hne))]; exact hz
  have c3 : w1.cell? ⟨m, 14, none⟩ = some (.int .i64 s) := hg2.cell hs (Ne.symm hne)
  have c4 : w1.cell? ⟨m, 9, none⟩ = some (.int .i64 f) := hg2.cell hf (Ne.symm hne)
  have c5 : w1.frozen? ⟨m, 14, none⟩ = false := by rw [World.frozen?_of_block (hg2.block m hmm (Ne.symm hne))]; exact hzs
  clear hgrow
  go_wp2_with fail
  repeat ((first | refine wpPlan_pure (fun K hK => ?_) | refine wpPlan_float (fun K hK => ?_)); go_simp; refine hK _ ?_; clear hK K)
  refine wpPlan_tail (by kernel_rfl) ?_
  simp only [List.map_cons, List.map_nil]
  have hat2 : (Value.slice la n lc).ownBlock = some g ∨ w.heap.size ≤ g := by
    rcases hat with hat | hat
    · exact .inl hat
    · right; rw [hat]; simp; omega
  clear hat
  go_wp2_with (go_at_call 87; refine (step_no m s f _ (by simp [go_sem, c3]) (by simp [go_sem, c4]) (by omega)).mono ?_; rintro e w' ⟨rfl, k, rfl⟩)
  exact ⟨rfl, rfl, w1, _, k, hg2, rfl⟩
set_option maxRecDepth 100000 in
set_option maxHeartbeats 1000000 in
theorem m_end_none (m : Nat) (la : Option Addr) (lc : Nat) (op to a bb arg : Int) (w : World)
    (hl : w.cell? ⟨m, 12, none⟩ = some (.slice la 0 lc)) (hmm : m < w.heap.size) :
    Calls Try.prog 107 #[.pointer (some ⟨m, 0, none⟩), .agg #[.int .i64 op, .int .i64 to, .int .i64 a, .int .i64 bb, .int .u32 arg]] w fun e w' => e = .returned (.tuple #[]) ∧ Below w.heap.size w w' := by
  go_enter Try.func107, Try.ntmps107
  go_wp2
  first | go_end0 | refine bodyPost_ret (results_none rfl _ _ _) rfl ?_
  exact ⟨rfl, ((Below.refl _ _).alloc (by simp) _)⟩
set_option maxRecDepth 100000 in
set_option maxHeartbeats 1000000 in
theorem m_end_if (m n g lo lc b off len cap : Nat) (at_ at2 : Nat) (p : Int) (op to a bb arg : Int) (w : World)
    (hl : w.cell? ⟨m, 12, none⟩ = some (.slice (some ⟨g, lo, none⟩) (n + 1) lc)) (hn : n < 65536) (hmm : m < w.heap.size) (hg : g < w.heap.size)
    (hfa : w.cell? ⟨g, lo + n * 2, none⟩ = some (.int .i64 at2)) (h2 : at2 < len)
    (hm : w.cell? ⟨m, 4, none⟩ = some (.slice (some ⟨b, off, none⟩) len cap)) (ha : w.cell? ⟨m, 15, none⟩ = some (.int .i64 at_)) (hp : w.cell? ⟨b, off + at2, none⟩ = some (.int .i64 p)) (hb : b < w.heap.size)
    (hne : (p != (at_ : Int)) = true) :
    Calls Try.prog 107 #[.pointer (some ⟨m, 0, none⟩), .agg #[.int .i64 op, .int .i64 to, .int .i64 a, .int .i64 bb, .int .u32 arg]] w fun e w' => e = .returned (.tuple #[]) ∧ Below w.heap.size w w' := by
  have h0 := nat_cast_lt h2
  have hw : IntKind.i64.wrap (n : Int) = (n : Int) := IntWalk.i64_in _ (by omega)
  have hw2 : (0 : Int) ≤ (n : Int) ∧ (n : Int) < (n : Int) + 1 := by omega
  go_enter Try.func107, Try.ntmps107
  go_wp2
  refine wp_region_grew [3, 7] [0, 1, 2, 4, 5, 6, 8, 9, 10, 11] [(2, 0), (2, 1), (2, 2), (2, 4), (2, 5), (2, 6), (1, 3), (1, 7), (2, 8), (2, 9), (2, 10), (2, 11)] (by kernel_rfl) (by kernel_rfl) (fun c a d v w h => by cases d <;> exact h) ?_
  simp only [getPlan, List.filterMap_cons, List.filterMap_nil, List.getElem?_toArray, List.getElem?_cons_succ, List.getElem?_cons_zero, Option.map_some]
  repeat ((first | refine wpPlan_pure (fun K hK => ?_) | refine wpPlan_float (fun K hK => ?_)); go_simp; refine hK _ ?_; clear hK K)
  refine wpPlan_nil ?_
  go_wp2
  refine wp_region_grew [3, 7, 9, 13] [0, 1, 2, 4, 5, 6, 10, 11, 12, 8, 14] [(2, 0), (2, 1), (2, 2), (2, 4), (2, 5), (2, 6), (2, 10), (2, 11), (2, 12), (1, 3), (1, 7), (2, 8), (1, 9), (1, 13), (2, 14)] (by kernel_rfl) (by kernel_rfl) (fun c a d v w h => by cases d <;> exact h) ?_
  simp only [getPlan, List.filterMap_cons, List.filterMap_nil, List.getElem?_toArray, List.getElem?_cons_succ, List.getElem?_cons_zero, Option.map_some]
  repeat ((first | refine wpPlan_pure (fun K hK => ?_) | refine wpPlan_float (fun K hK => ?_)); go_simp; refine hK _ ?_; clear hK K)
  refine wpPlan_nil ?_
  go_wp2
  first | go_end0 | refine bodyPost_ret (results_none rfl _ _ _) rfl ?_
  exact ⟨rfl, ((Below.refl _ _).alloc (by simp) _).drew.drew⟩
end Go.Proofs.Ytefdnjhhaejgbaa

namespace Go.Proofs.Ytefdnjhhaejgbaa
open Go.RowKit
set_option linter.unusedVariables false
set_option maxRecDepth 100000 in
set_option maxHeartbeats 1000000 in
theorem m_end_pop (m n g lo lc b off len cap : Nat) (at_ at2 : Nat) (op to a bb arg : Int) (w : World)
    (hl : w.cell? ⟨m, 12, none⟩ = some (.slice (some ⟨g, lo, none⟩) (n + 1) lc)) (hn : n < 65536) (hlc : n + 1 ≤ lc) (hlc2 : lc ≤ maxLen) (hmm : m < w.heap.size) (hg : g < w.heap.size)
    (hfa : w.cell? ⟨g, lo + n * 2, none⟩ = some (.int .i64 at2)) (hfl : w.cell? ⟨g, lo + n * 2 + 1, none⟩ = some (.int .u32 1)) (h2 : at2 < len)
    (hm : w.cell? ⟨m, 4, none⟩ = some (.slice (some ⟨b, off, none⟩) len cap)) (ha : w.cell? ⟨m, 15, none⟩ = some (.int .i64 at_)) (hp : w.cell? ⟨b, off + at2, none⟩ = some (.int .i64 at_)) (hb : b < w.heap.size)
    (hz1 : w.frozen? ⟨g, lo + n * 2 + 1, none⟩ = false) (hz2 : w.frozen? ⟨m, 12, none⟩ = false) (hz3 : w.frozen? ⟨m, 15, none⟩ = false) (hgm : ¬ g = m) (hgm2 : ¬ m = g) :
    Calls Try.prog 107 #[.pointer (some ⟨m, 0, none⟩), .agg #[.int .i64 op, .int .i64 to, .int .i64 a, .int .i64 bb, .int .u32 arg]] w fun e w' => e = .returned (.tuple #[]) ∧
      Below w.heap.size ((w.setCell ⟨g, lo + n * 2 + 1, none⟩ (.int .u32 0)).setCell ⟨m, 12, none⟩ (.slice (some ⟨g, lo, none⟩) n lc)) w' := by
  have h0 := nat_cast_lt h2
  unfold maxLen at hlc2
  have hw : IntKind.i64.wrap (n : Int) = (n : Int) := IntWalk.i64_in _ (by omega)
  have hw2 : (0 : Int) ≤ (n : Int) ∧ (n : Int) < (n : Int) + 1 := by omega
  have hw4 : ¬ (lc : Int) < (n : Int) := by omega
  have hw3 : (n : Int) ≤ (lc : Int) := by omega
  go_enter Try.func107, Try.ntmps107
  go_wp2
  refine wp_region_grew [3, 7] [0, 1, 2, 4, 5, 6, 8, 9, 10, 11] [(2, 0), (2, 1), (2, 2), (2, 4), (2, 5), (2, 6), (1, 3), (1, 7), (2, 8), (2, 9), (2, 10), (2, 11)] (by kernel_rfl) (by kernel_rfl) (fun c a d v w h => by cases d <;> exact h) ?_
  simp only [getPlan, List.filterMap_cons, List.filterMap_nil, List.getElem?_toArray, List.getElem?_cons_succ, List.getElem?_cons_zero, Option.map_some]
  repeat ((first | refine wpPlan_pure (fun K hK => ?_) | refine wpPlan_float (fun K hK => ?_)); go_simp; refine hK _ ?_; clear hK K)
  refine wpPlan_nil ?_
  go_wp2
  refine wp_region_grew [3, 7, 9, 13] [0, 1, 2, 4, 5, 6, 10, 11, 12, 8, 14] [(2, 0), (2, 1), (2, 2), (2, 4), (2, 5), (2, 6), (2, 10), (2, 11), (2, 12), (1, 3), (1, 7), (2, 8), (1, 9), (1, 13), (2, 14)] (by kernel_rfl) (by kernel_rfl) (fun c a d v w h => by cases d <;> exact h) ?_
  simp only [getPlan, List.filterMap_cons, List.filterMap_nil, List.getElem?_toArray, List.getElem?_cons_succ, List.getElem?_cons_zero, Option.map_some]
  repeat ((first | refine wpPlan_pure (fun K hK => ?_) | refine wpPlan_float (fun K hK => ?_)); go_simp; refine hK _ ?_; clear hK K)
  refine wpPlan_nil ?_
  go_wp2
  refine wp_region_grew [4, 8] [0, 1, 2, 3, 5, 6, 7, 9, 10, 11, 12, 13] [(2, 0), (2, 1), (2, 2), (2, 3), (2, 5), (2, 6), (2, 7), (1, 4), (1, 8), (2, 9), (2, 10), (2, 11), (2, 12), (2, 13), (0, 14)] (by kernel_rfl) (by kernel_rfl) (fun c a d v w h => by cases d <;> exact h) ?_
  simp only [getPlan, List.filterMap_cons, List.filterMap_nil, List.getElem?_toArray, List.getElem?_cons_succ, List.getElem?_cons_zero, Option.map_some]
  repeat ((first | refine wpPlan_pure (fun K hK => ?_) | refine wpPlan_float (fun K hK => ?_)); go_simp; refine hK _ ?_; clear hK K)
  refine wpPlan_tail (by kernel_rfl) ?_
  simp only [List.map_cons, List.map_nil]
  go_wp2
  first | go_end0 | refine bodyPost_ret (results_none rfl _ _ _) rfl ?_
  exact ⟨rfl, ((Below.refl _ _).alloc (by simp) _).drew.drew.drew⟩
set_option maxRecDepth 100000 in
set_option maxHeartbeats 1000000 in
theorem m_end_again (m n g lo lc b off len cap : Nat) (at_ at2 : Nat) (l : Int) (op to a bb arg : Int) (w : World)
    (hl : w.cell? ⟨m, 12, none⟩ = some (.slice (some ⟨g, lo, none⟩) (n + 1) lc)) (hn : n < 65536) (hlc : n + 1 ≤ lc) (hlc2 : lc ≤ maxLen) (hmm : m < w.heap.size) (hg : g < w.heap.size)
    (hfa : w.cell? ⟨g, lo + n * 2, none⟩ = some (.int .i64 at2)) (hfl : w.cell? ⟨g, lo + n * 2 + 1, none⟩ = some (.int .u32 l)) (h2 : at2 < len)
    (hm : w.cell? ⟨m, 4, none⟩ = some (.slice (some ⟨b, off, none⟩) len cap)) (ha : w.cell? ⟨m, 15, none⟩ = some (.int .i64 at_)) (hp : w.cell? ⟨b, off + at2, none⟩ = some (.int .i64 at_)) (hb : b < w.heap.size)
    (hz1 : w.frozen? ⟨g, lo + n * 2 + 1, none⟩ = false) (hz2 : w.frozen? ⟨m, 12, none⟩ = false) (hz3 : w.frozen? ⟨m, 15, none⟩ = false) (hgm : ¬ g = m) (hgm2 : ¬ m = g) (hl2 : 2 ≤ l) (hl3 : l < 4294967296) (s f : Int)
    (hs : w.cell? ⟨m, 14, none⟩ = some (.int .i64 s)) (hf : w.cell? ⟨m, 9, none⟩ = some (.int .i64 f)) (hzs : w.frozen? ⟨m, 14, none⟩ = false) (hs0 : 0 ≤ s) (hf2 : f ≤ 281474976710656) (hsf : s < f) :
    Calls Try.prog 107 #[.pointer (some ⟨m, 0, none⟩), .agg #[.int .i64 op, .int .i64 to, .int .i64 a, .int .i64 bb, .int .u32 arg]] w fun e w' => e = .returned (.tuple #[]) ∧
      Below w.heap.size (((w.setCell ⟨g, lo + n * 2 + 1, none⟩ (.int .u32 (l - 1))).setCell ⟨m, 15, none⟩ (.int .i64 at2)).setCell ⟨m, 14, none⟩ (.int .i64 (s + 1))) w' := by
  have h0 := nat_cast_lt h2
  unfold maxLen at hlc2
  have hw : IntKind.i64.wrap (n : Int) = (n : Int) := IntWalk.i64_in _ (by omega)
  have hw2 : (0 : Int) ≤ (n : Int) ∧ (n : Int) < (n : Int) + 1 := by omega
  have hw4 : ¬ (lc : Int) < (n : Int) := by omega
  have hw3 : (n : Int) ≤ (lc : Int) := by omega
  have hlt : l - 1 < 4294967296 := by omega
  go_enter Try.func107, Try.ntmps107
  go_wp2
  refine wp_region_grew [3, 7] [0, 1, 2, 4, 5, 6, 8, 9, 10, 11] [(2, 0), (2, 1), (2, 2), (2, 4), (2, 5), (2, 6), (1, 3), (1, 7), (2, 8), (2, 9), (2, 10), (2, 11)] (by kernel_rfl) (by kernel_rfl) (fun c a d v w h => by cases d <;> exact h) ?_
  simp only [getPlan, List.filterMap_cons, List.filterMap_nil, List.getElem?_toArray, List.getElem?_cons_succ, List.getElem?_cons_zero, Option.map_some]
  repeat ((first | refine wpPlan_pure (fun K hK => ?_) | refine wpPlan_float (fun K hK => ?_)); go_simp; refine hK _ ?_; clear hK K)
  refine wpPlan_nil ?_
  go_wp2
  refine wp_region_grew [3, 7, 9, 13] [0, 1, 2, 4, 5, 6, 10, 11, 12, 8, 14] [(2, 0), (2, 1), (2, 2), (2, 4), (2, 5), (2, 6), (2, 10), (2, 11), (2, 12), (1, 3), (1, 7), (2, 8), (1, 9), (1, 13), (2, 14)] (by kernel_rfl) (by kernel_rfl) (fun c a d v w h => by cases d <;> exact h) ?_
  simp only [getPlan, List.filterMap_cons, List.filterMap_nil, List.getElem?_toArray, List.getElem?_cons_succ, List.getElem?_cons_zero, Option.map_some]
  repeat ((first | refine wpPlan_pure (fun K hK => ?_) | refine wpPlan_float (fun K hK => ?_)); go_simp; refine hK _ ?_; clear hK K)
  refine wpPlan_nil ?_
  go_wp2_with (go_at_call 87; refine (step_yes m s f _ (by simp [go_sem, hs, hmm]) (by simp [go_sem, hf, hmm]) (by simp [go_sem, hzs, hmm]) (by omega) hs0 hf2).mono ?_; rintro e w' ⟨rfl, k, rfl⟩)
  go_end0
  refine ⟨rfl, below_drewN ((Below.refl _ _).alloc ?_ _) _⟩
  simp
set_option maxRecDepth 100000 in
set_option maxHeartbeats 1000000 in
theorem m_end_steps (m n g lo lc b off len cap : Nat) (at_ at2 : Nat) (l : Int) (op to a bb arg : Int) (w : World)
    (hl : w.cell? ⟨m, 12, none⟩ = some (.slice (some ⟨g, lo, none⟩) (n + 1) lc)) (hn : n < 65536) (hlc : n + 1 ≤ lc) (hlc2 : lc ≤ maxLen) (hmm : m < w.heap.size) (hg : g < w.heap.size)
    (hfa : w.cell? ⟨g, lo + n * 2, none⟩ = some (.int .i64 at2)) (hfl : w.cell? ⟨g, lo + n * 2 + 1, none⟩ = some (.int .u32 l)) (h2 : at2 < len)
    (hm : w.cell? ⟨m, 4, none⟩ = some (.slice (some ⟨b, off, none⟩) len cap)) (ha : w.cell? ⟨m, 15, none⟩ = some (.int .i64 at_)) (hp : w.cell? ⟨b, off + at2, none⟩ = some (.int .i64 at_)) (hb : b < w.heap.size)
    (hz1 : w.frozen? ⟨g, lo + n * 2 + 1, none⟩ = false) (hz2 : w.frozen? ⟨m, 12, none⟩ = false) (hz3 : w.frozen? ⟨m, 15, none⟩ = false) (hgm : ¬ g = m) (hgm2 : ¬ m = g) (hl2 : 2 ≤ l) (hl3 : l < 4294967296) (s f : Int)
    (hs : w.cell? ⟨m, 14, none⟩ = some (.int .i64 s)) (hf : w.cell? ⟨m, 9, none⟩ = some (.int .i64 f)) (hzs : w.frozen? ⟨m, 14, none⟩ = false) (hs0 : 0 ≤ s) (hf2 : f ≤ 281474976710656) (hsf : ¬ s < f) :
    Calls Try.prog 107 #[.pointer (some ⟨m, 0, none⟩), .agg #[.int .i64 op, .int .i64 to, .int .i64 a, .int .i64 bb, .int .u32 arg]] w fun e w' => e = .panicked (failed 19) ∧ Below w.heap.size ((w.setCell ⟨g, lo + n * 2 + 1, none⟩ (.int .u32 (l - 1))).setCell ⟨m, 15, none⟩ (.int .i64 at2)) w' := by
  have h0 := nat_cast_lt h2
  unfold maxLen at hlc2
  have hw : IntKind.i64.wrap (n : Int) = (n : Int) := IntWalk.i64_in _ (by omega)
  have hw2 : (0 : Int) ≤ (n : Int) ∧ (n : Int) < (n : Int) + 1 := by omega
  have hw4 : ¬ (lc : Int) < (n : Int) := by omega
  have hw3 : (n : Int) ≤ (lc : Int) := by omega
  have hlt : l - 1 < 4294967296 := by omega
  go_enter Try.func107, Try.ntmps107
  go_wp2
  refine wp_region_grew [3, 7] [0, 1, 2, 4, 5, 6, 8, 9, 10, 11] [(2, 0), (2, 1), (2, 2), (2, 4), (2, 5), (2, 6), (1, 3), (1, 7), (2, 8), (2, 9), (2, 10), (2, 11)] (by kernel_rfl) (by kernel_rfl) (fun c a d v w h => by cases d <;> exact h) ?_
  simp only [getPlan, List.filterMap_cons, List.filterMap_nil, List.getElem?_toArray, List.getElem?_cons_succ, List.getElem?_cons_zero, Option.map_some]
  repeat ((first | refine wpPlan_pure (fun K hK => ?_) | refine wpPlan_float (fun K hK => ?_)); go_simp; refine hK _ ?_; clear hK K)
  refine wpPlan_nil ?_
  go_wp2
  refine wp_region_grew [3, 7, 9, 13] [0, 1, 2, 4, 5, 6, 10, 11, 12, 8, 14] [(2, 0), (2, 1), (2, 2), (2, 4), (2, 5), (2, 6), (2, 10), (2, 11), (2, 12), (1, 3), (1, 7), (2, 8), (1, 9), (1, 13), (2, 14)] (by kernel_rfl) (by kernel_rfl) (fun c a d v w h => by cases d <;> exact h) ?_
  simp only [getPlan, List.filterMap_cons, List.filterMap_nil, List.getElem?_toArray, List.getElem?_cons_succ, List.getElem?_cons_zero, Option.map_some]
  repeat ((first | refine wpPlan_pure (fun K hK => ?_) | refine wpPlan_float (fun K hK => ?_)); go_simp; refine hK _ ?_; clear hK K)
  refine wpPlan_nil ?_
  go_wp2_with (go_at_call 87; refine (step_no m s f _ (by simp [go_sem, hs, hmm]) (by simp [go_sem, hf, hmm]) (by omega)).mono ?_; rintro e w' ⟨rfl, k, rfl⟩)
  refine ⟨rfl, rfl, below_drewN ((Below.refl _ _).alloc ?_ _) _⟩
  simp
end Go.Proofs.Ytefdnjhhaejgbaa
