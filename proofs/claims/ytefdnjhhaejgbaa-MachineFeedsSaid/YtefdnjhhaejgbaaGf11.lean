/- A part of the proof of MachineFeeds: I J. No condition. -/
import Derived.Defers
import Derived.Recover
import Derived.Test.YtefdnjhhaejgbaaGf10
set_option linter.unusedSimpArgs false
set_option linter.unusedVariables false
namespace Go.Proofs.Ytefdnjhhaejgbaa
open Go.RowKit
set_option linter.unusedVariables false
theorem neq_nil_nil (w : World) : (binOp .neq 20 .nilIface .nilIface).run Try.prog w = .ok (.bool false) w := by kernel_rfl
theorem neq_held_nil (n : Int) (w : World) : (binOp .neq 20 (.iface 121 (.agg #[.int .i64 n])) .nilIface).run Try.prog w = .ok (.bool true) w := by kernel_rfl
theorem assert_failure (n : Int) (w : World) : (Instr.typeAssert (.iface 121 (.agg #[.int .i64 n])) 20 121 true).run Try.prog w = .ok (.tuple #[.agg #[.int .i64 n], .bool true]) w := by kernel_rfl
theorem tmps_catch (p q x : Value) : #[p, q] ++ ((Array.replicate 18 undef).setIfInBounds 4 x).setIfInBounds 0 x =
    #[p, q, x, undef, undef, undef, x, undef, undef, undef, undef, undef, undef, undef, undef, undef, undef, undef, undef, undef] := by kernel_rfl
set_option maxRecDepth 100000 in
set_option maxHeartbeats 1000000 in
theorem catch_idle (ob eb : Nat) (w : World) :
    CallsD Try.prog 85 #[.pointer (some ⟨ob, 0, none⟩), .pointer (some ⟨eb, 0, none⟩)] .returning w fun e u' w' => e = .returned (.tuple #[]) ∧ u' = .returning ∧ w' = w := by
  refine callsD_of_wpS Try.func85 rfl fun c₀ cs hu => ?_
  apply wpS_seq
  apply wpS_region
  simp [wpOpsS, go_sem, recoverD, hu, Try.ntmps85, Exit.thenS]
  refine wpS_of_wp ?_
  rw [tmps_catch]
  have hq := neq_nil_nil
  go_wp2
  cases c₀
  simp_all [bodyPostS, results, Try.results85]
def zeroRun : List Value := [.slice none 0 0, .slice none 0 0, .slice none 0 0, .int .i64 0]
theorem zeroRun_set : (((zeroRun.set 0 (.slice none 0 0)).set 1 (.slice none 0 0)).set 2 (.slice none 0 0)).set 3 (.int .i64 0) = zeroRun := rfl
theorem drew_heap (w : World) : w.drew.heap = w.heap := rfl
theorem Blk.drew {w : World} {b : Nat} {cs : List Value} {t : TypeId} (h : Blk w b cs t) : Blk w.drew b cs t := h
def CatchCls (s : Nat) (n : Int) (x : World) : Prop :=
  x.cell? ⟨s, 0, none⟩ = some (.int .i64 n) ∧ x.cell? ⟨s + 1, 0, none⟩ = some (.slice none 0 0) ∧ x.cell? ⟨s + 1, 0 + 1, none⟩ = some (.slice none 0 0) ∧ x.cell? ⟨s + 1, 0 + 1 + 1, none⟩ = some (.slice none 0 0) ∧ x.cell? ⟨s + 1, 0 + 1 + 1 + 1, none⟩ = some (.int .i64 0)
theorem CatchCls.set {s : Nat} {n : Int} {x : World} (h : CatchCls s n x) {ob : Nat} (ho : ob < s) (j : Nat) (v : Value) : CatchCls s n (x.setCell ⟨ob, j, none⟩ v) := by
  have e1 : ∀ i, (x.setCell ⟨ob, j, none⟩ v).cell? ⟨s, i, none⟩ = x.cell? ⟨s, i, none⟩ := fun i => World.cell?_of_block (Below.heap_setCell _ _ _ _ (by show s ≠ ob; omega))
  have e2 : ∀ i, (x.setCell ⟨ob, j, none⟩ v).cell? ⟨s + 1, i, none⟩ = x.cell? ⟨s + 1, i, none⟩ := fun i => World.cell?_of_block (Below.heap_setCell _ _ _ _ (by show s + 1 ≠ ob; omega))
  exact ⟨by rw [e1]; exact h.1, by rw [e2]; exact h.2.1, by rw [e2]; exact h.2.2.1, by rw [e2]; exact h.2.2.2.1, by rw [e2]; exact h.2.2.2.2⟩
set_option maxRecDepth 100000 in
set_option maxHeartbeats 2000000 in
theorem catch_panicking (ob eb : Nat) (n x : Int) (older : List PanicEntry) (w : World) (ho : Blk w ob zeroRun 49) (he : Blk w eb [.int .i64 x] 32) (hne : ¬ ob = eb) (hne2 : ¬ eb = ob) :
    CallsD Try.prog 85 #[.pointer (some ⟨ob, 0, none⟩), .pointer (some ⟨eb, 0, none⟩)] (.panicking ({ v := .iface 121 (.agg #[.int .i64 n]), recovered := false } :: older)) w fun e u' w' =>
      e = .returned (.tuple #[]) ∧ u' = .panicking ({ v := .iface 121 (.agg #[.int .i64 n]), recovered := true } :: older) ∧
        Blk w' ob zeroRun 49 ∧ Blk w' eb [.int .i64 n] 32 ∧ (∀ k, k < w.heap.size → k ≠ ob → k ≠ eb → w'.heap[k]? = w.heap[k]?) ∧ w'.os = w.os ∧ w'.tape = w.tape ∧ w'.output = w.output ∧ w.heap.size ≤ w'.heap.size := by
  have hq := neq_held_nil n
  have hta := assert_failure n
  have hol := ho.lt
  have hel := he.lt
  refine callsD_of_wpS Try.func85 rfl fun c₀ cs hu => ?_
  apply wpS_seq
  apply wpS_region
  simp [wpOpsS, go_sem, recoverD, hu, Try.ntmps85, Exit.thenS]
  refine wpS_of_wp ?_
  rw [tmps_catch]
  go_wp2
  refine wp_gen (fun w1 => Below w.heap.size w w1 ∧ w.heap.size < w1.heap.size ∧ w.heap.size + 1 < w1.heap.size ∧ w1.cell? ⟨w.heap.size, 0, none⟩ = some (.int .i64 n) ∧ Blk w1 (w.heap.size + 1) zeroRun 49) ?_ ?_
  · refine ⟨((Below.refl _ _).alloc (by simp) _).alloc (by simp) _, by simp; omega, by simp, by simp [go_sem], heap_new2 _ _ _⟩
  rintro w1 ⟨hb1, hs1, hs2, x0, hz⟩
  have y0 : w1.cell? ⟨w.heap.size + 1, 0, none⟩ = some (.slice none 0 0) := hz.cell 0
  have y1 : w1.cell? ⟨w.heap.size + 1, 0 + 1, none⟩ = some (.slice none 0 0) := hz.cell 1
  have y2 : w1.cell? ⟨w.heap.size + 1, 0 + 1 + 1, none⟩ = some (.slice none 0 0) := hz.cell 2
  have y3 : w1.cell? ⟨w.heap.size + 1, 0 + 1 + 1 + 1, none⟩ = some (.int .i64 0) := hz.cell 3
  have ho1 := ho.below hb1 hol
  have he1 := he.below hb1 hel
  have z0 : w1.cell? ⟨ob, 0, none⟩ = some (.slice none 0 0) := ho1.cell 0
  have z1 : w1.cell? ⟨ob, 0 + 1, none⟩ = some (.slice none 0 0) := ho1.cell 1
  have z2 : w1.cell? ⟨ob, 0 + 1 + 1, none⟩ = some (.slice none 0 0) := ho1.cell 2
  have z3 : w1.cell? ⟨ob, 0 + 1 + 1 + 1, none⟩ = some (.int .i64 0) := ho1.cell 3
  have f0 := ho1.frozen 0
  have f1 := ho1.frozen (0 + 1)
  have f2 := ho1.frozen (0 + 1 + 1)
  have f3 := ho1.frozen (0 + 1 + 1 + 1)
  have ze : w1.cell? ⟨eb, 0, none⟩ = some (.int .i64 x) := he1.cell 0
  have fe := he1.frozen 0
  have hcls : CatchCls w.heap.size n w1 := ⟨x0, y0, y1, y2, y3⟩
  have _inst : Nonempty (CWorld (CatchCls w.heap.size n)) := ⟨⟨w1, hcls⟩⟩
  have p0 : ∀ p : CWorld (CatchCls w.heap.size n), p.w.cell? ⟨w.heap.size, 0, none⟩ = some (.int .i64 n) := fun p => p.h.1
  have p1 : ∀ p : CWorld (CatchCls w.heap.size n), p.w.cell? ⟨w.heap.size + 1, 0, none⟩ = some (.slice none 0 0) := fun p => p.h.2.1
  have p2 : ∀ p : CWorld (CatchCls w.heap.size n), p.w.cell? ⟨w.heap.size + 1, 0 + 1, none⟩ = some (.slice none 0 0) := fun p => p.h.2.2.1
  have p3 : ∀ p : CWorld (CatchCls w.heap.size n), p.w.cell? ⟨w.heap.size + 1, 0 + 1 + 1, none⟩ = some (.slice none 0 0) := fun p => p.h.2.2.2.1
  have p4 : ∀ p : CWorld (CatchCls w.heap.size n), p.w.cell? ⟨w.heap.size + 1, 0 + 1 + 1 + 1, none⟩ = some (.int .i64 0) := fun p => p.h.2.2.2.2
  refine wp_region_mix (Cls (CatchCls w.heap.size n)) [0, 2] [1] [(2, 1), (1, 0), (1, 2), (0, 3), (0, 4)] (by kernel_rfl) (by kernel_rfl) (fun c a d v w h => by cases d <;> exact h) ⟨⟨w1.drew, hcls⟩, rfl⟩ ?_
  simp only [getPlan, List.filterMap_cons, List.filterMap_nil, List.getElem?_toArray, List.getElem?_cons_succ, List.getElem?_cons_zero, Option.map_some]
  repeat ((first | refine wpPlan_pure (fun K hK => ?_) | refine wpPlan_float (fun K hK => ?_)); go_simp; refine hK _ ?_; clear hK K)
  clear p0 p1 p2 p3 p4
  refine wpPlan_keep ?_
  go_wp2_with fail
  refine ⟨⟨CWorld.mk _ ?_, rfl⟩, ?_⟩
  · exact (((hcls.set hol 0 _).set hol 1 _).set hol 2 _).set hol 3 _
  refine wpPlan_tail (by kernel_rfl) ?_
  simp only [List.map_cons, List.map_nil]
  go_wp2
  have b1 := ((((ho1.set 0 (.slice none 0 0)).set 1 (.slice none 0 0)).set 2 (.slice none 0 0)).set 3 (.int .i64 0)).other (a := ⟨eb, 0, none⟩) hne (.int .i64 n)
  have b2 := ((((he1.other (a := ⟨ob, 0, none⟩) hne2 (.slice none 0 0)).other (a := ⟨ob, 1, none⟩) hne2 (.slice none 0 0)).other (a := ⟨ob, 2, none⟩) hne2 (.slice none 0 0)).other (a := ⟨ob, 3, none⟩) hne2 (.int .i64 0)).set 0 (.int .i64 n)
  have b3 : ∀ k, k < w.heap.size → k ≠ ob → k ≠ eb → (((((w1.setCell ⟨ob, 0, none⟩ (.slice none 0 0)).setCell ⟨ob, 1, none⟩ (.slice none 0 0)).setCell ⟨ob, 2, none⟩ (.slice none 0 0)).setCell ⟨ob, 3, none⟩ (.int .i64 0)).setCell ⟨eb, 0, none⟩ (.int .i64 n)).heap[k]? = w.heap[k]? := by
    intro k hk h1 h2
    rw [Below.heap_setCell _ _ _ _ h2, Below.heap_setCell _ _ _ _ h1, Below.heap_setCell _ _ _ _ h1, Below.heap_setCell _ _ _ _ h1, Below.heap_setCell _ _ _ _ h1, hb1.block k hk]
  cases c₀
  simp only at hu
  subst hu
  simp only [bodyPostS]
  refine ⟨trivial, _, rfl, ?_⟩
  refine ⟨_, results_none rfl _ _ _, ?_⟩
  refine ⟨rfl, rfl, ?_⟩
  refine ⟨?_, ?_, ?_, ?_, ?_, ?_, ?_⟩
  · have h1 := b1
    rw [zeroRun_set] at h1
    exact h1.drew
  · have h2 := b2
    simp only [List.set_cons_zero] at h2
    exact h2.drew
  · intro k hk h1 h2
    rw [drew_heap]
    exact b3 k hk h1 h2
  · exact hb1.os
  · exact hb1.tape
  · exact hb1.output
  · rw [drew_heap]
    have h3 := hb1.size
    simpa [World.setCell] using h3
end Go.Proofs.Ytefdnjhhaejgbaa

namespace Go.Proofs.Ytefdnjhhaejgbaa
open Go.RowKit
set_option linter.unusedVariables false
def GuardPost (B : Nat) (L : Lay) (c : MC) (τ0 : Nat → Nat) (w : World) (r : Except Int PS) (e : Ending) (w' : World) : Prop :=
  Below B w w' ∧ Foreign τ0 w w' ∧
  match r with
  | .ok s => ∃ τ lv ov, Rep B L c s τ lv ov w' ∧ (∀ k, k < w.heap.size → 1000 ≤ τ0 k → τ k = τ0 k) ∧ e = .returned (.tuple #[.agg #[.slice L.arrA s.arr.length L.arrC, .slice (some ⟨L.cb, 0, none⟩) s.ctx.length L.ccap, ov, .int .i64 s.steps], .int .i64 0])
  | .error n => e = .returned (.tuple #[.agg #[.slice none 0 0, .slice none 0 0, .slice none 0 0, .int .i64 0], .int .i64 n])
set_option maxRecDepth 100000 in
set_option maxHeartbeats 1000000 in
theorem guarded_ok {B : Nat} {L : Lay} {c : MC} {s0 s : PS} {τ0 : Nat → Nat} {lv0 ov0 : Value} {w : World} (R0 : Rep B L c s0 τ0 lv0 ov0 w) (hn : ∀ s' : PS, s'.arr.length = s.arr.length → s'.arr.length ≤ 900)
    (hrun : ∀ τ1 w1, Rep B L c s0 τ1 lv0 ov0 w1 → Calls Try.prog 54 #[.pointer (some ⟨L.mb, 0, none⟩)] w1 (RunPost B L c τ1 w1 (.ok s))) :
    Calls Try.prog 53 #[.func (.func 54) #[.pointer (some ⟨L.mb, 0, none⟩)] #[]] w (GuardPost B L c τ0 w (.ok s)) := by
  have hmf : ∀ (fn : Fn) (first cap : Array Value) (w : World), (Instr.makeFunc fn first cap).run Try.prog w = .ok (.func fn first cap) w := fun _ _ _ _ => rfl
  have hbw : Below w.heap.size w ((w.alloc (.cells #[.slice none 0 0, .slice none 0 0, .slice none 0 0, .int .i64 0] 49)).alloc (.cells #[.int .i64 0] 32)) := ((Below.refl _ _).alloc (by simp) _).alloc (by simp) _
  have R1 := R0.retag.below hbw
  have HR := Lib.hid R1
  have HRU := Lib.hid hrun
  have HB := Lib.hid hbw
  have HN := Lib.hid hn
  clear hrun R1 hbw hn
  go_enter_defers Try.func53, Try.ntmps53
  go_wp2_with fail
  refine (HRU.out _ _ HR.out).mono ?_
  rintro e w2 ⟨hb2, hf2, τ, lv, ov, R2, htg, rfl⟩
  have t1 : 1000 ≤ τ w.heap.size := by rw [htg w.heap.size (by simp; omega) (by simp)]; simp
  have t2 : 1000 ≤ τ (w.heap.size + 1) := by rw [htg (w.heap.size + 1) (by simp) (by simp)]; simp
  have HTG := Lib.hid htg
  clear htg
  obtain ⟨oa, oc, rfl⟩ : ∃ oa oc, ov = .slice oa s.out.length oc := by
    rcases R2.oown.2 with ⟨h1, h2⟩ | ⟨g, cc, cur, h1, _⟩
    · exact ⟨none, 0, by rw [h1, h2]⟩
    · exact ⟨_, cc, h1⟩
  have ho : Blk w2 w.heap.size zeroRun 49 := by
    unfold Blk
    rw [hf2 w.heap.size (by simp; omega) (by simp), Below.heap_alloc _ _ _ (by simp)]
    exact heap_new1 w _
  have he : Blk w2 (w.heap.size + 1) [.int .i64 0] 32 := by
    unfold Blk
    rw [hf2 (w.heap.size + 1) (by simp) (by simp)]
    exact heap_new2 w _ _
  have z0 : w2.cell? ⟨w.heap.size, 0, none⟩ = some (.slice none 0 0) := ho.cell 0
  have z1 : w2.cell? ⟨w.heap.size, 0 + 1, none⟩ = some (.slice none 0 0) := ho.cell 1
  have z2 : w2.cell? ⟨w.heap.size, 0 + 1 + 1, none⟩ = some (.slice none 0 0) := ho.cell 2
  have z3 : w2.cell? ⟨w.heap.size, 0 + 1 + 1 + 1, none⟩ = some (.int .i64 0) := ho.cell 3
  have f0 := ho.frozen 0
  have f1 := ho.frozen (0 + 1)
  have f2 := ho.frozen (0 + 1 + 1)
  have f3 := ho.frozen (0 + 1 + 1 + 1)
  have ze : w2.cell? ⟨w.heap.size + 1, 0, none⟩ = some (.int .i64 0) := he.cell 0
  have fe := he.frozen 0
  have HX := Lib.hid hb2
  have HY := Lib.hid hf2
  clear hb2 hf2
  go_wp2
  refine leaves_cons (f := 85) (args := #[.pointer (some ⟨w.heap.size, 0, none⟩), .pointer (some ⟨w.heap.size + 1, 0, none⟩)]) (by simp) (by simp [go_sem]) ?_
  refine (catch_idle w.heap.size (w.heap.size + 1) _).mono ?_
  rintro e u' w'' ⟨rfl, rfl, rfl⟩
  have hne : ¬ w.heap.size = w.heap.size + 1 := by omega
  have hne2 : ¬ w.heap.size + 1 = w.heap.size := by omega
  have e0 := ((((ho.set 0 (.slice L.arrA s.arr.length L.arrC)).set 1 (.slice (some ⟨L.cb, 0, none⟩) s.ctx.length L.ccap)).set 2 (.slice oa s.out.length oc)).set 3 (.int .i64 s.steps)).other (a := ⟨w.heap.size + 1, 0, none⟩) hne (.int .i64 0)
  have e1 := ((((he.other (a := ⟨w.heap.size, 0, none⟩) hne2 (.slice L.arrA s.arr.length L.arrC)).other (a := ⟨w.heap.size, 1, none⟩) hne2 (.slice (some ⟨L.cb, 0, none⟩) s.ctx.length L.ccap)).other (a := ⟨w.heap.size, 2, none⟩) hne2 (.slice oa s.out.length oc)).other (a := ⟨w.heap.size, 3, none⟩) hne2 (.int .i64 s.steps)).set 0 (.int .i64 0)
  have y0 := e0.cell 0
  have y1 := e0.cell 1
  have y2 := e0.cell 2
  have y3 := e0.cell 3
  have y4 := e1.cell 0
  simp only [zeroRun, List.set_cons_zero, List.set_cons_succ, List.getElem?_cons_zero, List.getElem?_cons_succ] at y0 y1 y2 y3 y4
  refine ⟨.tuple #[.agg #[.slice L.arrA s.arr.length L.arrC, .slice (some ⟨L.cb, 0, none⟩) s.ctx.length L.ccap, .slice oa s.out.length oc, .int .i64 s.steps], .int .i64 0], ?_, ?_⟩
  · simp [results, Try.results53, go_sem, y0, y1, y2, y3, y4]
  · have hn2 := HN.out s rfl
    have hB := R0.hB
    have r1 := ((((R2.foreign t1 hB hn2 0 (.slice L.arrA s.arr.length L.arrC)).foreign t1 hB hn2 1 (.slice (some ⟨L.cb, 0, none⟩) s.ctx.length L.ccap)).foreign t1 hB hn2 2 (.slice oa s.out.length oc)).foreign t1 hB hn2 3 (.int .i64 s.steps)).foreign t2 (Nat.le_succ_of_le hB) hn2 0 (.int .i64 0)
    have hbB : Below B w w2 := (HB.out.mono hB).trans HX.out
    refine ⟨((((hbB.setCell hB _).setCell hB _).setCell hB _).setCell hB _).setCell (Nat.le_succ_of_le hB) _, ?_, τ, lv, _, r1, ?_, rfl⟩
    rotate_left
    · intro k hk ht
      have := HTG.out k (by simp; omega) (by show 1000 ≤ (if _ then _ else _); rw [if_neg (by omega)]; exact ht)
      rw [this]; show (if _ then _ else _) = _; rw [if_neg (by omega)]
    intro k hk ht
    rw [Below.heap_setCell _ _ _ _ (by show k ≠ w.heap.size + 1; omega), Below.heap_setCell _ _ _ _ (by show k ≠ w.heap.size; omega), Below.heap_setCell _ _ _ _ (by show k ≠ w.heap.size; omega), Below.heap_setCell _ _ _ _ (by show k ≠ w.heap.size; omega), Below.heap_setCell _ _ _ _ (by show k ≠ w.heap.size; omega)]
    rw [HY.out k (by simp; omega) (by show 1000 ≤ (if _ then _ else _); rw [if_neg (by omega)]; exact ht), HB.out.block k hk]
set_option maxRecDepth 100000 in
set_option maxHeartbeats 1000000 in
theorem guarded_err {B : Nat} {L : Lay} {c : MC} {s0 : PS} {n : Int} {τ0 : Nat → Nat} {lv0 ov0 : Value} {w : World} (R0 : Rep B L c s0 τ0 lv0 ov0 w)
    (hrun : ∀ τ1 w1, Rep B L c s0 τ1 lv0 ov0 w1 → Calls Try.prog 54 #[.pointer (some ⟨L.mb, 0, none⟩)] w1 (RunPost B L c τ1 w1 (.error n))) :
    Calls Try.prog 53 #[.func (.func 54) #[.pointer (some ⟨L.mb, 0, none⟩)] #[]] w (GuardPost B L c τ0 w (.error n)) := by
  have hmf : ∀ (fn : Fn) (first cap : Array Value) (w : World), (Instr.makeFunc fn first cap).run Try.prog w = .ok (.func fn first cap) w := fun _ _ _ _ => rfl
  have hbw : Below w.heap.size w ((w.alloc (.cells #[.slice none 0 0, .slice none 0 0, .slice none 0 0, .int .i64 0] 49)).alloc (.cells #[.int .i64 0] 32)) := ((Below.refl _ _).alloc (by simp) _).alloc (by simp) _
  have R1 := R0.retag.below hbw
  have HR := Lib.hid R1
  have HRU := Lib.hid hrun
  have HB := Lib.hid hbw
  clear hrun R1 hbw
  go_enter_defers Try.func53, Try.ntmps53
  go_wp2_with fail
  refine (HRU.out _ _ HR.out).mono ?_
  rintro e w2 ⟨rfl, hb2, hf2⟩
  have ho : Blk w2 w.heap.size zeroRun 49 := by
    unfold Blk
    rw [hf2 w.heap.size (by simp; omega) (by simp), Below.heap_alloc _ _ _ (by simp)]
    exact heap_new1 w _
  have he : Blk w2 (w.heap.size + 1) [.int .i64 0] 32 := by
    unfold Blk
    rw [hf2 (w.heap.size + 1) (by simp) (by simp)]
    exact heap_new2 w _ _
  refine leaves_cons (f := 85) (args := #[.pointer (some ⟨w.heap.size, 0, none⟩), .pointer (some ⟨w.heap.size + 1, 0, none⟩)]) (by simp) (by simp [go_sem]) ?_
  refine (catch_panicking w.heap.size (w.heap.size + 1) n 0 [] w2 ho he (by omega) (by omega)).mono ?_
  rintro e u' w3 ⟨rfl, rfl, b1, b2, b3, ho3, ht3, hp3, hs3⟩
  have y0 := b1.cell 0
  have y1 := b1.cell 1
  have y2 := b1.cell 2
  have y3 := b1.cell 3
  have y4 := b2.cell 0
  simp only [zeroRun, List.getElem?_cons_zero, List.getElem?_cons_succ] at y0 y1 y2 y3 y4
  have hB := R0.hB
  have hl : w.heap.size + 2 ≤ w2.heap.size := by have := hb2.size; simp at this; omega
  have hfin : GuardPost B L c τ0 w (.error n) (.returned (.tuple #[.agg #[.slice none 0 0, .slice none 0 0, .slice none 0 0, .int .i64 0], .int .i64 n])) w3 := by
    refine ⟨⟨ho3.trans (hb2.os.trans HB.out.os), ht3.trans (hb2.tape.trans HB.out.tape), hp3.trans (hb2.output.trans HB.out.output), by omega, fun k hk => ?_⟩, fun k hk ht => ?_, rfl⟩
    · rw [b3 k (by omega) (by omega) (by omega), hb2.block k hk, HB.out.block k (by omega)]
    · rw [b3 k (by omega) (by omega) (by omega), hf2 k (by simp; omega) (by show 1000 ≤ (if _ then _ else _); rw [if_neg (by omega)]; exact ht), HB.out.block k hk]
  simp [Leaves, settle, results, Try.results53, go_sem, y0, y1, y2, y3, y4]
  exact hfin
end Go.Proofs.Ytefdnjhhaejgbaa
