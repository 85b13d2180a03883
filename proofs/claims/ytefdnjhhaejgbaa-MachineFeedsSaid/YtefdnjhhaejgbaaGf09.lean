/- A part of the proof of MachineFeeds: E F F2 G. No condition. -/
import Derived.Test.YtefdnjhhaejgbaaGf06
import Derived.Test.YtefdnjhhaejgbaaGf08
import Derived.Test.YtefdnjhhaejgbaaGf03
set_option linter.unusedSimpArgs false
set_option linter.unusedVariables false
namespace Go.Proofs.Ytefdnjhhaejgbaa
open Go.RowKit
set_option linter.unusedVariables false
theorem apply_ok (op a b : Int) (ha0 : 0 ≤ a) (ha1 : a < 4294967296) (hb0 : 0 ≤ b) (hb1 : b < 4294967296) (h : arithErr op b = 0) (w : World) :
    Calls Try.prog 23 #[.int .i64 op, .int .u32 a, .int .u32 b] w fun e w' => e = .returned (.tuple #[.int .u32 (arith op a b), .int .i64 0]) ∧ Below w.heap.size w w' := by
  unfold arithErr at h
  split at h
  · cases h
  rename_i h1
  split at h
  · cases h
  rename_i h2
  have hc : op = 8 ∨ op = 9 ∨ op = 10 ∨ op = 11 ∨ op = 12 ∨ op = 13 ∨ op = 14 ∨ op = 15 ∨ op = 16 ∨ op = 17 ∨ op = 18 ∨ op = 19 ∨ op = 20 ∨ op = 21 ∨ op = 22 ∨ op = 23 ∨ op = 24 ∨ op = 25 ∨ op = 26 := by omega
  rcases hc with rfl | rfl | rfl | rfl | rfl | rfl | rfl | rfl | rfl | rfl | rfl | rfl | rfl | rfl | rfl | rfl | rfl | rfl | rfl
  · exact apply_8 a b ha0 ha1 hb0 hb1 w
  · exact apply_9 a b ha0 ha1 hb0 hb1 w
  · exact apply_10 a b ha0 ha1 hb0 hb1 w
  · exact apply_11 a b ha0 ha1 hb0 hb1 (by omega) w
  · exact apply_12 a b ha0 ha1 hb0 hb1 (by omega) w
  · exact apply_13 a b ha0 ha1 hb0 hb1 w
  · exact apply_14 a b ha0 ha1 hb0 hb1 w
  · exact apply_15 a b ha0 ha1 hb0 hb1 w
  · exact apply_16 a b ha0 ha1 hb0 hb1 w
  · exact apply_17 a b ha0 ha1 hb0 hb1 w
  · exact apply_18 a b ha0 ha1 hb0 hb1 w
  · exact apply_19 a b ha0 ha1 hb0 hb1 w
  · exact apply_20 a b ha0 ha1 hb0 hb1 w
  · exact apply_21 a b ha0 ha1 hb0 hb1 w
  · exact apply_22 a b ha0 ha1 hb0 hb1 w
  · exact apply_23 a b ha0 ha1 hb0 hb1 w
  · exact apply_24 a b ha0 ha1 hb0 hb1 w
  · exact apply_25 a b ha0 ha1 hb0 hb1 w
  · exact apply_26 a b ha0 ha1 hb0 hb1 w
theorem apply_err (op a b : Int) (ha0 : 0 ≤ a) (ha1 : a < 4294967296) (hb0 : 0 ≤ b) (hb1 : b < 4294967296) (h : arithErr op b ≠ 0) (w : World) :
    Calls Try.prog 23 #[.int .i64 op, .int .u32 a, .int .u32 b] w fun e w' => e = .returned (.tuple #[.int .u32 0, .int .i64 (arithErr op b)]) ∧ Below w.heap.size w w' := by
  unfold arithErr at h ⊢
  by_cases h1 : op < 8 ∨ 26 < op
  · rw [if_pos h1]
    exact apply_none op a b h1 w
  · rw [if_neg h1] at h ⊢
    by_cases h2 : b = 0 ∧ (op = 11 ∨ op = 12)
    · rw [if_pos h2]
      obtain ⟨rfl, rfl | rfl⟩ := h2
      · exact apply_110 a w
      · exact apply_120 a w
    · rw [if_neg h2] at h; exact absurd rfl h
theorem eff_at (op : Int) : atInt op effEntries.toList =
    if op = 0 then some (.func (.func 93) #[] #[]) else if op = 36 then some (.func (.func 94) #[] #[]) else if op = 37 then some (.func (.func 95) #[] #[])
    else if op = 38 then some (.func (.func 96) #[] #[]) else if op = 32 then some (.func (.func 97) #[] #[]) else if op = 33 then some (.func (.func 98) #[] #[])
    else if op = 34 then some (.func (.func 99) #[] #[]) else if op = 35 then some (.func (.func 100) #[] #[]) else if op = 3 then some (.func (.func 101) #[] #[])
    else if op = 4 then some (.func (.func 102) #[] #[]) else if op = 27 then some (.func (.func 103) #[] #[]) else if op = 28 then some (.func (.func 104) #[] #[])
    else if op = 29 then some (.func (.func 105) #[] #[]) else if op = 30 then some (.func (.func 106) #[] #[]) else if op = 31 then some (.func (.func 107) #[] #[]) else none := by
  simp only [effEntries, atInt, keyInt]
set_option maxRecDepth 100000 in
set_option maxHeartbeats 1000000 in
theorem m_calc_ok (m b off len cap : Nat) (op a bb arg va vb : Int) (r : Nat) (w : World) (h : r < len) (x0 : Value) (hga : GetIs w m a va) (hgb : GetIs w m bb vb)
    (ha0 : 0 ≤ va) (ha1 : va < 4294967296) (hb0 : 0 ≤ vb) (hb1 : vb < 4294967296) (herr : arithErr op vb = 0)
    (hm : w.cell? ⟨m, 10, none⟩ = some (.slice (some ⟨b, off, none⟩) len cap))
    (hx : w.cell? ⟨b, off + r, none⟩ = some x0) (hz : w.frozen? ⟨b, off + r, none⟩ = false) (hb : b < w.heap.size) (hmm : m < w.heap.size) :
    Calls Try.prog 88 #[.pointer (some ⟨m, 0, none⟩), .agg #[.int .i64 op, .int .i64 r, .int .i64 a, .int .i64 bb, .int .u32 arg]] w fun e w' => e = .returned (.tuple #[]) ∧
      Below w.heap.size (w.setCell ⟨b, off + r, none⟩ (.int .u32 (arith op va vb))) w' := by
  have h0 := nat_cast_lt h
  have HE := Lib.hid herr
  clear herr
  go_enter Try.func88, Try.ntmps88
  go_wp2
  refine wp_region_grew [1, 4, 8] [0, 2, 3, 6, 7, 11, 12, 13, 14, 15] [(2, 0), (2, 2), (2, 3), (2, 6), (2, 7), (1, 1), (1, 4), (1, 8), (0, 5), (0, 9), (0, 10), (2, 11), (2, 12), (2, 13), (2, 14), (2, 15)] (by kernel_rfl) (by kernel_rfl) (fun c a d v w h => by cases d <;> exact h) ?_
  simp only [getPlan, List.filterMap_cons, List.filterMap_nil, List.getElem?_toArray, List.getElem?_cons_succ, List.getElem?_cons_zero, Option.map_some]
  repeat ((first | refine wpPlan_pure (fun K hK => ?_) | refine wpPlan_float (fun K hK => ?_)); go_simp; refine hK _ ?_; clear hK K)
  refine wpPlan_keep ?_
  go_wp2_with fail
  refine (hga _ (((Below.refl _ _).alloc (by simp) _).drew)).mono ?_
  rintro e w1 ⟨rfl, rfl⟩
  go_wp2_with fail
  refine ⟨grew_below (Below.refl _ _).drew, ?_⟩
  repeat ((first | refine wpPlan_pure (fun K hK => ?_) | refine wpPlan_float (fun K hK => ?_)); go_simp; refine hK _ ?_; clear hK K)
  refine wpPlan_keep ?_
  go_wp2_with fail
  refine (hgb _ (((Below.refl _ _).alloc (by simp) _).drew)).mono ?_
  rintro e w1 ⟨rfl, rfl⟩
  go_wp2_with fail
  refine ⟨grew_below (Below.refl _ _).drew, ?_⟩
  repeat ((first | refine wpPlan_pure (fun K hK => ?_) | refine wpPlan_float (fun K hK => ?_)); go_simp; refine hK _ ?_; clear hK K)
  refine wpPlan_keep ?_
  go_wp2_with fail
  refine (apply_ok op va vb ha0 ha1 hb0 hb1 HE.out _).mono ?_
  rintro e w1 ⟨rfl, hb1'⟩
  have hw1 : Below w.heap.size w w1 := ((Below.refl _ _).alloc (by simp) _).drew.trans (hb1'.mono (by simp))
  generalize hxx : arith op va vb = x at *
  have HX := Lib.hid hxx
  clear hxx
  go_wp2_with fail
  refine ⟨grew_below (below_undrew hb1'), ?_⟩
  repeat ((first | refine wpPlan_pure (fun K hK => ?_) | refine wpPlan_float (fun K hK => ?_)); go_simp; refine hK _ ?_; clear hK K)
  refine wpPlan_nil ?_
  have hmm1 : m < w1.heap.size := Nat.lt_of_lt_of_le hmm hw1.size
  have hb1 : b < w1.heap.size := Nat.lt_of_lt_of_le hb hw1.size
  have hbx : w.heap.size < w1.heap.size := by have := hb1'.size; simp at this; omega
  have c0 : w1.cell? ⟨w.heap.size, 1, none⟩ = some (.int .i64 r) := by rw [hb1'.cell (p := ⟨w.heap.size, 1, none⟩) (by simp)]; simp [go_sem]
  have c1 : w1.cell? ⟨m, 10, none⟩ = some (.slice (some ⟨b, off, none⟩) len cap) := by rw [hw1.cell (p := ⟨m, 10, none⟩) hmm]; exact hm
  have c3 : w1.cell? ⟨b, off + r, none⟩ = some x0 := by rw [hw1.cell (p := ⟨b, off + r, none⟩) hb]; exact hx
  have c4 : w1.frozen? ⟨b, off + r, none⟩ = false := by rw [hw1.frozen (p := ⟨b, off + r, none⟩) hb]; exact hz
  clear hb1' hga hgb hm hx hz
  go_wp2_with (go_at_call 108; refine (demand_yes _ _).mono ?_; rintro e w' ⟨rfl, rfl⟩)
  refine wp_region_grew [3, 5] [0, 1, 2, 4, 6, 7] [(2, 0), (2, 1), (2, 2), (2, 4), (2, 6), (1, 3), (1, 5), (2, 7), (0, 8)] (by kernel_rfl) (by kernel_rfl) (fun c a d v w h => by cases d <;> exact h) ?_
  simp only [getPlan, List.filterMap_cons, List.filterMap_nil, List.getElem?_toArray, List.getElem?_cons_succ, List.getElem?_cons_zero, Option.map_some]
  repeat ((first | refine wpPlan_pure (fun K hK => ?_) | refine wpPlan_float (fun K hK => ?_)); go_simp; refine hK _ ?_; clear hK K)
  refine wpPlan_tail (by kernel_rfl) ?_
  simp only [List.map_cons, List.map_nil]
  go_wp2
  go_end0
  rw [HX.out]
  exact ⟨rfl, (below_setCell_both hw1 _ _).drew⟩
set_option maxRecDepth 100000 in
set_option maxHeartbeats 1000000 in
theorem m_calc_err (m b off len cap : Nat) (op a bb arg va vb : Int) (r : Nat) (w : World) (h : r < len) (x0 : Value) (hga : GetIs w m a va) (hgb : GetIs w m bb vb)
    (ha0 : 0 ≤ va) (ha1 : va < 4294967296) (hb0 : 0 ≤ vb) (hb1 : vb < 4294967296) (herr : arithErr op vb ≠ 0)
    (hm : w.cell? ⟨m, 10, none⟩ = some (.slice (some ⟨b, off, none⟩) len cap))
    (hx : w.cell? ⟨b, off + r, none⟩ = some x0) (hz : w.frozen? ⟨b, off + r, none⟩ = false) (hb : b < w.heap.size) (hmm : m < w.heap.size) :
    Calls Try.prog 88 #[.pointer (some ⟨m, 0, none⟩), .agg #[.int .i64 op, .int .i64 r, .int .i64 a, .int .i64 bb, .int .u32 arg]] w fun e w' => e = .panicked (failed (arithErr op vb)) ∧ Below w.heap.size w w' := by
  have HE := Lib.hid herr
  clear herr
  go_enter Try.func88, Try.ntmps88
  go_wp2
  refine wp_region_grew [1, 4, 8] [0, 2, 3, 6, 7, 11, 12, 13, 14, 15] [(2, 0), (2, 2), (2, 3), (2, 6), (2, 7), (1, 1), (1, 4), (1, 8), (0, 5), (0, 9), (0, 10), (2, 11), (2, 12), (2, 13), (2, 14), (2, 15)] (by kernel_rfl) (by kernel_rfl) (fun c a d v w h => by cases d <;> exact h) ?_
  simp only [getPlan, List.filterMap_cons, List.filterMap_nil, List.getElem?_toArray, List.getElem?_cons_succ, List.getElem?_cons_zero, Option.map_some]
  repeat ((first | refine wpPlan_pure (fun K hK => ?_) | refine wpPlan_float (fun K hK => ?_)); go_simp; refine hK _ ?_; clear hK K)
  refine wpPlan_keep ?_
  go_wp2_with fail
  refine (hga _ (((Below.refl _ _).alloc (by simp) _).drew)).mono ?_
  rintro e w1 ⟨rfl, rfl⟩
  go_wp2_with fail
  refine ⟨grew_below (Below.refl _ _).drew, ?_⟩
  repeat ((first | refine wpPlan_pure (fun K hK => ?_) | refine wpPlan_float (fun K hK => ?_)); go_simp; refine hK _ ?_; clear hK K)
  refine wpPlan_keep ?_
  go_wp2_with fail
  refine (hgb _ (((Below.refl _ _).alloc (by simp) _).drew)).mono ?_
  rintro e w1 ⟨rfl, rfl⟩
  go_wp2_with fail
  refine ⟨grew_below (Below.refl _ _).drew, ?_⟩
  repeat ((first | refine wpPlan_pure (fun K hK => ?_) | refine wpPlan_float (fun K hK => ?_)); go_simp; refine hK _ ?_; clear hK K)
  refine wpPlan_keep ?_
  go_wp2_with fail
  refine (apply_err op va vb ha0 ha1 hb0 hb1 HE.out _).mono ?_
  rintro e w1 ⟨rfl, hb1'⟩
  have hw1 : Below w.heap.size w w1 := ((Below.refl _ _).alloc (by simp) _).drew.trans (hb1'.mono (by simp))
  have hne : (arithErr op vb == 0) = false := by have := HE.out; simpa using this
  clear HE
  generalize hxx : arithErr op vb = x at *
  have HX := Lib.hid hxx
  clear hxx
  go_wp2_with fail
  refine ⟨grew_below (below_undrew hb1'), ?_⟩
  repeat ((first | refine wpPlan_pure (fun K hK => ?_) | refine wpPlan_float (fun K hK => ?_)); go_simp; refine hK _ ?_; clear hK K)
  refine wpPlan_nil ?_
  go_wp2_with (go_at_call 108; refine (demand_no _ _).mono ?_; rintro e w' ⟨rfl, rfl⟩)
  exact ⟨rfl, by rw [HX.out], hw1⟩
end Go.Proofs.Ytefdnjhhaejgbaa

namespace Go.Proofs.Ytefdnjhhaejgbaa
open Go.RowKit
set_option linter.unusedVariables false
set_option linter.unusedSectionVars false
theorem u32s_getD {l : List Int} (h : u32s l) (i : Nat) : 0 ≤ l.getD i 0 ∧ l.getD i 0 < 4294967296 := by
  rw [List.getD_eq_getElem?_getD]
  cases hi : l[i]? with
  | none => simp
  | some x => exact h x (List.mem_of_getElem? hi)
theorem Fine.get {c : MC} {s : PS} (F : Fine c s) (r : Int) : 0 ≤ s.get r ∧ s.get r < 4294967296 := by
  unfold PS.get
  split
  · omega
  · exact u32s_getD F.r32 _
theorem Rep.getIs {B : Nat} {L : Lay} {c : MC} {s : PS} {τ : Nat → Nat} {lv ov : Value} {w : World} (R : Rep B L c s τ lv ov w) (F : Fine c s) (r : Int) (hr : r < 0 ∨ r < c.regs) : GetIs w L.mb r (s.get r) := by
  intro w' hb
  have R' := R.below hb
  unfold PS.get
  by_cases h0 : r < 0
  · rw [if_pos h0]
    exact get_neg _ r w' h0
  · rw [if_neg h0]
    obtain ⟨n, rfl⟩ := Int.eq_ofNat_of_zero_le (show 0 ≤ r by omega)
    have hn : n < s.regs.length := by have := F.regs; omega
    have := get_reg L.mb L.rb 0 s.regs.length s.regs.length n (s.regs.getD n 0) w' hn (by have := F.regs; have := F.rmax; omega) (R'.mac.cell 10) (by rw [R'.reg.cell, Nat.zero_add, ints_get hn])
    simpa using this
def Foreign (τ : Nat → Nat) (w w' : World) : Prop := ∀ k, k < w.heap.size → 1000 ≤ τ k → w'.heap[k]? = w.heap[k]?
theorem Foreign.refl (τ : Nat → Nat) (w : World) : Foreign τ w w := fun _ _ _ => rfl
theorem Foreign.setCell {τ : Nat → Nat} {w w' : World} (h : Foreign τ w w') {x : Nat} (hx : τ x < 1000) (j : Nat) (v : Value) : Foreign τ w (w'.setCell ⟨x, j, none⟩ v) := fun k hk ht => by
  rw [Below.heap_setCell _ _ _ _ (fun e => by simp at e; subst e; omega)]
  exact h k hk ht
theorem Foreign.below {τ : Nat → Nat} {w w1 w' : World} (h : Foreign τ w w1) (hb : Below w.heap.size w1 w') : Foreign τ w w' := fun k hk ht => by rw [hb.block k hk]; exact h k hk ht
theorem Foreign.of_below {τ : Nat → Nat} {w w' : World} (hb : Below w.heap.size w w') : Foreign τ w w' := fun k hk _ => hb.block k hk
theorem Foreign.grown {τ : Nat → Nat} {w w1 : World} {row : Option Nat} (hg : w.grownBy w1 row) (hr : ∀ g, row = some g → τ g < 1000) : Foreign τ w w1 := fun k hk ht =>
  hg.block k hk (fun e => by have := hr k e.symm; omega)
theorem grow_tag {τ : Nat → Nat} {w : World} {g n : Nat} {row : Option Nat} (hat : row = some g ∨ w.heap.size ≤ g) (hr : ∀ g, row = some g → τ g < 1000) (k : Nat) (hk : k < w.heap.size) (ht : 1000 ≤ τ k) : (if k = g then n else τ k) = τ k := by
  have : k ≠ g := fun e => by
    subst e
    rcases hat with hat | hat
    · have := hr k hat; omega
    · omega
  simp [this]
def EffPost (B : Nat) (L : Lay) (c : MC) (τ : Nat → Nat) (w : World) (r : Except Int PS) (e : Ending) (w' : World) : Prop :=
  match r with
  | .ok s' => e = .returned (.tuple #[]) ∧ Below B w w' ∧ Foreign τ w w' ∧ ∃ τ' lv ov, Rep B L c s' τ' lv ov w' ∧ ∀ k, k < w.heap.size → 1000 ≤ τ k → τ' k = τ k
  | .error n => e = .panicked (failed n) ∧ Below B w w' ∧ Foreign τ w w'
section
variable {B : Nat} {L : Lay} {c : MC} {s : PS} {τ : Nat → Nat} {lv ov : Value} {w : World} (R : Rep B L c s τ lv ov w) (F : Fine c s)
include R F
theorem eff_reg {r : Nat} (hr : r < s.regs.length) (v : Int) {w' : World} (hb : Below w.heap.size (w.setCell ⟨L.rb, 0 + r, none⟩ (.int .u32 v)) w') :
    EffPost B L c τ w (.ok (s.put r v)) (.returned (.tuple #[])) w' := by
  refine ⟨rfl, ((Below.refl _ _).setCell R.br _).trans (hb.mono R.hB), (((Foreign.refl _ _).setCell (x := L.rb) (by rw [R.tr]; omega) _ _).below hb), τ, lv, ov, ?_, fun _ _ _ => rfl⟩
  have := (R.setReg hr v).below (w' := w') (by simpa [World.setCell] using hb)
  simpa [PS.put] using this
theorem eff_push (i : RI) (hto : 0 ≤ i.to ∧ i.to < c.regs) : Calls Try.prog 93 #[.pointer (some ⟨L.mb, 0, none⟩), i.val] w (EffPost B L c τ w (.ok (s.put i.to i.arg))) := by
  obtain ⟨op, to, a, bb, arg⟩ := i
  obtain ⟨r, rfl⟩ := Int.eq_ofNat_of_zero_le hto.1
  have hr : r < s.regs.length := by have := F.regs; have := hto.2; simp at this; omega
  refine (m_push L.mb L.rb 0 s.regs.length s.regs.length op a bb arg r w hr _ (R.mac.cell 10) (by rw [R.reg.cell, Nat.zero_add, ints_get hr]) (R.reg.frozen _) R.reg.lt R.mac.lt).mono ?_
  rintro e w' ⟨rfl, hb⟩
  exact eff_reg R F hr arg hb
theorem eff_move (i : RI) (hto : 0 ≤ i.to ∧ i.to < c.regs) (ha : i.a < 0 ∨ i.a < c.regs) : Calls Try.prog 94 #[.pointer (some ⟨L.mb, 0, none⟩), i.val] w (EffPost B L c τ w (.ok (s.put i.to (s.get i.a)))) := by
  obtain ⟨op, to, a, bb, arg⟩ := i
  obtain ⟨r, rfl⟩ := Int.eq_ofNat_of_zero_le hto.1
  have hr : r < s.regs.length := by have := F.regs; have := hto.2; simp at this; omega
  refine (m_move L.mb L.rb 0 s.regs.length s.regs.length op a bb arg r w hr _ (s.get a) (R.mac.cell 10) (R.getIs F a ha) (by rw [R.reg.cell, Nat.zero_add, ints_get hr]) (R.reg.frozen _) R.reg.lt R.mac.lt).mono ?_
  rintro e w' ⟨rfl, hb⟩
  exact eff_reg R F hr _ hb
theorem eff_calc (i : RI) (hto : 0 ≤ i.to ∧ i.to < c.regs) (ha : i.a < 0 ∨ i.a < c.regs) (hb : i.b < 0 ∨ i.b < c.regs) : Calls Try.prog 88 #[.pointer (some ⟨L.mb, 0, none⟩), i.val] w
    (EffPost B L c τ w (if arithErr i.op (s.get i.b) = 0 then .ok (s.put i.to (arith i.op (s.get i.a) (s.get i.b))) else .error (arithErr i.op (s.get i.b)))) := by
  obtain ⟨op, to, a, bb, arg⟩ := i
  obtain ⟨r, rfl⟩ := Int.eq_ofNat_of_zero_le hto.1
  have hr : r < s.regs.length := by have := F.regs; have := hto.2; simp at this; omega
  have ga := F.get a
  have gb := F.get bb
  by_cases he : arithErr op (s.get bb) = 0
  · simp only [he, if_true]
    refine (m_calc_ok L.mb L.rb 0 s.regs.length s.regs.length op a bb arg (s.get a) (s.get bb) r w hr _ (R.getIs F a ha) (R.getIs F bb hb) ga.1 ga.2 gb.1 gb.2 he (R.mac.cell 10) (by rw [R.reg.cell, Nat.zero_add, ints_get hr]) (R.reg.frozen _) R.reg.lt R.mac.lt).mono ?_
    rintro e w' ⟨rfl, hb⟩
    exact eff_reg R F hr _ hb
  · simp only [he, if_false]
    refine (m_calc_err L.mb L.rb 0 s.regs.length s.regs.length op a bb arg (s.get a) (s.get bb) r w hr _ (R.getIs F a ha) (R.getIs F bb hb) ga.1 ga.2 gb.1 gb.2 he (R.mac.cell 10) (by rw [R.reg.cell, Nat.zero_add, ints_get hr]) (R.reg.frozen _) R.reg.lt R.mac.lt).mono ?_
    rintro e w' ⟨rfl, hb⟩
    exact ⟨rfl, hb.mono R.hB, Foreign.of_below hb⟩
theorem eff_save (i : RI) (harg : 0 ≤ i.arg ∧ i.arg < c.spills) (ha : i.a < 0 ∨ i.a < c.regs) : Calls Try.prog 95 #[.pointer (some ⟨L.mb, 0, none⟩), i.val] w
    (EffPost B L c τ w (.ok { s with spl := s.spl.set i.arg.toNat (s.get i.a) })) := by
  obtain ⟨op, to, a, bb, arg⟩ := i
  obtain ⟨r, rfl⟩ := Int.eq_ofNat_of_zero_le harg.1
  have hr : r < s.spl.length := by have := F.spl; have := harg.2; simp at this; omega
  refine (m_save L.mb L.sb 0 s.spl.length s.spl.length op to a bb r w hr _ (s.get a) (R.mac.cell 11) (R.getIs F a ha) (by rw [R.spl.cell, Nat.zero_add, ints_get hr]) (R.spl.frozen _) R.spl.lt R.mac.lt).mono ?_
  rintro e w' ⟨rfl, hb⟩
  refine ⟨rfl, ((Below.refl _ _).setCell R.bs _).trans (hb.mono R.hB), (((Foreign.refl _ _).setCell (x := L.sb) (by rw [R.ts]; omega) _ _).below hb), τ, lv, ov, ?_, fun _ _ _ => rfl⟩
  have := (R.setSpl hr (s.get a)).below (w' := w') (by simpa [World.setCell] using hb)
  simpa using this
theorem eff_context (i : RI) (harg : 0 ≤ i.arg ∧ i.arg < 16) (ha : i.a < 0 ∨ i.a < c.regs) : Calls Try.prog 100 #[.pointer (some ⟨L.mb, 0, none⟩), i.val] w
    (EffPost B L c τ w (.ok { s with ctx := s.ctx.set i.arg.toNat (s.get i.a) })) := by
  obtain ⟨op, to, a, bb, arg⟩ := i
  obtain ⟨r, rfl⟩ := Int.eq_ofNat_of_zero_le harg.1
  have hr : r < s.ctx.length := by have := F.ctx; have := harg.2; simp at this; omega
  obtain ⟨t, ht⟩ := R.ctx
  refine (m_context L.mb L.cb 0 s.ctx.length L.ccap op to a bb r w hr _ (s.get a) (R.mac.cell 6) (R.getIs F a ha) (by rw [ht.cell, Nat.zero_add, ints_get_app hr]) (ht.frozen _) ht.lt R.mac.lt).mono ?_
  rintro e w' ⟨rfl, hb⟩
  refine ⟨rfl, ((Below.refl _ _).setCell R.bc _).trans (hb.mono R.hB), (((Foreign.refl _ _).setCell (x := L.cb) (by rw [R.tc]; omega) _ _).below hb), τ, lv, ov, ?_, fun _ _ _ => rfl⟩
  have := (R.setCtx hr (s.get a)).below (w' := w') (by simpa [World.setCell] using hb)
  simpa using this
theorem eff_restore (i : RI) (hto : 0 ≤ i.to ∧ i.to < c.regs) (harg : 0 ≤ i.arg ∧ i.arg < c.spills) : Calls Try.prog 96 #[.pointer (some ⟨L.mb, 0, none⟩), i.val] w
    (EffPost B L c τ w (.ok (s.put i.to (s.spl.getD i.arg.toNat 0)))) := by
  obtain ⟨op, to, a, bb, arg⟩ := i
  obtain ⟨r, rfl⟩ := Int.eq_ofNat_of_zero_le hto.1
  obtain ⟨q, rfl⟩ := Int.eq_ofNat_of_zero_le harg.1
  have hr : r < s.regs.length := by have := F.regs; have := hto.2; simp at this; omega
  have hq : q < s.spl.length := by have := F.spl; have := harg.2; simp at this; omega
  refine (m_restore L.mb L.rb 0 s.regs.length s.regs.length L.sb 0 s.spl.length s.spl.length op a bb r q w hr hq _ (s.spl.getD q 0) (R.mac.cell 10) (R.mac.cell 11) (by rw [R.spl.cell, Nat.zero_add, ints_get hq]) R.spl.lt
    (by rw [R.reg.cell, Nat.zero_add, ints_get hr]) (R.reg.frozen _) R.reg.lt R.mac.lt).mono ?_
  rintro e w' ⟨rfl, hb⟩
  exact eff_reg R F hr _ hb
theorem eff_input (i : RI) (hto : 0 ≤ i.to ∧ i.to < c.regs) : Calls Try.prog 97 #[.pointer (some ⟨L.mb, 0, none⟩), i.val] w (EffPost B L c τ w (.ok (s.put i.to c.input))) := by
  obtain ⟨op, to, a, bb, arg⟩ := i
  obtain ⟨r, rfl⟩ := Int.eq_ofNat_of_zero_le hto.1
  have hr : r < s.regs.length := by have := F.regs; have := hto.2; simp at this; omega
  refine (m_input L.mb L.rb 0 s.regs.length s.regs.length op a bb arg r w hr _ c.input (R.mac.cell 10) (R.mac.cell 7) (by rw [R.reg.cell, Nat.zero_add, ints_get hr]) (R.reg.frozen _) R.reg.lt R.mac.lt).mono ?_
  rintro e w' ⟨rfl, hb⟩
  exact eff_reg R F hr _ hb
theorem eff_ended (i : RI) (hto : 0 ≤ i.to ∧ i.to < c.regs) : Calls Try.prog 98 #[.pointer (some ⟨L.mb, 0, none⟩), i.val] w (EffPost B L c τ w (.ok (s.put i.to (if c.ended then 1 else 0)))) := by
  obtain ⟨op, to, a, bb, arg⟩ := i
  obtain ⟨r, rfl⟩ := Int.eq_ofNat_of_zero_le hto.1
  have hr : r < s.regs.length := by have := F.regs; have := hto.2; simp at this; omega
  have hne := ne_tag R.tr R.tm (by omega)
  cases hE : c.ended with
  | false =>
    refine (m_ended_no L.mb L.rb 0 s.regs.length s.regs.length op a bb arg r w hr _ (R.mac.cell 10) (by rw [← hE]; exact R.mac.cell 8) (by rw [R.reg.cell, Nat.zero_add, ints_get hr]) (R.reg.frozen _) R.reg.lt R.mac.lt hne).mono ?_
    rintro e w' ⟨rfl, hb⟩
    exact eff_reg R F hr _ hb
  | true =>
    refine (m_ended_yes L.mb L.rb 0 s.regs.length s.regs.length op a bb arg r w hr _ (R.mac.cell 10) (by rw [← hE]; exact R.mac.cell 8) (by rw [R.reg.cell, Nat.zero_add, ints_get hr]) (R.reg.frozen _) R.reg.lt R.mac.lt hne (Ne.symm hne)).mono ?_
    rintro e w' ⟨rfl, hb⟩
    refine ⟨rfl, (((Below.refl _ _).setCell R.br _).setCell R.br _).trans (hb.mono R.hB), ((((Foreign.refl _ _).setCell (x := L.rb) (by rw [R.tr]; omega) _ _).setCell (x := L.rb) (by rw [R.tr]; omega) _ _).below hb), τ, lv, ov, ?_, fun _ _ _ => rfl⟩
    have h1 := R.setReg hr 0
    have h2 := h1.setReg (r := r) (by simpa using hr) 1
    have := h2.below (w' := w') (by simpa [World.setCell] using hb)
    simpa [PS.put] using this
end
end Go.Proofs.Ytefdnjhhaejgbaa

namespace Go.Proofs.Ytefdnjhhaejgbaa
open Go.RowKit
set_option linter.unusedVariables false
set_option linter.unusedSectionVars false
section
variable {B : Nat} {L : Lay} {c : MC} {s : PS} {τ : Nat → Nat} {lv ov : Value} {w : World} (R : Rep B L c s τ lv ov w) (F : Fine c s)
include R F
theorem part_at {p : Nat} (hp : p < c.cd.length) : ∃ b off, L.ptA = some ⟨b, off, none⟩ ∧ b < B ∧ w.cell? ⟨b, off + p, none⟩ = some (.int .i64 (c.pt.getD p 0 : Nat)) := by
  obtain ⟨b, off, h1, h2, h3⟩ := R.ro.pt p (by rw [F.pt]; exact hp)
  exact ⟨b, off, h1, h2, by simpa using h3 0 (by omega)⟩
theorem eff_jump {p : Nat} {w' : World} (hb : Below w.heap.size (w.setCell ⟨L.mb, 15, none⟩ (.int .i64 p)) w') : EffPost B L c τ w (.ok { s with pc := p }) (.returned (.tuple #[])) w' :=
  ⟨rfl, ((Below.refl _ _).setCell R.bm _).trans (hb.mono R.hB), ((Foreign.refl _ _).setCell (x := L.mb) (by rw [R.tm]; omega) _ _).below hb, τ, lv, ov, (R.setPc p).below (w' := w') (by simpa [World.setCell] using hb), fun _ _ _ => rfl⟩
theorem eff_same {w' : World} (hb : Below w.heap.size w w') : EffPost B L c τ w (.ok s) (.returned (.tuple #[])) w' :=
  ⟨rfl, hb.mono R.hB, Foreign.of_below hb, τ, lv, ov, R.below hb, fun _ _ _ => rfl⟩
theorem eff_choose (i : RI) (ha : i.a < 0 ∨ i.a < c.regs) (hpc : s.pc < c.cd.length) : Calls Try.prog 103 #[.pointer (some ⟨L.mb, 0, none⟩), i.val] w
    (EffPost B L c τ w (.ok (if s.get i.a = 0 then { s with pc := c.pt.getD s.pc 0 } else s))) := by
  obtain ⟨op, to, a, bb, arg⟩ := i
  by_cases h0 : s.get a = 0
  · simp only [h0, if_true]
    obtain ⟨b, off, h1, h2, h3⟩ := part_at R F hpc
    have hm := R.mac.cell 4
    simp only [mcells, List.getElem?_cons_succ, List.getElem?_cons_zero, h1] at hm
    have hg := R.getIs F a ha
    rw [h0] at hg
    refine (m_choose_no L.mb b off c.pt.length L.ptC s.pc (c.pt.getD s.pc 0 : Nat) op to a bb arg w hg (by rw [F.pt]; exact hpc) hm (R.mac.cell 15) h3 (R.mac.frozen _) (Nat.lt_of_lt_of_le h2 R.hB) R.mac.lt).mono ?_
    rintro e w' ⟨rfl, hb⟩
    exact eff_jump R F hb
  · simp only [h0, if_false]
    refine (m_choose_yes L.mb op to a bb arg (s.get a) w (R.getIs F a ha) (by simpa using h0) R.mac.lt).mono ?_
    rintro e w' ⟨rfl, hb⟩
    exact eff_same R F hb
theorem eff_skip (i : RI) (hpc : s.pc < c.cd.length) : Calls Try.prog 104 #[.pointer (some ⟨L.mb, 0, none⟩), i.val] w (EffPost B L c τ w (.ok { s with pc := c.pt.getD s.pc 0 })) := by
  obtain ⟨op, to, a, bb, arg⟩ := i
  obtain ⟨b, off, h1, h2, h3⟩ := part_at R F hpc
  have hm := R.mac.cell 4
  simp only [mcells, List.getElem?_cons_succ, List.getElem?_cons_zero, h1] at hm
  refine (m_skip L.mb b off c.pt.length L.ptC s.pc (c.pt.getD s.pc 0 : Nat) op to a bb arg w (by rw [F.pt]; exact hpc) hm (R.mac.cell 15) h3 (R.mac.frozen _) (Nat.lt_of_lt_of_le h2 R.hB) R.mac.lt).mono ?_
  rintro e w' ⟨rfl, hb⟩
  exact eff_jump R F hb
theorem eff_emit (i : RI) (ha : i.a < 0 ∨ i.a < c.regs) : Calls Try.prog 99 #[.pointer (some ⟨L.mb, 0, none⟩), i.val] w
    (EffPost B L c τ w (if s.out.length < 65536 then .ok { s with out := s.out ++ [s.get i.a % 256] } else .error 5)) := by
  obtain ⟨op, to, a, bb, arg⟩ := i
  have ga := F.get a
  obtain ⟨oa, oc, rfl⟩ : ∃ oa oc, ov = .slice oa s.out.length oc := by
    rcases R.oown.2 with ⟨h1, h2⟩ | ⟨g, cc, cur, h1, _⟩
    · exact ⟨none, 0, by rw [h1, h2]⟩
    · exact ⟨_, cc, h1⟩
  by_cases hn : s.out.length < 65536
  · simp only [hn, if_true]
    refine (m_emit L.mb s.out.length B oa oc (ints .u8 s.out) op to a bb arg (s.get a) w (R.getIs F a ha) ga.1 ga.2 (R.mac.cell 13) hn R.mac.lt (R.mac.frozen _) R.oown R.hB (fun e => ne_tag (R.to _ e) R.tm (by omega) rfl)).mono ?_
    rintro e w' ⟨rfl, g, cc, w1, hown1, hg, hat, rfl⟩
    have h1 := R.growOut (s.get a % 256) hown1 hg hat
    have hro : ∀ g, (Value.slice oa s.out.length oc).ownBlock = some g → τ g < 1000 := fun g e => by rw [R.to g e]; omega
    exact ⟨rfl, (below_grown hg R.hB (fun k hk => (R.oown.lt k hk).1)).setCell R.bm _, (Foreign.grown hg hro).setCell (x := L.mb) (by rw [R.tm]; omega) _ _, _, _, _, h1, fun k hk ht => grow_tag hat hro k hk ht⟩
  · simp only [hn, if_false]
    refine (m_emit_long L.mb s.out.length (.slice oa s.out.length oc) oa oc op to a bb arg w (R.mac.cell 13) hn R.mac.lt).mono ?_
    rintro e w' ⟨rfl, hb⟩
    exact ⟨rfl, hb.mono R.hB, Foreign.of_below hb⟩
theorem eff_leave (i : RI) (ha : i.a < 0 ∨ i.a < c.regs) (hpc : s.pc < c.cd.length) (hl : s.loops ≠ []) : Calls Try.prog 106 #[.pointer (some ⟨L.mb, 0, none⟩), i.val] w
    (EffPost B L c τ w (.ok (if s.get i.a = 0 then s else { s with pc := c.pt.getD s.pc 0, loops := s.loops.dropLast }))) := by
  obtain ⟨op, to, a, bb, arg⟩ := i
  by_cases h0 : s.get a = 0
  · simp only [h0, if_true]
    have hg := R.getIs F a ha
    rw [h0] at hg
    refine (m_leave_no L.mb op to a bb arg w hg R.mac.lt).mono ?_
    rintro e w' ⟨rfl, hb⟩
    exact eff_same R F hb
  · simp only [h0, if_false]
    obtain ⟨b, off, h1, h2, h3⟩ := part_at R F hpc
    have hm := R.mac.cell 4
    simp only [mcells, List.getElem?_cons_succ, List.getElem?_cons_zero, h1] at hm
    have hll : s.loops = s.loops.dropLast ++ [s.loops.getLast hl] := (List.dropLast_concat_getLast hl).symm
    obtain ⟨g, cc, rfl, hle, hmx, hgl, hgt, _, _, _⟩ := R.top hll
    refine (m_leave_yes L.mb b off c.pt.length L.ptC g 0 s.loops.dropLast.length cc s.pc (c.pt.getD s.pc 0 : Nat) (s.get a) op to a bb arg w (R.getIs F a ha) (by simpa using h0) (by rw [F.pt]; exact hpc) hm (R.mac.cell 15) h3
      (R.mac.cell 12) hle hmx (R.mac.frozen _) (R.mac.frozen _) (Nat.lt_of_lt_of_le h2 R.hB) R.mac.lt (by have := R.bm; omega)).mono ?_
    rintro e w' ⟨rfl, hb⟩
    have r1 := R.setPc (c.pt.getD s.pc 0)
    have r2 := Rep.pop (s := { s with pc := c.pt.getD s.pc 0 }) hll r1
    exact ⟨rfl, (((Below.refl _ _).setCell R.bm _).setCell R.bm _).trans (hb.mono R.hB), (((Foreign.refl _ _).setCell (x := L.mb) (by rw [R.tm]; omega) _ _).setCell (x := L.mb) (by rw [R.tm]; omega) _ _).below hb, τ, _, ov, r2.below (w' := w') (by simpa [World.setCell] using hb), fun _ _ _ => rfl⟩
theorem eff_loop (i : RI) (ha : i.a < 0 ∨ i.a < c.regs) (hpc : s.pc < c.cd.length) (harg : 0 ≤ i.arg) (hl : s.loops.length < 16) : Calls Try.prog 105 #[.pointer (some ⟨L.mb, 0, none⟩), i.val] w
    (EffPost B L c τ w (if i.arg < s.get i.a then .error 18 else if s.get i.a = 0 then .ok { s with pc := c.pt.getD s.pc 0 } else tick c { s with loops := s.loops ++ [(s.pc, s.get i.a)] })) := by
  obtain ⟨op, to, a, bb, arg⟩ := i
  simp only at *
  by_cases hbd : arg < s.get a
  · simp only [hbd, if_true]
    refine (m_loop_bound L.mb op to a bb arg (s.get a) w (R.getIs F a ha) (by omega) R.mac.lt).mono ?_
    rintro e w' ⟨rfl, hb⟩
    exact ⟨rfl, hb.mono R.hB, Foreign.of_below hb⟩
  · simp only [hbd, if_false]
    by_cases h0 : s.get a = 0
    · simp only [h0, if_true]
      obtain ⟨b, off, h1, h2, h3⟩ := part_at R F hpc
      have hm := R.mac.cell 4
      simp only [mcells, List.getElem?_cons_succ, List.getElem?_cons_zero, h1] at hm
      have hg := R.getIs F a ha
      rw [h0] at hg
      refine (m_loop_none L.mb b off c.pt.length L.ptC s.pc (c.pt.getD s.pc 0 : Nat) op to a bb arg w hg harg (by rw [F.pt]; exact hpc) hm (R.mac.cell 15) h3 (R.mac.frozen _) (Nat.lt_of_lt_of_le h2 R.hB) R.mac.lt).mono ?_
      rintro e w' ⟨rfl, hb⟩
      exact eff_jump R F hb
    · simp only [h0, if_false, tick]
      obtain ⟨la, lc, rfl⟩ : ∃ la lc, lv = .slice la s.loops.length lc := by
        rcases R.lown.2 with ⟨h1, h2⟩ | ⟨g, cc, cur, h1, _⟩
        · exact ⟨none, 0, by rw [h1, h2]⟩
        · exact ⟨_, cc, h1⟩
      have hro : ∀ g, (Value.slice la s.loops.length lc).ownBlock = some g → τ g < 1000 := fun g e => by rw [R.tl g e]; omega
      by_cases hsf : s.steps < c.fuel
      · simp only [hsf, if_true]
        refine (m_loop_yes L.mb s.loops.length B la lc (flatL s.loops) s.pc op to a bb arg (s.get a) s.steps c.fuel w (R.getIs F a ha) (by omega) (by simpa using h0) (R.mac.cell 15) (R.mac.cell 12) (by omega) R.mac.lt (R.mac.frozen _)
          R.lown R.hB (fun e => ne_tag (R.tl _ e) R.tm (by omega) rfl) (R.mac.cell 14) (R.mac.cell 9) (R.mac.frozen _) F.st0 F.fu hsf).mono ?_
        rintro e w' ⟨rfl, g, cc, w1, k, hown1, hg, hat, rfl⟩
        have h1 := R.growLoops s.pc (s.get a) hown1 hg hat
        have h2 := h1.setSteps (s.steps + 1)
        exact ⟨rfl, below_drewN (((below_grown hg R.hB (fun k hk => (R.lown.lt k hk).1)).setCell R.bm _).setCell R.bm _) _, ((Foreign.grown hg hro).setCell (x := L.mb) (by rw [R.tm]; omega) _ _).setCell (x := L.mb) (by rw [R.tm]; omega) _ _, _, _, _, h2.below (below_drewN (Below.refl _ _) k), fun k hk ht => grow_tag hat hro k hk ht⟩
      · simp only [hsf, if_false]
        refine (m_loop_no L.mb s.loops.length B la lc (flatL s.loops) s.pc op to a bb arg (s.get a) s.steps c.fuel w (R.getIs F a ha) (by omega) (by simpa using h0) (R.mac.cell 15) (R.mac.cell 12) (by omega) R.mac.lt (R.mac.frozen _)
          R.lown R.hB (fun e => ne_tag (R.tl _ e) R.tm (by omega) rfl) (R.mac.cell 14) (R.mac.cell 9) (R.mac.frozen _) F.st0 F.fu hsf).mono ?_
        rintro e w' ⟨rfl, w1, u, k, hg, rfl⟩
        exact ⟨rfl, below_drewN ((below_grown hg R.hB (fun k hk => (R.lown.lt k hk).1)).setCell R.bm _) _, (Foreign.grown hg hro).setCell (x := L.mb) (by rw [R.tm]; omega) _ _⟩
theorem elem_at (i : RI) (ha : i.a < 0 ∨ i.a < c.regs) (harg : 0 ≤ i.arg ∧ i.arg < c.ars.length) :
    if (s.get i.a).toNat < (s.arr.getD i.arg.toNat []).length then ElemIs w L.mb i.val ⟨L.ab i.arg.toNat, 0 + (s.get i.a).toNat, none⟩ else ElemNo w L.mb i.val := by
  obtain ⟨op, to, a, bb, arg⟩ := i
  obtain ⟨k, rfl⟩ := Int.eq_ofNat_of_zero_le harg.1
  have hk : k < s.arr.length := by have := F.arr; have := harg.2; simp at this; omega
  obtain ⟨q, qo, h1, h2, h3, h4⟩ := R.outer k hk
  have hm := R.mac.cell 5
  simp only [mcells, List.getElem?_cons_succ, List.getElem?_cons_zero, h1] at hm
  have ga := F.get a
  obtain ⟨v, hv⟩ := Int.eq_ofNat_of_zero_le ga.1
  have hg := R.getIs F a ha
  have hlen : (s.arr.getD k []).length ≤ 65536 := by
    rw [List.getD_eq_getElem?_getD, List.getElem?_eq_getElem hk]
    exact F.asz _ (List.getElem_mem hk)
  simp only [RI.val, Int.toNat_natCast]
  rw [hv] at hg ga ⊢
  simp only [Int.toNat_natCast]
  by_cases hlt : v < (s.arr.getD k []).length
  · rw [if_pos hlt]
    exact elemIs_of L.mb q qo s.arr.length L.arrC (L.ab k) 0 (s.arr.getD k []).length (L.acap k) op to a bb k v w hk hlt hm h4 hg hlen h3 R.mac.lt
  · rw [if_neg hlt]
    exact elemNo_of L.mb q qo s.arr.length L.arrC (L.ab k) 0 (s.arr.getD k []).length (L.acap k) op to a bb k v w hk hlt (by omega) hm h4 hg hlen h3 R.mac.lt
theorem eff_load (i : RI) (hto : 0 ≤ i.to ∧ i.to < c.regs) (ha : i.a < 0 ∨ i.a < c.regs) (harg : 0 ≤ i.arg ∧ i.arg < c.ars.length) : Calls Try.prog 101 #[.pointer (some ⟨L.mb, 0, none⟩), i.val] w
    (EffPost B L c τ w (if (s.get i.a).toNat < (s.arr.getD i.arg.toNat []).length then .ok (s.put i.to ((s.arr.getD i.arg.toNat []).getD (s.get i.a).toNat 0)) else .error 16)) := by
  have he := elem_at R F i ha harg
  by_cases hlt : (s.get i.a).toNat < (s.arr.getD i.arg.toNat []).length
  · rw [if_pos hlt] at he
    simp only [hlt, if_true]
    have hk : i.arg.toNat < s.arr.length := by have := F.arr; omega
    obtain ⟨t, ht⟩ := R.arr _ hk
    obtain ⟨op, to, a, bb, arg⟩ := i
    obtain ⟨r, rfl⟩ := Int.eq_ofNat_of_zero_le hto.1
    have hr : r < s.regs.length := by have := F.regs; have := hto.2; simp at this; omega
    refine (m_load_yes L.mb L.rb 0 s.regs.length s.regs.length (L.ab arg.toNat) (0 + (s.get a).toNat) op a bb arg r ((s.arr.getD arg.toNat []).getD (s.get a).toNat 0) w hr _ he
      (by rw [ht.cell, Nat.zero_add, ints_get_app hlt]) ht.lt (R.mac.cell 10) (by rw [R.reg.cell, Nat.zero_add, ints_get hr]) (R.reg.frozen _) R.reg.lt R.mac.lt).mono ?_
    rintro e w' ⟨rfl, hb⟩
    exact eff_reg R F hr _ hb
  · rw [if_neg hlt] at he
    simp only [hlt, if_false]
    obtain ⟨op, to, a, bb, arg⟩ := i
    refine (m_load_no L.mb L.rb 0 s.regs.length s.regs.length op to a bb arg w he (R.mac.cell 10) R.mac.lt).mono ?_
    rintro e w' ⟨rfl, hb⟩
    exact ⟨rfl, hb.mono R.hB, Foreign.of_below hb⟩
theorem eff_store (i : RI) (ha : i.a < 0 ∨ i.a < c.regs) (hbr : i.b < 0 ∨ i.b < c.regs) (harg : 0 ≤ i.arg ∧ i.arg < c.ars.length) : Calls Try.prog 102 #[.pointer (some ⟨L.mb, 0, none⟩), i.val] w
    (EffPost B L c τ w (if (s.get i.a).toNat < (s.arr.getD i.arg.toNat []).length then
      .ok { s with arr := s.arr.set i.arg.toNat ((s.arr.getD i.arg.toNat []).set (s.get i.a).toNat (if (c.ars.getD i.arg.toNat default).word then s.get i.b else s.get i.b % 256)) } else .error 16)) := by
  have he := elem_at R F i ha harg
  by_cases hlt : (s.get i.a).toNat < (s.arr.getD i.arg.toNat []).length
  · rw [if_pos hlt] at he
    simp only [hlt, if_true]
    have hk : i.arg.toNat < s.arr.length := by have := F.arr; omega
    obtain ⟨t, ht⟩ := R.arr _ hk
    obtain ⟨op, to, a, bb, arg⟩ := i
    obtain ⟨k, rfl⟩ := Int.eq_ofNat_of_zero_le harg.1
    simp only [Int.toNat_natCast] at *
    have hka : k < c.ars.length := by have := F.arr; omega
    obtain ⟨ab, ao, h1, h2, h3⟩ := R.ro.ars k hka
    have hm := R.mac.cell 0
    simp only [mcells, List.getElem?_cons_zero, h1] at hm
    have hw := h3 0 (by omega)
    simp only [Ar.cell, List.getD_cons_zero, Nat.add_zero] at hw
    have gb := F.get bb
    have fin : ∀ v e w', (e = Ending.returned (.tuple #[]) ∧ Below w.heap.size (w.setCell ⟨L.ab k, 0 + (s.get a).toNat, none⟩ (.int .u32 v)) w') → EffPost B L c τ w (.ok { s with arr := s.arr.set k ((s.arr.getD k []).set (s.get a).toNat v) }) e w' := by
      rintro v e w' ⟨rfl, hb⟩
      exact ⟨rfl, ((Below.refl _ _).setCell (R.ba k hk) _).trans (hb.mono R.hB), ((Foreign.refl _ _).setCell (x := L.ab k) (by rw [R.ta k hk]; have := F.arr; have := F.amax; omega) _ _).below hb, τ, lv, ov, (R.setArr hk hlt v).below (w' := w') (by simpa [World.setCell] using hb), fun _ _ _ => rfl⟩
    cases hword : (c.ars.getD k default).word with
    | true =>
      rw [hword] at hw
      exact (m_store_word L.mb ab ao c.ars.length L.arsC (L.ab k) (0 + (s.get a).toNat) op to a bb k (s.get bb) w hka _ he (R.getIs F bb hbr) hm hw (Nat.lt_of_lt_of_le h2 R.hB)
        (by rw [ht.cell, Nat.zero_add, ints_get_app hlt]) (ht.frozen _) ht.lt R.mac.lt).mono (fin _)
    | false =>
      rw [hword] at hw
      exact (m_store_byte L.mb ab ao c.ars.length L.arsC (L.ab k) (0 + (s.get a).toNat) op to a bb k (s.get bb) gb.1 gb.2 w hka _ he (R.getIs F bb hbr) hm hw (Nat.lt_of_lt_of_le h2 R.hB)
        (by rw [ht.cell, Nat.zero_add, ints_get_app hlt]) (ht.frozen _) ht.lt R.mac.lt).mono (fin _)
  · rw [if_neg hlt] at he
    simp only [hlt, if_false]
    obtain ⟨op, to, a, bb, arg⟩ := i
    refine (m_store_no L.mb op to a bb arg w he R.mac.lt).mono ?_
    rintro e w' ⟨rfl, hb⟩
    exact ⟨rfl, hb.mono R.hB, Foreign.of_below hb⟩
theorem eff_end (i : RI) (hl16 : s.loops.length ≤ 16) : Calls Try.prog 107 #[.pointer (some ⟨L.mb, 0, none⟩), i.val] w
    (EffPost B L c τ w (match s.loops.getLast? with
      | none => .ok s
      | some (b, l) => if c.pt.getD b 0 ≠ s.pc then .ok s else if l = 1 then .ok { s with loops := s.loops.dropLast }
        else tick c { s with loops := s.loops.dropLast ++ [(b, l - 1)], pc := b })) := by
  obtain ⟨op, to, a, bb, arg⟩ := i
  by_cases hl : s.loops = []
  · rw [hl]
    simp only [List.getLast?_nil]
    obtain ⟨la, lc, rfl⟩ : ∃ la lc, lv = .slice la 0 lc := by
      have hn : s.loops.length = 0 := by rw [hl]; rfl
      have hown := R.lown
      rw [hn] at hown
      rcases hown.2 with ⟨h1, h2⟩ | ⟨g, cc, cur, h1, _⟩
      · exact ⟨none, 0, h1⟩
      · exact ⟨_, cc, h1⟩
    refine (m_end_none L.mb la lc op to a bb arg w (R.mac.cell 12) R.mac.lt).mono ?_
    rintro e w' ⟨rfl, hb⟩
    exact eff_same R F hb
  · have hll : s.loops = s.loops.dropLast ++ [s.loops.getLast hl] := (List.dropLast_concat_getLast hl).symm
    rw [List.getLast?_eq_some_getLast hl]
    obtain ⟨f1, f2, f3⟩ := F.l32 _ (List.getLast_mem hl)
    obtain ⟨g, cc, rfl, hle, hmx, hgl, hgt, hc1, hc2, hfr⟩ := R.top hll
    generalize hP : s.loops.getLast hl = P at *
    obtain ⟨b2, l⟩ := P
    simp only at *
    obtain ⟨b, off, h1, h2, h3⟩ := part_at R F f1
    have hm := R.mac.cell 4
    simp only [mcells, List.getElem?_cons_succ, List.getElem?_cons_zero, h1] at hm
    have hlen : s.loops.dropLast.length < 65536 := by simp; omega
    have hgm := ne_tag hgt R.tm (by omega)
    by_cases hne : c.pt.getD b2 0 = s.pc
    · simp only [hne, ne_eq, not_true_eq_false, if_false]
      rw [hne] at h3
      by_cases hl1 : l = 1
      · simp only [hl1, if_true]
        rw [hl1] at hc2
        refine (m_end_pop L.mb s.loops.dropLast.length g 0 cc b off c.pt.length L.ptC s.pc b2 op to a bb arg w (R.mac.cell 12) hlen hle hmx R.mac.lt hgl hc1 hc2 (by rw [F.pt]; exact f1) hm (R.mac.cell 15) h3 (Nat.lt_of_lt_of_le h2 R.hB)
          (hfr _) (R.mac.frozen _) (R.mac.frozen _) hgm (Ne.symm hgm)).mono ?_
        rintro e w' ⟨rfl, hb⟩
        have hgB : B ≤ g := (R.lown.lt g (by simp [Value.ownBlock])).1
        have r1 := Rep.setTop hll R 0
        have r2 := Rep.pop (s := { s with loops := s.loops.dropLast ++ [(b2, 0)] }) (l := s.loops.dropLast) rfl r1
        exact ⟨rfl, (((Below.refl _ _).setCell hgB _).setCell R.bm _).trans (hb.mono R.hB), (((Foreign.refl _ _).setCell (x := g) (by rw [hgt]; omega) _ _).setCell (x := L.mb) (by rw [R.tm]; omega) _ _).below hb, τ, _, ov, r2.below (w' := w') (by simpa [World.setCell] using hb), fun _ _ _ => rfl⟩
      · simp only [hl1, if_false, tick]
        have hgB : B ≤ g := (R.lown.lt g (by simp [Value.ownBlock])).1
        by_cases hsf : s.steps < c.fuel
        · simp only [hsf, if_true]
          refine (m_end_again L.mb s.loops.dropLast.length g 0 cc b off c.pt.length L.ptC s.pc b2 l op to a bb arg w (R.mac.cell 12) hlen hle hmx R.mac.lt hgl hc1 hc2 (by rw [F.pt]; exact f1) hm (R.mac.cell 15) h3 (Nat.lt_of_lt_of_le h2 R.hB)
            (hfr _) (R.mac.frozen _) (R.mac.frozen _) hgm (Ne.symm hgm) (by omega) f3 s.steps c.fuel (R.mac.cell 14) (R.mac.cell 9) (R.mac.frozen _) F.st0 F.fu hsf).mono ?_
          rintro e w' ⟨rfl, hb⟩
          have r1 := Rep.setTop hll R (l - 1)
          have r2 := r1.setPc b2
          have r3 := r2.setSteps (s.steps + 1)
          exact ⟨rfl, ((((Below.refl _ _).setCell hgB _).setCell R.bm _).setCell R.bm _).trans (hb.mono R.hB), ((((Foreign.refl _ _).setCell (x := g) (by rw [hgt]; omega) _ _).setCell (x := L.mb) (by rw [R.tm]; omega) _ _).setCell (x := L.mb) (by rw [R.tm]; omega) _ _).below hb, τ, _, ov, r3.below (w' := w') (by simpa [World.setCell] using hb), fun _ _ _ => rfl⟩
        · simp only [hsf, if_false]
          refine (m_end_steps L.mb s.loops.dropLast.length g 0 cc b off c.pt.length L.ptC s.pc b2 l op to a bb arg w (R.mac.cell 12) hlen hle hmx R.mac.lt hgl hc1 hc2 (by rw [F.pt]; exact f1) hm (R.mac.cell 15) h3 (Nat.lt_of_lt_of_le h2 R.hB)
            (hfr _) (R.mac.frozen _) (R.mac.frozen _) hgm (Ne.symm hgm) (by omega) f3 s.steps c.fuel (R.mac.cell 14) (R.mac.cell 9) (R.mac.frozen _) F.st0 F.fu hsf).mono ?_
          rintro e w' ⟨rfl, hb⟩
          exact ⟨rfl, (((Below.refl _ _).setCell hgB _).setCell R.bm _).trans (hb.mono R.hB), (((Foreign.refl _ _).setCell (x := g) (by rw [hgt]; omega) _ _).setCell (x := L.mb) (by rw [R.tm]; omega) _ _).below hb⟩
    · simp only [hne, ne_eq, not_false_eq_true, if_true]
      refine (m_end_if L.mb s.loops.dropLast.length g 0 cc b off c.pt.length L.ptC s.pc b2 (c.pt.getD b2 0 : Nat) op to a bb arg w (R.mac.cell 12) hlen R.mac.lt hgl hc1 (by rw [F.pt]; exact f1) hm (R.mac.cell 15) h3 (Nat.lt_of_lt_of_le h2 R.hB)
        (by rw [bne_iff_ne]; exact fun e => hne (by omega))).mono ?_
      rintro e w' ⟨rfl, hb⟩
      exact eff_same R F hb
end
end Go.Proofs.Ytefdnjhhaejgbaa

namespace Go.Proofs.Ytefdnjhhaejgbaa
open Go.RowKit
set_option linter.unusedVariables false
set_option linter.unusedSectionVars false
theorem chkI_ok {regs spills nA : Int} {i : RI} (h : chkI regs spills nA i = 0) :
    isOp i.op = true ∧ rightReg regs i.to (usesTo i.op) = true ∧ rightReg regs i.a (usesA i.op) = true ∧ rightReg regs i.b (usesB i.op) = true ∧ i.arg ≤ mostArg nA spills i.op := by
  unfold chkI at h
  split at h
  · cases h
  split at h
  · cases h
  rename_i h1 h2
  simp only [not_or, Bool.not_eq_false, Int.not_lt] at h1 h2
  exact ⟨h1, h2.1, h2.2.1, h2.2.2.1, h2.2.2.2⟩
theorem right_used {regs n : Int} {u : Bool} (h : rightReg regs n u = true) (hu : u = true) : 0 ≤ n ∧ n < regs := by
  subst hu; simpa [rightReg] using h
theorem right_any {regs n : Int} {u : Bool} (h : rightReg regs n u = true) : n < 0 ∨ n < regs := by
  unfold rightReg at h
  split at h <;> simp at h <;> omega
section
variable {B : Nat} {L : Lay} {c : MC} {s : PS} {τ : Nat → Nat} {lv ov : Value} {w : World} (R : Rep B L c s τ lv ov w) (F : Fine c s)
include R F
theorem eff_tab (i : RI) (hi : chkI c.regs c.spills c.ars.length i = 0) (harg : 0 ≤ i.arg ∧ i.arg < 4294967296) (hpc : s.pc < c.cd.length) (h30 : i.op = 30 → s.loops ≠ []) (h29 : i.op = 29 → s.loops.length < 16) :
    (∃ f, atInt i.op effEntries.toList = some (.func (.func f) #[] #[]) ∧ (∀ (args : Array Value) (w : World), (callFunc f args).run Try.prog w = .ok (.enter f args) w) ∧ Calls Try.prog f #[.pointer (some ⟨L.mb, 0, none⟩), i.val] w (EffPost B L c τ w (effect c s i))) ∨
    (atInt i.op effEntries.toList = none ∧ Calls Try.prog 88 #[.pointer (some ⟨L.mb, 0, none⟩), i.val] w (EffPost B L c τ w (effect c s i))) := by
  obtain ⟨k1, k2, k3, k4, k5⟩ := chkI_ok hi
  have ha := right_any k3
  have hb := right_any k4
  rw [eff_at]
  by_cases hop : i.op = 0
  · left
    refine ⟨93, by simp [hop], fun args w => run_enter Try.func93 (by kernel_rfl) (by kernel_rfl) args w, ?_⟩
    rw [hop] at k2 k5
    have hto := right_used k2 (by decide)
    unfold effect
    rw [if_pos hop]
    exact eff_push R F i hto
  by_cases hop : i.op = 36
  · left
    refine ⟨94, by simp [hop], fun args w => run_enter Try.func94 (by kernel_rfl) (by kernel_rfl) args w, ?_⟩
    rw [hop] at k2 k5
    have hto := right_used k2 (by decide)
    unfold effect
    rw [if_neg (by omega), if_pos hop]
    exact eff_move R F i hto ha
  by_cases hop : i.op = 37
  · left
    refine ⟨95, by simp [hop], fun args w => run_enter Try.func95 (by kernel_rfl) (by kernel_rfl) args w, ?_⟩
    rw [hop] at k2 k5
    have hsp : 0 ≤ i.arg ∧ i.arg < c.spills := by simp [mostArg] at k5; omega
    unfold effect
    rw [if_neg (by omega), if_neg (by omega), if_pos hop]
    exact eff_save R F i hsp ha
  by_cases hop : i.op = 38
  · left
    refine ⟨96, by simp [hop], fun args w => run_enter Try.func96 (by kernel_rfl) (by kernel_rfl) args w, ?_⟩
    rw [hop] at k2 k5
    have hto := right_used k2 (by decide)
    have hsp : 0 ≤ i.arg ∧ i.arg < c.spills := by simp [mostArg] at k5; omega
    unfold effect
    rw [if_neg (by omega), if_neg (by omega), if_neg (by omega), if_pos hop]
    exact eff_restore R F i hto hsp
  by_cases hop : i.op = 32
  · left
    refine ⟨97, by simp [hop], fun args w => run_enter Try.func97 (by kernel_rfl) (by kernel_rfl) args w, ?_⟩
    rw [hop] at k2 k5
    have hto := right_used k2 (by decide)
    unfold effect
    rw [if_neg (by omega), if_neg (by omega), if_neg (by omega), if_neg (by omega), if_pos hop]
    exact eff_input R F i hto
  by_cases hop : i.op = 33
  · left
    refine ⟨98, by simp [hop], fun args w => run_enter Try.func98 (by kernel_rfl) (by kernel_rfl) args w, ?_⟩
    rw [hop] at k2 k5
    have hto := right_used k2 (by decide)
    unfold effect
    rw [if_neg (by omega), if_neg (by omega), if_neg (by omega), if_neg (by omega), if_neg (by omega), if_pos hop]
    exact eff_ended R F i hto
  by_cases hop : i.op = 34
  · left
    refine ⟨99, by simp [hop], fun args w => run_enter Try.func99 (by kernel_rfl) (by kernel_rfl) args w, ?_⟩
    rw [hop] at k2 k5
    unfold effect
    rw [if_neg (by omega), if_neg (by omega), if_neg (by omega), if_neg (by omega), if_neg (by omega), if_neg (by omega), if_pos hop]
    exact eff_emit R F i ha
  by_cases hop : i.op = 35
  · left
    refine ⟨100, by simp [hop], fun args w => run_enter Try.func100 (by kernel_rfl) (by kernel_rfl) args w, ?_⟩
    rw [hop] at k2 k5
    have hcx : 0 ≤ i.arg ∧ i.arg < 16 := by simp [mostArg] at k5; omega
    unfold effect
    rw [if_neg (by omega), if_neg (by omega), if_neg (by omega), if_neg (by omega), if_neg (by omega), if_neg (by omega), if_neg (by omega), if_pos hop]
    exact eff_context R F i hcx ha
  by_cases hop : i.op = 3
  · left
    refine ⟨101, by simp [hop], fun args w => run_enter Try.func101 (by kernel_rfl) (by kernel_rfl) args w, ?_⟩
    rw [hop] at k2 k5
    have hto := right_used k2 (by decide)
    have har : 0 ≤ i.arg ∧ i.arg < c.ars.length := by simp [mostArg] at k5; omega
    unfold effect
    rw [if_neg (by omega), if_neg (by omega), if_neg (by omega), if_neg (by omega), if_neg (by omega), if_neg (by omega), if_neg (by omega), if_neg (by omega), if_pos hop]
    exact eff_load R F i hto ha har
  by_cases hop : i.op = 4
  · left
    refine ⟨102, by simp [hop], fun args w => run_enter Try.func102 (by kernel_rfl) (by kernel_rfl) args w, ?_⟩
    rw [hop] at k2 k5
    have har : 0 ≤ i.arg ∧ i.arg < c.ars.length := by simp [mostArg] at k5; omega
    unfold effect
    rw [if_neg (by omega), if_neg (by omega), if_neg (by omega), if_neg (by omega), if_neg (by omega), if_neg (by omega), if_neg (by omega), if_neg (by omega), if_neg (by omega), if_pos hop]
    exact eff_store R F i ha hb har
  by_cases hop : i.op = 27
  · left
    refine ⟨103, by simp [hop], fun args w => run_enter Try.func103 (by kernel_rfl) (by kernel_rfl) args w, ?_⟩
    rw [hop] at k2 k5
    unfold effect
    rw [if_neg (by omega), if_neg (by omega), if_neg (by omega), if_neg (by omega), if_neg (by omega), if_neg (by omega), if_neg (by omega), if_neg (by omega), if_neg (by omega), if_neg (by omega), if_pos hop]
    exact eff_choose R F i ha hpc
  by_cases hop : i.op = 28
  · left
    refine ⟨104, by simp [hop], fun args w => run_enter Try.func104 (by kernel_rfl) (by kernel_rfl) args w, ?_⟩
    rw [hop] at k2 k5
    unfold effect
    rw [if_neg (by omega), if_neg (by omega), if_neg (by omega), if_neg (by omega), if_neg (by omega), if_neg (by omega), if_neg (by omega), if_neg (by omega), if_neg (by omega), if_neg (by omega), if_neg (by omega), if_pos hop]
    exact eff_skip R F i hpc
  by_cases hop : i.op = 29
  · left
    refine ⟨105, by simp [hop], fun args w => run_enter Try.func105 (by kernel_rfl) (by kernel_rfl) args w, ?_⟩
    rw [hop] at k2 k5
    unfold effect
    rw [if_neg (by omega), if_neg (by omega), if_neg (by omega), if_neg (by omega), if_neg (by omega), if_neg (by omega), if_neg (by omega), if_neg (by omega), if_neg (by omega), if_neg (by omega), if_neg (by omega), if_neg (by omega), if_pos hop]
    exact eff_loop R F i ha hpc harg.1 (h29 hop)
  by_cases hop : i.op = 30
  · left
    refine ⟨106, by simp [hop], fun args w => run_enter Try.func106 (by kernel_rfl) (by kernel_rfl) args w, ?_⟩
    rw [hop] at k2 k5
    unfold effect
    rw [if_neg (by omega), if_neg (by omega), if_neg (by omega), if_neg (by omega), if_neg (by omega), if_neg (by omega), if_neg (by omega), if_neg (by omega), if_neg (by omega), if_neg (by omega), if_neg (by omega), if_neg (by omega), if_neg (by omega), if_pos hop]
    exact eff_leave R F i ha hpc (h30 hop)
  by_cases hop : i.op = 31
  · left
    refine ⟨107, by simp [hop], fun args w => run_enter Try.func107 (by kernel_rfl) (by kernel_rfl) args w, ?_⟩
    rw [hop] at k2 k5
    unfold effect
    rw [if_neg (by omega), if_neg (by omega), if_neg (by omega), if_neg (by omega), if_neg (by omega), if_neg (by omega), if_neg (by omega), if_neg (by omega), if_neg (by omega), if_neg (by omega), if_neg (by omega), if_neg (by omega), if_neg (by omega), if_neg (by omega), if_pos hop]
    exact eff_end R F i F.llen
  · right
    have hc : 8 ≤ i.op ∧ i.op ≤ 26 := by simp [isOp] at k1; omega
    refine ⟨by simp [*], ?_⟩
    have hto := right_used k2 (by simp [usesTo]; omega)
    unfold effect
    rw [if_neg (by omega), if_neg (by omega), if_neg (by omega), if_neg (by omega), if_neg (by omega), if_neg (by omega), if_neg (by omega), if_neg (by omega), if_neg (by omega), if_neg (by omega), if_neg (by omega), if_neg (by omega), if_neg (by omega), if_neg (by omega), if_neg (by omega)]
    exact eff_calc R F i hto ha hb
end
end Go.Proofs.Ytefdnjhhaejgbaa
