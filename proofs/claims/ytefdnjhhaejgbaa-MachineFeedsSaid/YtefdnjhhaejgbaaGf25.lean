/- A part of the proof of MachineFeeds: U Pb W Rv Bf Ae. No condition. -/
import Derived.Test.YtefdnjhhaejgbaaGf23
import Derived.Test.YtefdnjhhaejgbaaGf13
import Derived.Test.YtefdnjhhaejgbaaGf24
import Derived.Test.YtefdnjhhaejgbaaGf19
import Derived.Test.YtefdnjhhaejgbaaGf18
import Derived.Test.YtefdnjhhaejgbaaGf15
set_option linter.unusedSimpArgs false
set_option linter.unusedVariables false
namespace Go.Proofs.Ytefdnjhhaejgbaa
open Go.RowKit
set_option linter.unusedVariables false
theorem GridOwn.above {B : Nat} {τ : Nat → Nat} {arr : List (List Int)} {ab ac : Nat → Nat} {v : Value} {w w2 : World} (h : GridOwn B τ arr ab ac v w) (hw : ∀ k, B ≤ k → w2.heap[k]? = w.heap[k]?) : GridOwn B τ arr ab ac v w2 :=
  { h with
    own := by
      refine ⟨h.own.1, ?_⟩
      rcases h.own.2 with h1 | ⟨g, cc, cur, hv, hb, hgg, hle, hmx, hcs, htk⟩
      · exact .inl h1
      · exact .inr ⟨g, cc, cur, hv, hb, (hw g hb).trans hgg, hle, hmx, hcs, htk⟩
    blk := fun k hk => by
      obtain ⟨t, ht⟩ := h.blk k hk
      exact ⟨t, by unfold Blk; rw [hw _ (h.ba k hk)]; exact ht⟩ }
theorem GridOwn.at {B : Nat} {τ : Nat → Nat} {arr : List (List Int)} {ab ac : Nat → Nat} {va : Option Addr} {vc n : Nat} {w : World} (h : GridOwn B τ arr ab ac (.slice va n vc) w) (hn : n = arr.length) : GridAt w va arr := by
  subst hn
  intro k hk
  obtain ⟨g, hva, _, hc, _⟩ := own_cells h.own (by simp) hk
  refine ⟨g, 0, some ⟨ab k, 0, none⟩, ac k, hva, ?_, ab k, 0, rfl, fun j hj => ?_⟩
  · rw [hc]; simp [hk]
  · obtain ⟨t, ht⟩ := h.blk k hk
    rw [Nat.zero_add, ht.cell, ints_get_app hj]
theorem grid_slice' {B : Nat} {τ : Nat → Nat} {arr : List (List Int)} {ab ac : Nat → Nat} {v : Value} {w : World} (h : GridOwn B τ arr ab ac v w) : ∃ va vc, v = .slice va arr.length vc := by
  rcases h.own.2 with ⟨h1, h2⟩ | ⟨g, cc, cur, h1, _⟩
  · exact ⟨none, 0, by rw [h1, h2]⟩
  · exact ⟨_, cc, h1⟩
def MemVal (w : World) (arr : List (List Int)) (ctx : List Int) (v : Value) : Prop :=
  ∃ qa cq ca cc, v = .agg #[.slice qa arr.length cq, .slice ca ctx.length cc] ∧ GridAt w qa arr ∧ NumsAt w ca ctx
theorem MemVal.below {w w' : World} {arr : List (List Int)} {ctx : List Int} {v : Value} (h : MemVal w arr ctx v) (hb : Below w.heap.size w w') : MemVal w' arr ctx v := by
  obtain ⟨qa, cq, ca, cc, rfl, h1, h2⟩ := h
  exact ⟨qa, cq, ca, cc, rfl, h1.below hb, h2.below hb⟩
def zeroMemV : Value := .agg #[.slice none 0 0, .slice none 0 0]
def StartPost (ars : List Ar) (regs spills : Int) (cd : List RI) (w : World) (e : Ending) (w' : World) : Prop :=
  Below w.heap.size w w' ∧ if (chkCode ars regs spills cd).2 = 0 then ∃ v, e = .returned (.tuple #[v, .int .i64 0]) ∧ ∀ w2 : World, (∀ k, w.heap.size ≤ k → w2.heap[k]? = w'.heap[k]?) → MemVal w2 (zeros ars) (List.replicate 16 0) v
    else e = .returned (.tuple #[zeroMemV, .int .i64 (chkCode ars regs spills cd).2])
theorem chkArs_mem : ∀ (l : List Ar) (n m : Int), chkArs l n = some m → ∀ a ∈ l, 1 ≤ a.size ∧ a.size ≤ 65536
  | [], _, _, _, a, ha => by cases ha
  | b :: l, n, m, h, a, ha => by
    unfold chkArs at h
    split at h
    · cases h
    · rename_i hb
      cases ha with
      | head => omega
      | tail _ ha => exact chkArs_mem l _ m h a ha
theorem chkAll_none {regs spills nA : Int} : ∀ (l : List RI) (k : Nat), chkAll regs spills nA l k = none → ∀ i ∈ l, chkI regs spills nA i = 0
  | [], _, _, i, hi => by cases hi
  | x :: l, k, h, i, hi => by
    unfold chkAll at h
    split at h
    · cases h
    · rename_i hx
      cases hi with
      | head => exact Decidable.not_not.1 hx
      | tail _ hi => exact chkAll_none l (k + 1) h i hi
theorem chkAll_some {regs spills nA : Int} : ∀ (l : List RI) (k : Nat) (r : Int × Int), chkAll regs spills nA l k = some r → r.2 ≠ 0
  | [], _, _, h => by simp [chkAll] at h
  | x :: l, k, r, h => by
    unfold chkAll at h
    split at h
    · rename_i hx; simp at h; subst h; exact hx
    · exact chkAll_some l (k + 1) r h
structure InOrd (ars : List Ar) (regs spills : Int) (cd : List RI) : Prop where
  hnA : ars.length ≤ 8
  hars : ∀ a ∈ ars, 1 ≤ a.size ∧ a.size ≤ 65536
  hregs : 0 ≤ regs ∧ regs ≤ 1024
  hspl : 0 ≤ spills ∧ spills ≤ 1024
  hcd : cd.length ≤ 16384
  hins : ∀ i ∈ cd, chkI regs spills ars.length i = 0
  hnest : (nestRun cd 0 []).2 = false
theorem chk_good {ars : List Ar} {regs spills : Int} {cd : List RI} (h : (chkCode ars regs spills cd).2 = 0) : InOrd ars regs spills cd := by
  unfold chkCode at h
  split at h
  · simp at h
  rename_i h8
  split at h
  · simp at h
  rename_i n hn
  split at h
  · simp at h
  rename_i hr
  split at h
  · simp at h
  rename_i hc
  split at h
  · rename_i r hr; exact absurd h (chkAll_some _ _ _ hr)
  rename_i hi
  cases hq : (nestRun cd 0 []).2 with
  | true => rw [hq] at h; simp at h
  | false => exact ⟨by omega, chkArs_mem _ _ _ hn, by omega, by omega, by omega, chkAll_none _ _ hi, hq⟩
set_option maxRecDepth 100000 in
set_option maxHeartbeats 1000000 in
theorem Start_any (arsA codeA : Option Addr) (arsC codeC : Nat) (ars : List Ar) (regs spills : Int) (cd : List RI) (w : World) (hars : RowB w.heap.size w 2 arsA ars.length fun i j => (ars.getD i default).cell j)
    (hcd : RowB w.heap.size w 5 codeA cd.length fun i j => (cd.getD i default).cell j) (hA : ars.length ≤ 9223372036854775807) (hC : cd.length ≤ 9223372036854775807) (harg : ∀ i ∈ cd, 0 ≤ i.arg ∧ i.arg < 4294967296) :
    Calls Try.prog 11 #[.agg #[.slice arsA ars.length arsC, .int .i64 regs, .int .i64 spills, .slice codeA cd.length codeC]] w (StartPost ars regs spills cd w) := by
  have HARS := Lib.hid hars
  have HCD := Lib.hid hcd
  have HARG := Lib.hid harg
  clear hars hcd harg
  have hb : Below w.heap.size w ((w.alloc (.cells #[.slice arsA ars.length arsC, .int .i64 regs, .int .i64 spills, .slice codeA cd.length codeC] 25)).alloc (.cells #[.slice none 0 0, .slice none 0 0] 31)) := ((Below.refl _ _).alloc (by simp) _).alloc (by simp) _
  have hk1 : ((w.alloc (.cells #[.slice arsA ars.length arsC, .int .i64 regs, .int .i64 spills, .slice codeA cd.length codeC] 25)).alloc (.cells #[.slice none 0 0, .slice none 0 0] 31)).heap[w.heap.size]? = some (.cells #[.slice arsA ars.length arsC, .int .i64 regs, .int .i64 spills, .slice codeA cd.length codeC] 25) := by
    rw [Below.heap_alloc _ _ _ (by simp)]; exact heap_new1 _ _
  have HB := Lib.hid (And.intro hb (And.intro hk1 (heap_new2 w (.cells #[.slice arsA ars.length arsC, .int .i64 regs, .int .i64 spills, .slice codeA cd.length codeC] 25) (.cells #[.slice none 0 0, .slice none 0 0] 31))))
  clear hb hk1
  go_enter Try.func11, Try.ntmps11
  go_upto_region 1 with (fail)
  refine wp_gen (fun W => Below w.heap.size w W ∧ Blk W w.heap.size [.slice arsA ars.length arsC, .int .i64 regs, .int .i64 spills, .slice codeA cd.length codeC] 25 ∧ Blk W (w.heap.size + 1) [.slice none 0 0, .slice none 0 0] 31) HB.out ?_
  rintro W ⟨hbW, hbk, hres⟩
  clear HB
  have a0 : W.cell? ⟨w.heap.size, 0, none⟩ = some (.slice arsA ars.length arsC) := hbk.cell 0
  have a1 : W.cell? ⟨w.heap.size, 0 + 1, none⟩ = some (.int .i64 regs) := hbk.cell 1
  have a2 : W.cell? ⟨w.heap.size, 0 + 1 + 1, none⟩ = some (.int .i64 spills) := hbk.cell 2
  have a3 : W.cell? ⟨w.heap.size, 0 + 1 + 1 + 1, none⟩ = some (.slice codeA cd.length codeC) := hbk.cell 3
  have HCH := Lib.hid (Check_any arsA codeA arsC codeC ars regs spills cd W ((HARS.out.below hbW).mono hbW.size) ((HCD.out.below hbW).mono hbW.size) hA hC HARG.out)
  have hWl := hres.lt
  have HW := Lib.hid (And.intro hbW (And.intro hbk hres))
  clear hbW hbk hres
  obtain ⟨ce, hce⟩ : ∃ ce, chkCode ars regs spills cd = ce := ⟨_, rfl⟩
  have HCE := Lib.hid hce
  clear hce
  by_cases hz : ce.2 = 0
  · have G := chk_good (ars := ars) (regs := regs) (spills := spills) (cd := cd) (by rw [HCE.out]; exact hz)
    have HZ := Lib.hid hz
    have HG := Lib.hid G
    clear hz G
    go_wp2_with fail
    refine HCH.out.mono ?_
    rintro e Y ⟨he, hbY⟩
    rw [HCE.out, HZ.out] at he
    subst he
    have y0 : Y.cell? ⟨w.heap.size, 0, none⟩ = some (.slice arsA ars.length arsC) := by rw [hbY.cell (p := ⟨w.heap.size, 0, none⟩) (by show w.heap.size < W.heap.size; omega)]; exact a0
    have hYl : w.heap.size + 1 < Y.heap.size := by have := hbY.size; omega
    have hwY : Below w.heap.size w Y := HW.out.1.trans (hbY.mono HW.out.1.size)
    have hres : Blk Y (w.heap.size + 1) [.slice none 0 0, .slice none 0 0] 31 := HW.out.2.2.below hbY hWl
    have HST := Lib.hid (start_any arsA arsC ars Y ((HARS.out.below hwY).mono hwY.size) HG.out.hnA HG.out.hars)
    have HY := Lib.hid (And.intro hwY hres)
    clear hbY hwY hres a0 a1 a2 a3
    go_wp2_with fail
    refine HST.out.mono ?_
    rintro e X ⟨v, τ, ab, ac, cb, cc, rfl, hgo, hcx, tcb, hcb, hbX⟩
    obtain ⟨va, vc, rfl⟩ := grid_slice' hgo
    have hresX : Blk X (w.heap.size + 1) [.slice none 0 0, .slice none 0 0] 31 := HY.out.2.below hbX hYl
    have z0 : X.cell? ⟨w.heap.size + 1, 0, none⟩ = some (.slice none 0 0) := hresX.cell 0
    have z1 : X.cell? ⟨w.heap.size + 1, 0 + 1, none⟩ = some (.slice none 0 0) := hresX.cell 1
    have f0 := hresX.frozen 0
    have f1 := hresX.frozen (0 + 1)
    have hzl : (zeros ars).length = ars.length := by simp [zeros]
    have HX := Lib.hid (And.intro hgo (And.intro hcx (And.intro hcb (And.intro hbX (And.intro hresX hzl)))))
    clear hgo hcx hcb hbX hresX hzl tcb
    go_wp2
    refine bodyPost_ret (v := .tuple #[.agg #[.slice va (zeros ars).length vc, .slice (some ⟨cb, 0, none⟩) (List.replicate 16 (0 : Int)).length cc], .int .i64 0]) ?_ rfl ?_
    · have e0 := (HX.out.2.2.2.2.1.set 0 (.slice va (zeros ars).length vc)).set 1 (.slice (some ⟨cb, 0, none⟩) (List.replicate 16 (0 : Int)).length cc)
      have x0 := e0.cell 0
      have x1 := e0.cell 1
      simp only [List.set_cons_zero, List.set_cons_succ, List.getElem?_cons_zero, List.getElem?_cons_succ] at x0 x1
      simp [results, Try.results11, go_sem] at x0 x1 ⊢
      simp [x0, x1]
    · obtain ⟨hgo, ⟨t9, ht9⟩, hcb, hbX, hresX, hzl⟩ := HX.out
      have hx : w.heap.size ≤ w.heap.size + 1 := by omega
      refine ⟨((HY.out.1.trans (hbX.mono HY.out.1.size)).setCell hx _).setCell hx _, ?_⟩
      rw [if_pos (by rw [HCE.out, HZ.out])]
      have same : ∀ (w2 : World), (∀ k, w.heap.size ≤ k → w2.heap[k]? = ((X.setCell ⟨w.heap.size + 1, 0, none⟩ (.slice va (zeros ars).length vc)).setCell ⟨w.heap.size + 1, 1, none⟩ (.slice (some ⟨cb, 0, none⟩) 16 cc)).heap[k]?) → ∀ k, Y.heap.size ≤ k → w2.heap[k]? = X.heap[k]? := fun w2 h2 k hk => by
        have hne : k ≠ w.heap.size + 1 := by omega
        rw [h2 k (by omega), Below.heap_setCell _ _ _ _ hne, Below.heap_setCell _ _ _ _ hne]
      refine ⟨_, rfl, fun w2 h2 => ⟨va, vc, some ⟨cb, 0, none⟩, cc, rfl, ?_, cb, 0, rfl, fun j hj => ?_⟩⟩
      · exact (hgo.above (same w2 h2)).at rfl
      · have ht2 : Blk w2 cb (ints .u32 (List.replicate 16 0) ++ t9) 42 := by unfold Blk; rw [same w2 h2 cb hcb]; exact ht9
        rw [Nat.zero_add]
        exact (ht2.cell j).trans (ints_get_app hj)
  · have hne : (ce.2 != 0) = true := by simpa using hz
    have HZ := Lib.hid hz
    clear hz
    go_wp2_with fail
    refine HCH.out.mono ?_
    rintro e Y ⟨he, hbY⟩
    rw [HCE.out] at he
    subst he
    have hYl : w.heap.size + 1 < Y.heap.size := by have := hbY.size; omega
    have hres : Blk Y (w.heap.size + 1) [.slice none 0 0, .slice none 0 0] 31 := HW.out.2.2.below hbY hWl
    have z0 : Y.cell? ⟨w.heap.size + 1, 0, none⟩ = some (.slice none 0 0) := hres.cell 0
    have z1 : Y.cell? ⟨w.heap.size + 1, 0 + 1, none⟩ = some (.slice none 0 0) := hres.cell 1
    have f0 := hres.frozen 0
    have f1 := hres.frozen (0 + 1)
    have HY := Lib.hid (And.intro hbY hres)
    clear hbY hres
    go_wp2
    refine bodyPost_ret (v := .tuple #[zeroMemV, .int .i64 ce.2]) ?_ rfl ?_
    · have e0 := (HY.out.2.set 0 (.slice none 0 0)).set 1 (.slice none 0 0)
      have x0 := e0.cell 0
      have x1 := e0.cell 1
      simp only [List.set_cons_zero, List.set_cons_succ, List.getElem?_cons_zero, List.getElem?_cons_succ] at x0 x1
      simp [results, Try.results11, go_sem, x0, x1, zeroMemV]
    · have hx : w.heap.size ≤ w.heap.size + 1 := by omega
      refine ⟨((HW.out.1.trans (HY.out.1.mono HW.out.1.size)).setCell hx _).setCell hx _, ?_⟩
      rw [if_neg (by rw [HCE.out]; exact HZ.out), HCE.out]
end Go.Proofs.Ytefdnjhhaejgbaa

namespace Go.Proofs.Ytefdnjhhaejgbaa
open Go.RowKit
set_option linter.unusedVariables false
def RI.box (i : RI) : Value := .agg #[.int .i64 i.op, .int .i64 i.to, .int .i64 i.a, .int .i64 i.b, .int .u32 i.arg]
def InsBoxes (w : World) (c1 c2 : List Value) (z : World) : Prop :=
  Below w.heap.size w z ∧ Blk z w.heap.size c1 25 ∧ Blk z (w.heap.size + 1) c2 61 ∧ z.heap.size = w.heap.size + 2
theorem ins_boxes (w : World) (c1 c2 : List Value) : InsBoxes w c1 c2 ((w.alloc (.cells c1.toArray 25)).alloc (.cells c2.toArray 61)) := by
  refine ⟨((Below.refl _ _).alloc (by simp) _).alloc (by simp) _, ?_, ?_, by simp⟩
  · unfold Blk
    rw [Below.heap_alloc _ _ _ (by simp)]
    exact heap_new1 _ _
  · have := heap_new1 (w.alloc (.cells c1.toArray 25)) (.cells c2.toArray 61)
    unfold Blk
    simpa using this
set_option maxRecDepth 100000 in
set_option maxHeartbeats 1000000 in
theorem instruction_0 (arsA codeA : Option Addr) (nA arsC nC codeC : Nat) (regs spills : Int) (op to a bb arg : Int) (w : World) (hA : nA ≤ 9223372036854775807) (harg : 0 ≤ arg ∧ arg < 4294967296) (u1 u2 u3 : Bool) (hu1 : usesTo op = u1) (hu2 : usesA op = u2) (hu3 : usesB op = u3)
    (hk : isOp op = false) :
    Calls Try.prog 48 #[.agg #[.slice arsA nA arsC, .int .i64 regs, .int .i64 spills, .slice codeA nC codeC], .agg #[.int .i64 op, .int .i64 to, .int .i64 a, .int .i64 bb, .int .u32 arg]] w fun e w' =>
      e = .returned (.int .i64 1)
      ∧ Below w.heap.size w w' := by
  have hparts : ∀ W, Calls Try.prog 80 #[.int .i64 op] W fun e w' => e = .returned (.tuple #[.bool u1, .bool u2, .bool u3, .bool (isOp op)]) ∧ w' = W := fun W => by
    have := parts_any op W
    rw [hu1, hu2, hu3] at this
    exact this
  rw [hk] at hparts
  have HP := Lib.hid hparts
  clear hparts hk hu1 hu2 hu3
  go_enter Try.func48, Try.ntmps48
  go_upto_region 1 with (fail)
  refine wp_gen _ (ins_boxes w [.slice arsA nA arsC, .int .i64 regs, .int .i64 spills, .slice codeA nC codeC] [.int .i64 op, .int .i64 to, .int .i64 a, .int .i64 bb, .int .u32 arg]) ?_
  rintro z ⟨hb, b1, b2, hz⟩
  have a0 : z.cell? ⟨w.heap.size, 0, none⟩ = some (.slice arsA nA arsC) := b1.cell 0
  have a1 : z.cell? ⟨w.heap.size, 1, none⟩ = some (.int .i64 regs) := b1.cell 1
  have a1' : z.cell? ⟨w.heap.size, 0 + 1, none⟩ = some (.int .i64 regs) := b1.cell 1
  have a2 : z.cell? ⟨w.heap.size, 0 + 1 + 1, none⟩ = some (.int .i64 spills) := b1.cell 2
  have a3 : z.cell? ⟨w.heap.size, 0 + 1 + 1 + 1, none⟩ = some (.slice codeA nC codeC) := b1.cell 3
  have c0 : z.cell? ⟨w.heap.size + 1, 0, none⟩ = some (.int .i64 op) := b2.cell 0
  have c1 : z.cell? ⟨w.heap.size + 1, 1, none⟩ = some (.int .i64 to) := b2.cell 1
  have c2 : z.cell? ⟨w.heap.size + 1, 2, none⟩ = some (.int .i64 a) := b2.cell 2
  have c3 : z.cell? ⟨w.heap.size + 1, 3, none⟩ = some (.int .i64 bb) := b2.cell 3
  have c4 : z.cell? ⟨w.heap.size + 1, 4, none⟩ = some (.int .u32 arg) := b2.cell 4
  have l0 : w.heap.size < z.heap.size := by omega
  have l1 : w.heap.size + 1 < z.heap.size := by omega
  have HB := Lib.hid hb
  clear hb b1 b2 hz
  go_wp2_with fail
  refine (HP.out z).mono ?_
  rintro e z2 ⟨rfl, rfl⟩
  go_wp2
  go_ret
  exact ⟨rfl, HB.out⟩
set_option maxRecDepth 100000 in
set_option maxHeartbeats 1000000 in
theorem instruction_1 (arsA codeA : Option Addr) (nA arsC nC codeC : Nat) (regs spills : Int) (op to a bb arg : Int) (w : World) (hA : nA ≤ 9223372036854775807) (harg : 0 ≤ arg ∧ arg < 4294967296) (u1 u2 u3 : Bool) (hu1 : usesTo op = u1) (hu2 : usesA op = u2) (hu3 : usesB op = u3)
    (hk : isOp op = true) (e1 : rightReg regs to u1 = false) :
    Calls Try.prog 48 #[.agg #[.slice arsA nA arsC, .int .i64 regs, .int .i64 spills, .slice codeA nC codeC], .agg #[.int .i64 op, .int .i64 to, .int .i64 a, .int .i64 bb, .int .u32 arg]] w fun e w' =>
      e = .returned (.int .i64 2)
      ∧ Below w.heap.size w w' := by
  have hparts : ∀ W, Calls Try.prog 80 #[.int .i64 op] W fun e w' => e = .returned (.tuple #[.bool u1, .bool u2, .bool u3, .bool (isOp op)]) ∧ w' = W := fun W => by
    have := parts_any op W
    rw [hu1, hu2, hu3] at this
    exact this
  rw [hk] at hparts
  have HP := Lib.hid hparts
  clear hparts hk hu1 hu2 hu3
  go_enter Try.func48, Try.ntmps48
  go_upto_region 1 with (fail)
  refine wp_gen _ (ins_boxes w [.slice arsA nA arsC, .int .i64 regs, .int .i64 spills, .slice codeA nC codeC] [.int .i64 op, .int .i64 to, .int .i64 a, .int .i64 bb, .int .u32 arg]) ?_
  rintro z ⟨hb, b1, b2, hz⟩
  have a0 : z.cell? ⟨w.heap.size, 0, none⟩ = some (.slice arsA nA arsC) := b1.cell 0
  have a1 : z.cell? ⟨w.heap.size, 1, none⟩ = some (.int .i64 regs) := b1.cell 1
  have a1' : z.cell? ⟨w.heap.size, 0 + 1, none⟩ = some (.int .i64 regs) := b1.cell 1
  have a2 : z.cell? ⟨w.heap.size, 0 + 1 + 1, none⟩ = some (.int .i64 spills) := b1.cell 2
  have a3 : z.cell? ⟨w.heap.size, 0 + 1 + 1 + 1, none⟩ = some (.slice codeA nC codeC) := b1.cell 3
  have c0 : z.cell? ⟨w.heap.size + 1, 0, none⟩ = some (.int .i64 op) := b2.cell 0
  have c1 : z.cell? ⟨w.heap.size + 1, 1, none⟩ = some (.int .i64 to) := b2.cell 1
  have c2 : z.cell? ⟨w.heap.size + 1, 2, none⟩ = some (.int .i64 a) := b2.cell 2
  have c3 : z.cell? ⟨w.heap.size + 1, 3, none⟩ = some (.int .i64 bb) := b2.cell 3
  have c4 : z.cell? ⟨w.heap.size + 1, 4, none⟩ = some (.int .u32 arg) := b2.cell 4
  have l0 : w.heap.size < z.heap.size := by omega
  have l1 : w.heap.size + 1 < z.heap.size := by omega
  have HB := Lib.hid hb
  clear hb b1 b2 hz
  go_wp2_with fail
  refine (HP.out z).mono ?_
  rintro e z2 ⟨rfl, rfl⟩
  go_wp2_with fail
  refine wp_region_keeps [0, 2, 3, 8, 10, 11, 17, 19, 20, 26, 30, 28] [(2, 0), (2, 2), (2, 3), (1, 1), (1, 4), (0, 5), (0, 6), (0, 7), (2, 8), (2, 10), (2, 11), (1, 9), (0, 12), (0, 13), (0, 14), (0, 15), (0, 16), (2, 17), (2, 19), (2, 20), (1, 18), (0, 21), (0, 22), (0, 23), (0, 24), (0, 25), (2, 26), (2, 30), (1, 27), (2, 28), (1, 29), (0, 31), (0, 32), (0, 33), (0, 34)] (by kernel_rfl) (by kernel_rfl) (fun c a d v w h => by cases d <;> exact h) ?_
  simp only [getPlan, List.filterMap_cons, List.filterMap_nil, List.getElem?_toArray, List.getElem?_cons_succ, List.getElem?_cons_zero, Option.map_some]
  repeat ((first | refine wpPlanK_pure (fun K hK => ?_) | refine wpPlanK_float (fun K hK => ?_)); go_simp; refine hK _ ?_; clear hK K)
  repeat (first
    | ((first | refine wpPlanK_pure (fun K hK => ?_) | refine wpPlanK_float (fun K hK => ?_)); go_simp; refine hK _ ?_; clear hK K)
    | (refine wpPlanK_keep ?_; go_wp2_with (first | (go_at_call 81; refine (register_any _ _ _ _).mono ?_; rintro e w' ⟨rfl, rfl⟩) | (go_at_call 82; refine (limit_any _ _ _ _ _ _ _ _ _ _).mono ?_; rintro e w9 ⟨rfl, hb9⟩)); refine ⟨by first | exact grew_below (Below.refl _ _).drew | exact grew_below (below_undrew hb9), ?_⟩))
  refine wpPlanK_nil ?_
  go_wp2
  go_ret
  exact ⟨rfl, by first | exact HB.out.drew | exact HB.out.trans ((below_undrew hb9).mono HB.out.size)⟩
set_option maxRecDepth 100000 in
set_option maxHeartbeats 1000000 in
theorem instruction_2 (arsA codeA : Option Addr) (nA arsC nC codeC : Nat) (regs spills : Int) (op to a bb arg : Int) (w : World) (hA : nA ≤ 9223372036854775807) (harg : 0 ≤ arg ∧ arg < 4294967296) (u1 u2 u3 : Bool) (hu1 : usesTo op = u1) (hu2 : usesA op = u2) (hu3 : usesB op = u3)
    (hk : isOp op = true) (e1 : rightReg regs to u1 = true) (e2 : rightReg regs a u2 = false) :
    Calls Try.prog 48 #[.agg #[.slice arsA nA arsC, .int .i64 regs, .int .i64 spills, .slice codeA nC codeC], .agg #[.int .i64 op, .int .i64 to, .int .i64 a, .int .i64 bb, .int .u32 arg]] w fun e w' =>
      e = .returned (.int .i64 2)
      ∧ Below w.heap.size w w' := by
  have hparts : ∀ W, Calls Try.prog 80 #[.int .i64 op] W fun e w' => e = .returned (.tuple #[.bool u1, .bool u2, .bool u3, .bool (isOp op)]) ∧ w' = W := fun W => by
    have := parts_any op W
    rw [hu1, hu2, hu3] at this
    exact this
  rw [hk] at hparts
  have HP := Lib.hid hparts
  clear hparts hk hu1 hu2 hu3
  go_enter Try.func48, Try.ntmps48
  go_upto_region 1 with (fail)
  refine wp_gen _ (ins_boxes w [.slice arsA nA arsC, .int .i64 regs, .int .i64 spills, .slice codeA nC codeC] [.int .i64 op, .int .i64 to, .int .i64 a, .int .i64 bb, .int .u32 arg]) ?_
  rintro z ⟨hb, b1, b2, hz⟩
  have a0 : z.cell? ⟨w.heap.size, 0, none⟩ = some (.slice arsA nA arsC) := b1.cell 0
  have a1 : z.cell? ⟨w.heap.size, 1, none⟩ = some (.int .i64 regs) := b1.cell 1
  have a1' : z.cell? ⟨w.heap.size, 0 + 1, none⟩ = some (.int .i64 regs) := b1.cell 1
  have a2 : z.cell? ⟨w.heap.size, 0 + 1 + 1, none⟩ = some (.int .i64 spills) := b1.cell 2
  have a3 : z.cell? ⟨w.heap.size, 0 + 1 + 1 + 1, none⟩ = some (.slice codeA nC codeC) := b1.cell 3
  have c0 : z.cell? ⟨w.heap.size + 1, 0, none⟩ = some (.int .i64 op) := b2.cell 0
  have c1 : z.cell? ⟨w.heap.size + 1, 1, none⟩ = some (.int .i64 to) := b2.cell 1
  have c2 : z.cell? ⟨w.heap.size + 1, 2, none⟩ = some (.int .i64 a) := b2.cell 2
  have c3 : z.cell? ⟨w.heap.size + 1, 3, none⟩ = some (.int .i64 bb) := b2.cell 3
  have c4 : z.cell? ⟨w.heap.size + 1, 4, none⟩ = some (.int .u32 arg) := b2.cell 4
  have l0 : w.heap.size < z.heap.size := by omega
  have l1 : w.heap.size + 1 < z.heap.size := by omega
  have HB := Lib.hid hb
  clear hb b1 b2 hz
  go_wp2_with fail
  refine (HP.out z).mono ?_
  rintro e z2 ⟨rfl, rfl⟩
  go_wp2_with fail
  refine wp_region_keeps [0, 2, 3, 8, 10, 11, 17, 19, 20, 26, 30, 28] [(2, 0), (2, 2), (2, 3), (1, 1), (1, 4), (0, 5), (0, 6), (0, 7), (2, 8), (2, 10), (2, 11), (1, 9), (0, 12), (0, 13), (0, 14), (0, 15), (0, 16), (2, 17), (2, 19), (2, 20), (1, 18), (0, 21), (0, 22), (0, 23), (0, 24), (0, 25), (2, 26), (2, 30), (1, 27), (2, 28), (1, 29), (0, 31), (0, 32), (0, 33), (0, 34)] (by kernel_rfl) (by kernel_rfl) (fun c a d v w h => by cases d <;> exact h) ?_
  simp only [getPlan, List.filterMap_cons, List.filterMap_nil, List.getElem?_toArray, List.getElem?_cons_succ, List.getElem?_cons_zero, Option.map_some]
  repeat ((first | refine wpPlanK_pure (fun K hK => ?_) | refine wpPlanK_float (fun K hK => ?_)); go_simp; refine hK _ ?_; clear hK K)
  repeat (first
    | ((first | refine wpPlanK_pure (fun K hK => ?_) | refine wpPlanK_float (fun K hK => ?_)); go_simp; refine hK _ ?_; clear hK K)
    | (refine wpPlanK_keep ?_; go_wp2_with (first | (go_at_call 81; refine (register_any _ _ _ _).mono ?_; rintro e w' ⟨rfl, rfl⟩) | (go_at_call 82; refine (limit_any _ _ _ _ _ _ _ _ _ _).mono ?_; rintro e w9 ⟨rfl, hb9⟩)); refine ⟨by first | exact grew_below (Below.refl _ _).drew | exact grew_below (below_undrew hb9), ?_⟩))
  refine wpPlanK_nil ?_
  go_wp2
  go_ret
  exact ⟨rfl, by first | exact HB.out.drew | exact HB.out.trans ((below_undrew hb9).mono HB.out.size)⟩
set_option maxRecDepth 100000 in
set_option maxHeartbeats 1000000 in
theorem instruction_3 (arsA codeA : Option Addr) (nA arsC nC codeC : Nat) (regs spills : Int) (op to a bb arg : Int) (w : World) (hA : nA ≤ 9223372036854775807) (harg : 0 ≤ arg ∧ arg < 4294967296) (u1 u2 u3 : Bool) (hu1 : usesTo op = u1) (hu2 : usesA op = u2) (hu3 : usesB op = u3)
    (hk : isOp op = true) (e1 : rightReg regs to u1 = true) (e2 : rightReg regs a u2 = true) (e3 : rightReg regs bb u3 = false) :
    Calls Try.prog 48 #[.agg #[.slice arsA nA arsC, .int .i64 regs, .int .i64 spills, .slice codeA nC codeC], .agg #[.int .i64 op, .int .i64 to, .int .i64 a, .int .i64 bb, .int .u32 arg]] w fun e w' =>
      e = .returned (.int .i64 2)
      ∧ Below w.heap.size w w' := by
  have hparts : ∀ W, Calls Try.prog 80 #[.int .i64 op] W fun e w' => e = .returned (.tuple #[.bool u1, .bool u2, .bool u3, .bool (isOp op)]) ∧ w' = W := fun W => by
    have := parts_any op W
    rw [hu1, hu2, hu3] at this
    exact this
  rw [hk] at hparts
  have HP := Lib.hid hparts
  clear hparts hk hu1 hu2 hu3
  go_enter Try.func48, Try.ntmps48
  go_upto_region 1 with (fail)
  refine wp_gen _ (ins_boxes w [.slice arsA nA arsC, .int .i64 regs, .int .i64 spills, .slice codeA nC codeC] [.int .i64 op, .int .i64 to, .int .i64 a, .int .i64 bb, .int .u32 arg]) ?_
  rintro z ⟨hb, b1, b2, hz⟩
  have a0 : z.cell? ⟨w.heap.size, 0, none⟩ = some (.slice arsA nA arsC) := b1.cell 0
  have a1 : z.cell? ⟨w.heap.size, 1, none⟩ = some (.int .i64 regs) := b1.cell 1
  have a1' : z.cell? ⟨w.heap.size, 0 + 1, none⟩ = some (.int .i64 regs) := b1.cell 1
  have a2 : z.cell? ⟨w.heap.size, 0 + 1 + 1, none⟩ = some (.int .i64 spills) := b1.cell 2
  have a3 : z.cell? ⟨w.heap.size, 0 + 1 + 1 + 1, none⟩ = some (.slice codeA nC codeC) := b1.cell 3
  have c0 : z.cell? ⟨w.heap.size + 1, 0, none⟩ = some (.int .i64 op) := b2.cell 0
  have c1 : z.cell? ⟨w.heap.size + 1, 1, none⟩ = some (.int .i64 to) := b2.cell 1
  have c2 : z.cell? ⟨w.heap.size + 1, 2, none⟩ = some (.int .i64 a) := b2.cell 2
  have c3 : z.cell? ⟨w.heap.size + 1, 3, none⟩ = some (.int .i64 bb) := b2.cell 3
  have c4 : z.cell? ⟨w.heap.size + 1, 4, none⟩ = some (.int .u32 arg) := b2.cell 4
  have l0 : w.heap.size < z.heap.size := by omega
  have l1 : w.heap.size + 1 < z.heap.size := by omega
  have HB := Lib.hid hb
  clear hb b1 b2 hz
  go_wp2_with fail
  refine (HP.out z).mono ?_
  rintro e z2 ⟨rfl, rfl⟩
  go_wp2_with fail
  refine wp_region_keeps [0, 2, 3, 8, 10, 11, 17, 19, 20, 26, 30, 28] [(2, 0), (2, 2), (2, 3), (1, 1), (1, 4), (0, 5), (0, 6), (0, 7), (2, 8), (2, 10), (2, 11), (1, 9), (0, 12), (0, 13), (0, 14), (0, 15), (0, 16), (2, 17), (2, 19), (2, 20), (1, 18), (0, 21), (0, 22), (0, 23), (0, 24), (0, 25), (2, 26), (2, 30), (1, 27), (2, 28), (1, 29), (0, 31), (0, 32), (0, 33), (0, 34)] (by kernel_rfl) (by kernel_rfl) (fun c a d v w h => by cases d <;> exact h) ?_
  simp only [getPlan, List.filterMap_cons, List.filterMap_nil, List.getElem?_toArray, List.getElem?_cons_succ, List.getElem?_cons_zero, Option.map_some]
  repeat ((first | refine wpPlanK_pure (fun K hK => ?_) | refine wpPlanK_float (fun K hK => ?_)); go_simp; refine hK _ ?_; clear hK K)
  repeat (first
    | ((first | refine wpPlanK_pure (fun K hK => ?_) | refine wpPlanK_float (fun K hK => ?_)); go_simp; refine hK _ ?_; clear hK K)
    | (refine wpPlanK_keep ?_; go_wp2_with (first | (go_at_call 81; refine (register_any _ _ _ _).mono ?_; rintro e w' ⟨rfl, rfl⟩) | (go_at_call 82; refine (limit_any _ _ _ _ _ _ _ _ _ _).mono ?_; rintro e w9 ⟨rfl, hb9⟩)); refine ⟨by first | exact grew_below (Below.refl _ _).drew | exact grew_below (below_undrew hb9), ?_⟩))
  refine wpPlanK_nil ?_
  go_wp2
  go_ret
  exact ⟨rfl, by first | exact HB.out.drew | exact HB.out.trans ((below_undrew hb9).mono HB.out.size)⟩
set_option maxRecDepth 100000 in
set_option maxHeartbeats 1000000 in
theorem instruction_4 (arsA codeA : Option Addr) (nA arsC nC codeC : Nat) (regs spills : Int) (op to a bb arg : Int) (w : World) (hA : nA ≤ 9223372036854775807) (harg : 0 ≤ arg ∧ arg < 4294967296) (u1 u2 u3 : Bool) (hu1 : usesTo op = u1) (hu2 : usesA op = u2) (hu3 : usesB op = u3)
    (hk : isOp op = true) (e1 : rightReg regs to u1 = true) (e2 : rightReg regs a u2 = true) (e3 : rightReg regs bb u3 = true) (e4 : decide (limitOf nA spills op ≤ arg) = true) :
    Calls Try.prog 48 #[.agg #[.slice arsA nA arsC, .int .i64 regs, .int .i64 spills, .slice codeA nC codeC], .agg #[.int .i64 op, .int .i64 to, .int .i64 a, .int .i64 bb, .int .u32 arg]] w fun e w' =>
      e = .returned (.int .i64 2)
      ∧ Below w.heap.size w w' := by
  have hparts : ∀ W, Calls Try.prog 80 #[.int .i64 op] W fun e w' => e = .returned (.tuple #[.bool u1, .bool u2, .bool u3, .bool (isOp op)]) ∧ w' = W := fun W => by
    have := parts_any op W
    rw [hu1, hu2, hu3] at this
    exact this
  rw [hk] at hparts
  have HP := Lib.hid hparts
  clear hparts hk hu1 hu2 hu3
  go_enter Try.func48, Try.ntmps48
  go_upto_region 1 with (fail)
  refine wp_gen _ (ins_boxes w [.slice arsA nA arsC, .int .i64 regs, .int .i64 spills, .slice codeA nC codeC] [.int .i64 op, .int .i64 to, .int .i64 a, .int .i64 bb, .int .u32 arg]) ?_
  rintro z ⟨hb, b1, b2, hz⟩
  have a0 : z.cell? ⟨w.heap.size, 0, none⟩ = some (.slice arsA nA arsC) := b1.cell 0
  have a1 : z.cell? ⟨w.heap.size, 1, none⟩ = some (.int .i64 regs) := b1.cell 1
  have a1' : z.cell? ⟨w.heap.size, 0 + 1, none⟩ = some (.int .i64 regs) := b1.cell 1
  have a2 : z.cell? ⟨w.heap.size, 0 + 1 + 1, none⟩ = some (.int .i64 spills) := b1.cell 2
  have a3 : z.cell? ⟨w.heap.size, 0 + 1 + 1 + 1, none⟩ = some (.slice codeA nC codeC) := b1.cell 3
  have c0 : z.cell? ⟨w.heap.size + 1, 0, none⟩ = some (.int .i64 op) := b2.cell 0
  have c1 : z.cell? ⟨w.heap.size + 1, 1, none⟩ = some (.int .i64 to) := b2.cell 1
  have c2 : z.cell? ⟨w.heap.size + 1, 2, none⟩ = some (.int .i64 a) := b2.cell 2
  have c3 : z.cell? ⟨w.heap.size + 1, 3, none⟩ = some (.int .i64 bb) := b2.cell 3
  have c4 : z.cell? ⟨w.heap.size + 1, 4, none⟩ = some (.int .u32 arg) := b2.cell 4
  have l0 : w.heap.size < z.heap.size := by omega
  have l1 : w.heap.size + 1 < z.heap.size := by omega
  have HB := Lib.hid hb
  clear hb b1 b2 hz
  go_wp2_with fail
  refine (HP.out z).mono ?_
  rintro e z2 ⟨rfl, rfl⟩
  go_wp2_with fail
  refine wp_region_keeps [0, 2, 3, 8, 10, 11, 17, 19, 20, 26, 30, 28] [(2, 0), (2, 2), (2, 3), (1, 1), (1, 4), (0, 5), (0, 6), (0, 7), (2, 8), (2, 10), (2, 11), (1, 9), (0, 12), (0, 13), (0, 14), (0, 15), (0, 16), (2, 17), (2, 19), (2, 20), (1, 18), (0, 21), (0, 22), (0, 23), (0, 24), (0, 25), (2, 26), (2, 30), (1, 27), (2, 28), (1, 29), (0, 31), (0, 32), (0, 33), (0, 34)] (by kernel_rfl) (by kernel_rfl) (fun c a d v w h => by cases d <;> exact h) ?_
  simp only [getPlan, List.filterMap_cons, List.filterMap_nil, List.getElem?_toArray, List.getElem?_cons_succ, List.getElem?_cons_zero, Option.map_some]
  repeat ((first | refine wpPlanK_pure (fun K hK => ?_) | refine wpPlanK_float (fun K hK => ?_)); go_simp; refine hK _ ?_; clear hK K)
  repeat (first
    | ((first | refine wpPlanK_pure (fun K hK => ?_) | refine wpPlanK_float (fun K hK => ?_)); go_simp; refine hK _ ?_; clear hK K)
    | (refine wpPlanK_keep ?_; go_wp2_with (first | (go_at_call 81; refine (register_any _ _ _ _).mono ?_; rintro e w' ⟨rfl, rfl⟩) | (go_at_call 82; refine (limit_any _ _ _ _ _ _ _ _ _ _).mono ?_; rintro e w9 ⟨rfl, hb9⟩)); refine ⟨by first | exact grew_below (Below.refl _ _).drew | exact grew_below (below_undrew hb9), ?_⟩))
  refine wpPlanK_nil ?_
  go_wp2
  go_ret
  exact ⟨rfl, by first | exact HB.out.drew | exact HB.out.trans ((below_undrew hb9).mono HB.out.size)⟩
set_option maxRecDepth 100000 in
set_option maxHeartbeats 1000000 in
theorem instruction_5 (arsA codeA : Option Addr) (nA arsC nC codeC : Nat) (regs spills : Int) (op to a bb arg : Int) (w : World) (hA : nA ≤ 9223372036854775807) (harg : 0 ≤ arg ∧ arg < 4294967296) (u1 u2 u3 : Bool) (hu1 : usesTo op = u1) (hu2 : usesA op = u2) (hu3 : usesB op = u3)
    (hk : isOp op = true) (e1 : rightReg regs to u1 = true) (e2 : rightReg regs a u2 = true) (e3 : rightReg regs bb u3 = true) (e4 : decide (limitOf nA spills op ≤ arg) = false) :
    Calls Try.prog 48 #[.agg #[.slice arsA nA arsC, .int .i64 regs, .int .i64 spills, .slice codeA nC codeC], .agg #[.int .i64 op, .int .i64 to, .int .i64 a, .int .i64 bb, .int .u32 arg]] w fun e w' =>
      e = .returned (.int .i64 0)
      ∧ Below w.heap.size w w' := by
  have hparts : ∀ W, Calls Try.prog 80 #[.int .i64 op] W fun e w' => e = .returned (.tuple #[.bool u1, .bool u2, .bool u3, .bool (isOp op)]) ∧ w' = W := fun W => by
    have := parts_any op W
    rw [hu1, hu2, hu3] at this
    exact this
  rw [hk] at hparts
  have HP := Lib.hid hparts
  clear hparts hk hu1 hu2 hu3
  go_enter Try.func48, Try.ntmps48
  go_upto_region 1 with (fail)
  refine wp_gen _ (ins_boxes w [.slice arsA nA arsC, .int .i64 regs, .int .i64 spills, .slice codeA nC codeC] [.int .i64 op, .int .i64 to, .int .i64 a, .int .i64 bb, .int .u32 arg]) ?_
  rintro z ⟨hb, b1, b2, hz⟩
  have a0 : z.cell? ⟨w.heap.size, 0, none⟩ = some (.slice arsA nA arsC) := b1.cell 0
  have a1 : z.cell? ⟨w.heap.size, 1, none⟩ = some (.int .i64 regs) := b1.cell 1
  have a1' : z.cell? ⟨w.heap.size, 0 + 1, none⟩ = some (.int .i64 regs) := b1.cell 1
  have a2 : z.cell? ⟨w.heap.size, 0 + 1 + 1, none⟩ = some (.int .i64 spills) := b1.cell 2
  have a3 : z.cell? ⟨w.heap.size, 0 + 1 + 1 + 1, none⟩ = some (.slice codeA nC codeC) := b1.cell 3
  have c0 : z.cell? ⟨w.heap.size + 1, 0, none⟩ = some (.int .i64 op) := b2.cell 0
  have c1 : z.cell? ⟨w.heap.size + 1, 1, none⟩ = some (.int .i64 to) := b2.cell 1
  have c2 : z.cell? ⟨w.heap.size + 1, 2, none⟩ = some (.int .i64 a) := b2.cell 2
  have c3 : z.cell? ⟨w.heap.size + 1, 3, none⟩ = some (.int .i64 bb) := b2.cell 3
  have c4 : z.cell? ⟨w.heap.size + 1, 4, none⟩ = some (.int .u32 arg) := b2.cell 4
  have l0 : w.heap.size < z.heap.size := by omega
  have l1 : w.heap.size + 1 < z.heap.size := by omega
  have HB := Lib.hid hb
  clear hb b1 b2 hz
  go_wp2_with fail
  refine (HP.out z).mono ?_
  rintro e z2 ⟨rfl, rfl⟩
  go_wp2_with fail
  refine wp_region_keeps [0, 2, 3, 8, 10, 11, 17, 19, 20, 26, 30, 28] [(2, 0), (2, 2), (2, 3), (1, 1), (1, 4), (0, 5), (0, 6), (0, 7), (2, 8), (2, 10), (2, 11), (1, 9), (0, 12), (0, 13), (0, 14), (0, 15), (0, 16), (2, 17), (2, 19), (2, 20), (1, 18), (0, 21), (0, 22), (0, 23), (0, 24), (0, 25), (2, 26), (2, 30), (1, 27), (2, 28), (1, 29), (0, 31), (0, 32), (0, 33), (0, 34)] (by kernel_rfl) (by kernel_rfl) (fun c a d v w h => by cases d <;> exact h) ?_
  simp only [getPlan, List.filterMap_cons, List.filterMap_nil, List.getElem?_toArray, List.getElem?_cons_succ, List.getElem?_cons_zero, Option.map_some]
  repeat ((first | refine wpPlanK_pure (fun K hK => ?_) | refine wpPlanK_float (fun K hK => ?_)); go_simp; refine hK _ ?_; clear hK K)
  repeat (first
    | ((first | refine wpPlanK_pure (fun K hK => ?_) | refine wpPlanK_float (fun K hK => ?_)); go_simp; refine hK _ ?_; clear hK K)
    | (refine wpPlanK_keep ?_; go_wp2_with (first | (go_at_call 81; refine (register_any _ _ _ _).mono ?_; rintro e w' ⟨rfl, rfl⟩) | (go_at_call 82; refine (limit_any _ _ _ _ _ _ _ _ _ _).mono ?_; rintro e w9 ⟨rfl, hb9⟩)); refine ⟨by first | exact grew_below (Below.refl _ _).drew | exact grew_below (below_undrew hb9), ?_⟩))
  refine wpPlanK_nil ?_
  go_wp2
  go_ret
  exact ⟨rfl, by first | exact HB.out.drew | exact HB.out.trans ((below_undrew hb9).mono HB.out.size)⟩
theorem instruction_any (arsA codeA : Option Addr) (nA arsC nC codeC : Nat) (regs spills : Int) (i : RI) (w : World) (hA : nA ≤ 9223372036854775807) (harg : 0 ≤ i.arg ∧ i.arg < 4294967296) :
    Calls Try.prog 48 #[.agg #[.slice arsA nA arsC, .int .i64 regs, .int .i64 spills, .slice codeA nC codeC], .agg #[.int .i64 i.op, .int .i64 i.to, .int .i64 i.a, .int .i64 i.b, .int .u32 i.arg]] w fun e w' => e = .returned (.int .i64 (chkI regs spills nA i)) ∧ Below w.heap.size w w' := by
  unfold chkI
  cases hk : isOp i.op with
  | false => exact instruction_0 arsA codeA nA arsC nC codeC regs spills i.op i.to i.a i.b i.arg w hA harg _ _ _ rfl rfl rfl hk
  | true =>
    rw [if_neg (by simp)]
    cases e1 : rightReg regs i.to (usesTo i.op) with
    | false =>
      rw [if_pos (.inl rfl)]
      exact instruction_1 arsA codeA nA arsC nC codeC regs spills i.op i.to i.a i.b i.arg w hA harg _ _ _ rfl rfl rfl hk e1
    | true =>
      cases e2 : rightReg regs i.a (usesA i.op) with
      | false =>
        rw [if_pos (.inr (.inl rfl))]
        exact instruction_2 arsA codeA nA arsC nC codeC regs spills i.op i.to i.a i.b i.arg w hA harg _ _ _ rfl rfl rfl hk e1 e2
      | true =>
        cases e3 : rightReg regs i.b (usesB i.op) with
        | false =>
          rw [if_pos (.inr (.inr (.inl rfl)))]
          exact instruction_3 arsA codeA nA arsC nC codeC regs spills i.op i.to i.a i.b i.arg w hA harg _ _ _ rfl rfl rfl hk e1 e2 e3
        | true =>
          by_cases h4 : mostArg nA spills i.op < i.arg
          · rw [if_pos (.inr (.inr (.inr h4)))]
            exact instruction_4 arsA codeA nA arsC nC codeC regs spills i.op i.to i.a i.b i.arg w hA harg _ _ _ rfl rfl rfl hk e1 e2 e3 (decide_eq_true (by unfold limitOf; omega))
          · rw [if_neg (by rintro (h | h | h | h) <;> first | cases h | exact h4 h)]
            exact instruction_5 arsA codeA nA arsC nC codeC regs spills i.op i.to i.a i.b i.arg w hA harg _ _ _ rfl rfl rfl hk e1 e2 e3 (decide_eq_false (by unfold limitOf; omega))
end Go.Proofs.Ytefdnjhhaejgbaa

namespace Go.Proofs.Ytefdnjhhaejgbaa
open Go.RowKit
set_option linter.unusedVariables false
def mkMC (ars : List Ar) (regs spills : Int) (cd : List RI) (input : Int) (ended : Bool) (fuel : Int) : MC := ⟨cd, ars, regs.toNat, spills.toNat, ptOf cd, input, ended, fuel⟩
def runRes (ars : List Ar) (regs spills : Int) (cd : List RI) (arr : List (List Int)) (ctx : List Int) (fuel : Int) (r : Except Int PS) : Except Int PS :=
  if (chkCode ars regs spills cd).2 ≠ 0 then .error (chkCode ars regs spills cd).2 else if fitsB ars arr ctx.length = false then .error 3 else if fuel < 0 ∨ 281474976710656 < fuel then .error 2 else r
theorem fits_lens {ars : List Ar} {arr : List (List Int)} {n : Nat} (h : fitsB ars arr n = true) : arr.length = ars.length ∧ n = 16 ∧ ∀ k, k < arr.length → ((arr.getD k []).length : Int) = (ars.getD k default).size := by
  unfold fitsB at h
  simp only [Bool.and_eq_true, decide_eq_true_eq, List.all_eq_true, List.mem_range] at h
  obtain ⟨⟨h1, h2⟩, h3⟩ := h
  refine ⟨h1, h2, fun k hk => ?_⟩
  have := h3 k (by omega)
  unfold fitB at this
  simp only [Bool.and_eq_true, decide_eq_true_eq] at this
  exact this.1
def RunBoxes (w : World) (c1 c2 c3 : List Value) (z : World) : Prop :=
  Below w.heap.size w z ∧ Blk z w.heap.size c1 25 ∧ Blk z (w.heap.size + 1) c2 31 ∧ Blk z (w.heap.size + 1 + 1) c3 44 ∧ Blk z (w.heap.size + 1 + 1 + 1) zeroRun 49 ∧ z.heap.size = w.heap.size + 4
theorem run_boxes (w : World) (c1 c2 c3 : List Value) : RunBoxes w c1 c2 c3 ((((w.alloc (.cells c1.toArray 25)).alloc (.cells c2.toArray 31)).alloc (.cells c3.toArray 44)).alloc (.cells #[.slice none 0 0, .slice none 0 0, .slice none 0 0, .int .i64 0] 49)) := by
  refine ⟨((((Below.refl _ _).alloc (by simp) _).alloc (by simp) _).alloc (by simp; omega) _).alloc (by simp; omega) _, ?_, ?_, ?_, ?_, by simp⟩
  · unfold Blk
    rw [Below.heap_alloc _ _ _ (by simp; omega), Below.heap_alloc _ _ _ (by simp; omega), Below.heap_alloc _ _ _ (by simp)]
    exact heap_new1 _ _
  · unfold Blk
    rw [Below.heap_alloc _ _ _ (by simp), Below.heap_alloc _ _ _ (by simp)]
    exact heap_new2 _ _ _
  · unfold Blk
    rw [Below.heap_alloc _ _ _ (by simp)]
    exact heap_new3 _ _ _ _
  · unfold Blk
    have := heap_new1 (((w.alloc (.cells c1.toArray 25)).alloc (.cells c2.toArray 31)).alloc (.cells c3.toArray 44)) (.cells #[.slice none 0 0, .slice none 0 0, .slice none 0 0, .int .i64 0] 49)
    simpa [zeroRun] using this
theorem run_exec (ars : List Ar) (regs spills : Int) (cd : List RI) (arr : List (List Int)) (ctx : List Int) (input : Int) (ended : Bool) (fuel : Int) (r : Except Int PS) (arsA codeA qa ca : Option Addr) (arsC codeC cq cc : Nat) (w : World)
    (G : InOrd ars regs spills cd) (hr : RunsTo (mkMC ars regs spills cd input ended fuel) ((mkMC ars regs spills cd input ended fuel).init arr ctx) r) (hf : fitsB ars arr ctx.length = true) (pb : Nat) (hpt : Blk w pb (natsV (ptOf cd)) 3) (hpl : pb < w.heap.size)
    (hars : RowB w.heap.size w 2 arsA ars.length fun i j => (ars.getD i default).cell j) (hcd : RowB w.heap.size w 5 codeA cd.length fun i j => (cd.getD i default).cell j) (hg : GridR w qa arr) (hctx : RowB w.heap.size w 1 ca ctx.length fun j _ => .int .u32 (ctx.getD j 0)) :
    Calls Try.prog 39 #[.agg #[.slice arsA ars.length arsC, .int .i64 regs, .int .i64 spills, .slice codeA cd.length codeC], .slice (some ⟨pb, 0, none⟩) cd.length cd.length, .agg #[.slice qa arr.length cq, .slice ca ctx.length cc], .agg #[.int .u32 input, .bool ended, .int .i64 fuel]] w (ExecPost w r) := by
  obtain ⟨h1, h2, h3⟩ := fits_lens hf
  have hnz : ∀ a ∈ arr, 0 < a.length ∧ a.length ≤ 65536 := fun a ha => by
    obtain ⟨k, hk, rfl⟩ := List.getElem_of_mem ha
    have e := h3 k hk
    have hm := G.hars (ars.getD k default) (by rw [List.getD_eq_getElem?_getD, List.getElem?_eq_getElem (by omega)]; exact List.getElem_mem _)
    rw [List.getD_eq_getElem?_getD, List.getElem?_eq_getElem hk, Option.getD_some] at e
    omega
  have hrow : RowB w.heap.size w 1 (some ⟨pb, 0, none⟩) (ptOf cd).length fun i _ => .int .i64 ((ptOf cd).getD i 0 : Nat) := by
    intro i hi
    refine ⟨pb, 0, rfl, hpl, fun j hj => ?_⟩
    have : j = 0 := by omega
    subst this
    simp only [Nat.mul_one, Nat.add_zero, Nat.zero_add]
    rw [hpt.cell, natsV_get hi]
  have e1 : (regs.toNat : Int) = regs := Int.toNat_of_nonneg G.hregs.1
  have e2 : (spills.toNat : Int) = spills := Int.toNat_of_nonneg G.hspl.1
  have hA := G.hnA
  have hR := G.hregs
  have hS := G.hspl
  have := execute_any (mkMC ars regs spills cd input ended fuel) arr ctx r hr arsA codeA (some ⟨pb, 0, none⟩) qa ca arsC codeC cd.length cq cc w hcd hrow hars (hg.toAt fun a ha => (hnz a ha).1) (hctx.nums (by omega)) (by omega) hnz (by omega) (by simp only [mkMC]; omega) (by simp only [mkMC]; omega)
  simp only [mkMC, e1, e2, ptOf_length] at this
  exact this
theorem run_end {w Z V : World} {r : Except Int PS} {e : Ending} (hb : Below w.heap.size w Z) (hk : Blk Z (w.heap.size + 1 + 1 + 1) zeroRun 49) (h : ExecPost Z r e V) :
    Blk V (w.heap.size + 1 + 1 + 1) zeroRun 49 ∧ ∃ qa na cq ca nb cc oa no oc st er, e = .returned (.tuple #[.agg #[.slice qa na cq, .slice ca nb cc, .slice oa no oc, .int .i64 st], .int .i64 er]) ∧
    ExecPost w r e ((((V.setCell ⟨w.heap.size + 1 + 1 + 1, 0, none⟩ (.slice qa na cq)).setCell ⟨w.heap.size + 1 + 1 + 1, 1, none⟩ (.slice ca nb cc)).setCell ⟨w.heap.size + 1 + 1 + 1, 2, none⟩ (.slice oa no oc)).setCell ⟨w.heap.size + 1 + 1 + 1, 3, none⟩ (.int .i64 st)) := by
  obtain ⟨h1, h2⟩ := h
  have hlt := hk.lt
  have hx : w.heap.size ≤ w.heap.size + 1 + 1 + 1 := by omega
  have hr9 := hk.below h1 hlt
  have hbel := fun v0 v1 v2 v3 => ((((hb.trans (h1.mono hb.size)).setCell (p := ⟨w.heap.size + 1 + 1 + 1, 0, none⟩) hx v0).setCell (p := ⟨w.heap.size + 1 + 1 + 1, 1, none⟩) hx v1).setCell (p := ⟨w.heap.size + 1 + 1 + 1, 2, none⟩) hx v2).setCell (p := ⟨w.heap.size + 1 + 1 + 1, 3, none⟩) hx v3
  cases r with
  | ok s =>
    obtain ⟨v, rfl, hv⟩ := h2
    obtain ⟨qa, cq, ca, cc, oa, oc, rfl, _⟩ := hv V (fun _ _ => rfl) rfl
    refine ⟨hr9, _, _, _, _, _, _, _, _, _, _, _, rfl, hbel _ _ _ _, _, rfl, fun w2 h5 h6 => hv w2 (fun k hk => ?_) (by rw [h6]; simp [World.setCell])⟩
    have hne : k ≠ w.heap.size + 1 + 1 + 1 := by omega
    have := hb.size
    rw [h5 k (by omega), Below.heap_setCell _ _ _ _ hne, Below.heap_setCell _ _ _ _ hne, Below.heap_setCell _ _ _ _ hne, Below.heap_setCell _ _ _ _ hne]
  | error n => exact ⟨hr9, _, _, _, _, _, _, _, _, _, _, _, h2, hbel _ _ _ _, h2⟩
set_option maxRecDepth 100000 in
set_option maxHeartbeats 1000000 in
theorem Run_any (arsA codeA qa ca : Option Addr) (arsC codeC cq cc : Nat) (ars : List Ar) (regs spills : Int) (cd : List RI) (arr : List (List Int)) (ctx : List Int) (input : Int) (ended : Bool) (fuel : Int) (w : World)
    (hars : RowB w.heap.size w 2 arsA ars.length fun i j => (ars.getD i default).cell j) (hcd : RowB w.heap.size w 5 codeA cd.length fun i j => (cd.getD i default).cell j)
    (hg : GridR w qa arr) (hctx : RowB w.heap.size w 1 ca ctx.length fun j _ => .int .u32 (ctx.getD j 0))
    (hA : ars.length ≤ 9223372036854775806) (hC : cd.length ≤ 9223372036854775807) (harg : ∀ i ∈ cd, 0 ≤ i.arg ∧ i.arg < 4294967296) (hl : ∀ a ∈ arr, a.length ≤ 9223372036854775806)
    (r : Except Int PS) (hr : (chkCode ars regs spills cd).2 = 0 → fitsB ars arr ctx.length = true → 0 ≤ fuel ∧ fuel ≤ 281474976710656 → RunsTo (mkMC ars regs spills cd input ended fuel) ((mkMC ars regs spills cd input ended fuel).init arr ctx) r) :
    Calls Try.prog 18 #[.agg #[.slice arsA ars.length arsC, .int .i64 regs, .int .i64 spills, .slice codeA cd.length codeC], .agg #[.slice qa arr.length cq, .slice ca ctx.length cc], .agg #[.int .u32 input, .bool ended, .int .i64 fuel]] w
      (ExecPost w (runRes ars regs spills cd arr ctx fuel r)) := by
  have HARS := Lib.hid hars
  have HCD := Lib.hid hcd
  have HARG := Lib.hid harg
  have HG := Lib.hid hg
  have HCTX := Lib.hid hctx
  have HL := Lib.hid hl
  have HR := Lib.hid hr
  clear hars hcd harg hg hctx hl hr
  go_enter Try.func18, Try.ntmps18
  go_upto_region 1 with (fail)
  refine wp_gen _ (run_boxes w [.slice arsA ars.length arsC, .int .i64 regs, .int .i64 spills, .slice codeA cd.length codeC] [.slice qa arr.length cq, .slice ca ctx.length cc] [.int .u32 input, .bool ended, .int .i64 fuel]) ?_
  rintro W ⟨hbW, k1, k2, k3, k4, hsz⟩
  have HCH := Lib.hid (Check_any arsA codeA arsC codeC ars regs spills cd W ((HARS.out.below hbW).mono hbW.size) ((HCD.out.below hbW).mono hbW.size) (by omega) hC HARG.out)
  have a0 : W.cell? ⟨w.heap.size, 0, none⟩ = some (.slice arsA ars.length arsC) := k1.cell 0
  have a1 : W.cell? ⟨w.heap.size, 0 + 1, none⟩ = some (.int .i64 regs) := k1.cell 1
  have a2 : W.cell? ⟨w.heap.size, 0 + 1 + 1, none⟩ = some (.int .i64 spills) := k1.cell 2
  have a3 : W.cell? ⟨w.heap.size, 0 + 1 + 1 + 1, none⟩ = some (.slice codeA cd.length codeC) := k1.cell 3
  have HW := Lib.hid (And.intro hbW (And.intro k1 (And.intro k2 (And.intro k3 (And.intro k4 hsz)))))
  clear hbW k1 k2 k3 k4 hsz
  obtain ⟨ce, hce⟩ : ∃ ce, chkCode ars regs spills cd = ce := ⟨_, rfl⟩
  have HCE := Lib.hid hce
  clear hce
  -- the end of the three ways with an error
  have ends : ∀ (Y : World) (er : Int), Below W.heap.size W Y → runRes ars regs spills cd arr ctx fuel r = .error er →
      Blk Y (w.heap.size + 1 + 1 + 1) zeroRun 49 ∧ ExecPost w (runRes ars regs spills cd arr ctx fuel r) (.returned (.tuple #[.agg #[.slice none 0 0, .slice none 0 0, .slice none 0 0, .int .i64 0], .int .i64 er]))
        ((((Y.setCell ⟨w.heap.size + 1 + 1 + 1, 0, none⟩ (.slice none 0 0)).setCell ⟨w.heap.size + 1 + 1 + 1, 1, none⟩ (.slice none 0 0)).setCell ⟨w.heap.size + 1 + 1 + 1, 2, none⟩ (.slice none 0 0)).setCell ⟨w.heap.size + 1 + 1 + 1, 3, none⟩ (.int .i64 0)) := by
    intro Y er hY hrr
    obtain ⟨hbW, _, _, _, k4, hsz⟩ := HW.out
    have hx : w.heap.size ≤ w.heap.size + 1 + 1 + 1 := by omega
    refine ⟨k4.below hY (by omega), ?_⟩
    rw [hrr]
    exact ⟨((((hbW.trans (hY.mono hbW.size)).setCell hx _).setCell hx _).setCell hx _).setCell hx _, rfl⟩
  have HEND := Lib.hid ends
  clear ends
  by_cases hz : ce.2 = 0
  rotate_left
  · have hne : (ce.2 != 0) = true := by simpa using hz
    have hrr : runRes ars regs spills cd arr ctx fuel r = .error ce.2 := by unfold runRes; rw [HCE.out, if_pos hz]
    have HRR := Lib.hid hrr
    clear hz hrr
    go_wp2_with fail
    refine HCH.out.mono ?_
    rintro e Y ⟨he, hbY⟩
    rw [HCE.out] at he
    subst he
    obtain ⟨hr9, hex⟩ := HEND.out Y ce.2 hbY HRR.out
    have z0 : Y.cell? ⟨w.heap.size + 1 + 1 + 1, 0, none⟩ = some (.slice none 0 0) := hr9.cell 0
    have z1 : Y.cell? ⟨w.heap.size + 1 + 1 + 1, 0 + 1, none⟩ = some (.slice none 0 0) := hr9.cell 1
    have z2 : Y.cell? ⟨w.heap.size + 1 + 1 + 1, 0 + 1 + 1, none⟩ = some (.slice none 0 0) := hr9.cell 2
    have z3 : Y.cell? ⟨w.heap.size + 1 + 1 + 1, 0 + 1 + 1 + 1, none⟩ = some (.int .i64 0) := hr9.cell 3
    have f0 := hr9.frozen 0
    have f1 := hr9.frozen (0 + 1)
    have f2 := hr9.frozen (0 + 1 + 1)
    have f3 := hr9.frozen (0 + 1 + 1 + 1)
    have HEX := Lib.hid hex
    clear hex hbY
    go_wp2
    refine bodyPost_ret (v := .tuple #[.agg #[.slice none 0 0, .slice none 0 0, .slice none 0 0, .int .i64 0], .int .i64 ce.2]) ?_ rfl ?_
    · have e0 := ((((hr9.set 0 (.slice none 0 0)).set 1 (.slice none 0 0)).set 2 (.slice none 0 0)).set 3 (.int .i64 0))
      have y0 := e0.cell 0
      have y1 := e0.cell 1
      have y2 := e0.cell 2
      have y3 := e0.cell 3
      simp only [zeroRun, List.set_cons_zero, List.set_cons_succ, List.getElem?_cons_zero, List.getElem?_cons_succ] at y0 y1 y2 y3
      simp [results, Try.results18, go_sem, y0, y1, y2, y3]
    · exact HEX.out
  have G := chk_good (ars := ars) (regs := regs) (spills := spills) (cd := cd) (by rw [HCE.out]; exact hz)
  have HZ := Lib.hid hz
  have HGO := Lib.hid G
  clear hz G
  go_wp2_with fail
  refine HCH.out.mono ?_
  rintro e Y ⟨he, hbY⟩
  rw [HCE.out, HZ.out] at he
  subst he
  clear a0 a1 a2 a3
  have l0 : w.heap.size + 3 < W.heap.size := by have := HW.out.2.2.2.2.2; omega
  have b1 : Blk Y w.heap.size [.slice arsA ars.length arsC, .int .i64 regs, .int .i64 spills, .slice codeA cd.length codeC] 25 := HW.out.2.1.below hbY (by omega)
  have b2 : Blk Y (w.heap.size + 1) [.slice qa arr.length cq, .slice ca ctx.length cc] 31 := HW.out.2.2.1.below hbY (by omega)
  have b3 : Blk Y (w.heap.size + 1 + 1) [.int .u32 input, .bool ended, .int .i64 fuel] 44 := HW.out.2.2.2.1.below hbY (by omega)
  have a0 : Y.cell? ⟨w.heap.size, 0, none⟩ = some (.slice arsA ars.length arsC) := b1.cell 0
  have m0 : Y.cell? ⟨w.heap.size + 1, 0, none⟩ = some (.slice qa arr.length cq) := b2.cell 0
  have m1 : Y.cell? ⟨w.heap.size + 1, 0 + 1, none⟩ = some (.slice ca ctx.length cc) := b2.cell 1
  have hwY : Below w.heap.size w Y := HW.out.1.trans (hbY.mono HW.out.1.size)
  have HFT := Lib.hid (fits_any arsA qa ca arsC cq cc ctx.length ars arr Y ((HARS.out.below hwY).mono hwY.size) (HG.out.below hwY) hA HL.out)
  have HY := Lib.hid (And.intro hbY (And.intro b1 (And.intro b2 (And.intro b3 hwY))))
  clear hbY b1 b2 b3 hwY HCH
  go_wp2_with fail
  refine HFT.out.mono ?_
  rintro e X ⟨he, hbX⟩
  have HBY := Lib.hid (show Below W.heap.size W X from HY.out.1.trans (hbX.mono HY.out.1.size))
  have lY : w.heap.size + 3 < Y.heap.size := by have := HY.out.1.size; omega
  cases hf : fitsB ars arr ctx.length
  · rw [hf] at he
    subst he
    have hrr : runRes ars regs spills cd arr ctx fuel r = .error 3 := by unfold runRes; rw [HCE.out, if_neg (by simp [HZ.out]), if_pos hf]
    have HRR := Lib.hid hrr
    clear hf hrr hbX a0 m0 m1
    obtain ⟨hr9, hex⟩ := HEND.out X 3 HBY.out HRR.out
    have z0 : X.cell? ⟨w.heap.size + 1 + 1 + 1, 0, none⟩ = some (.slice none 0 0) := hr9.cell 0
    have z1 : X.cell? ⟨w.heap.size + 1 + 1 + 1, 0 + 1, none⟩ = some (.slice none 0 0) := hr9.cell 1
    have z2 : X.cell? ⟨w.heap.size + 1 + 1 + 1, 0 + 1 + 1, none⟩ = some (.slice none 0 0) := hr9.cell 2
    have z3 : X.cell? ⟨w.heap.size + 1 + 1 + 1, 0 + 1 + 1 + 1, none⟩ = some (.int .i64 0) := hr9.cell 3
    have f0 := hr9.frozen (0)
    have f1 := hr9.frozen (0 + 1)
    have f2 := hr9.frozen (0 + 1 + 1)
    have f3 := hr9.frozen (0 + 1 + 1 + 1)
    have HEX := Lib.hid hex
    clear hex
    go_wp2
    refine bodyPost_ret (v := .tuple #[.agg #[.slice none 0 0, .slice none 0 0, .slice none 0 0, .int .i64 0], .int .i64 3]) ?_ rfl ?_
    · have e0 := ((((hr9.set 0 (.slice none 0 0)).set 1 (.slice none 0 0)).set 2 (.slice none 0 0)).set 3 (.int .i64 0))
      have y0 := e0.cell 0
      have y1 := e0.cell 1
      have y2 := e0.cell 2
      have y3 := e0.cell 3
      simp only [zeroRun, List.set_cons_zero, List.set_cons_succ, List.getElem?_cons_zero, List.getElem?_cons_succ] at y0 y1 y2 y3
      simp [results, Try.results18, go_sem, y0, y1, y2, y3]
    · exact HEX.out
  rw [hf] at he
  subst he
  have HF := Lib.hid hf
  clear hf
  have b1 : Blk X w.heap.size [.slice arsA ars.length arsC, .int .i64 regs, .int .i64 spills, .slice codeA cd.length codeC] 25 := HY.out.2.1.below hbX (by omega)
  have b2 : Blk X (w.heap.size + 1) [.slice qa arr.length cq, .slice ca ctx.length cc] 31 := HY.out.2.2.1.below hbX (by omega)
  have b3 : Blk X (w.heap.size + 1 + 1) [.int .u32 input, .bool ended, .int .i64 fuel] 44 := HY.out.2.2.2.1.below hbX (by omega)
  have hwX : Below w.heap.size w X := HY.out.2.2.2.2.trans (hbX.mono (by omega))
  have lX : w.heap.size + 3 < X.heap.size := by have := hbX.size; omega
  have d2 : X.cell? ⟨w.heap.size + 1 + 1, 2, none⟩ = some (.int .i64 fuel) := b3.cell 2
  clear a0 m0 m1
  have HX := Lib.hid (And.intro b1 (And.intro b2 (And.intro b3 hwX)))
  clear b1 b2 b3 hwX hbX
  have HAL := Lib.hid (allowed_any fuel X)
  by_cases hfu : 0 ≤ fuel ∧ fuel ≤ 281474976710656
  rotate_left
  · have hrr : runRes ars regs spills cd arr ctx fuel r = .error 2 := by unfold runRes; rw [HCE.out, if_neg (by simp [HZ.out]), if_neg (by simp [HF.out]), if_pos (by omega)]
    have HRR := Lib.hid hrr
    have hal : (decide (0 ≤ fuel) && decide (fuel ≤ 281474976710656)) = false := by
      by_cases h : 0 ≤ fuel
      · simp [h]; omega
      · simp [h]
    have HALF := Lib.hid hal
    clear hrr hal
    go_wp2_with fail
    refine HAL.out.mono ?_
    rintro e X' ⟨he, rfl⟩
    rw [HALF.out] at he
    subst he
    obtain ⟨hr9, hex⟩ := HEND.out X 2 HBY.out HRR.out
    have z0 : X.cell? ⟨w.heap.size + 1 + 1 + 1, 0, none⟩ = some (.slice none 0 0) := hr9.cell 0
    have z1 : X.cell? ⟨w.heap.size + 1 + 1 + 1, 0 + 1, none⟩ = some (.slice none 0 0) := hr9.cell 1
    have z2 : X.cell? ⟨w.heap.size + 1 + 1 + 1, 0 + 1 + 1, none⟩ = some (.slice none 0 0) := hr9.cell 2
    have z3 : X.cell? ⟨w.heap.size + 1 + 1 + 1, 0 + 1 + 1 + 1, none⟩ = some (.int .i64 0) := hr9.cell 3
    have f0 := hr9.frozen (0)
    have f1 := hr9.frozen (0 + 1)
    have f2 := hr9.frozen (0 + 1 + 1)
    have f3 := hr9.frozen (0 + 1 + 1 + 1)
    have HEX := Lib.hid hex
    clear hex
    go_wp2
    refine bodyPost_ret (v := .tuple #[.agg #[.slice none 0 0, .slice none 0 0, .slice none 0 0, .int .i64 0], .int .i64 2]) ?_ rfl ?_
    · have e0 := ((((hr9.set 0 (.slice none 0 0)).set 1 (.slice none 0 0)).set 2 (.slice none 0 0)).set 3 (.int .i64 0))
      have y0 := e0.cell 0
      have y1 := e0.cell 1
      have y2 := e0.cell 2
      have y3 := e0.cell 3
      simp only [zeroRun, List.set_cons_zero, List.set_cons_succ, List.getElem?_cons_zero, List.getElem?_cons_succ] at y0 y1 y2 y3
      simp [results, Try.results18, go_sem, y0, y1, y2, y3]
    · exact HEX.out
  have hal : (decide (0 ≤ fuel) && decide (fuel ≤ 281474976710656)) = true := by simp [hfu.1, hfu.2]
  have HALF := Lib.hid hal
  clear hal
  have hrr : runRes ars regs spills cd arr ctx fuel r = r := by unfold runRes; rw [HCE.out, if_neg (by simp [HZ.out]), if_neg (by simp [HF.out]), if_neg (by omega)]
  have HRT := Lib.hid (HR.out (by rw [HCE.out]; exact HZ.out) HF.out hfu)
  have HRR := Lib.hid hrr
  clear hrr HEND
  have a0 : X.cell? ⟨w.heap.size, 0, none⟩ = some (.slice arsA ars.length arsC) := HX.out.1.cell 0
  have a1 : X.cell? ⟨w.heap.size, 0 + 1, none⟩ = some (.int .i64 regs) := HX.out.1.cell 1
  have a2 : X.cell? ⟨w.heap.size, 0 + 1 + 1, none⟩ = some (.int .i64 spills) := HX.out.1.cell 2
  have a3 : X.cell? ⟨w.heap.size, 0 + 1 + 1 + 1, none⟩ = some (.slice codeA cd.length codeC) := HX.out.1.cell 3
  have a3' : X.cell? ⟨w.heap.size, 3, none⟩ = some (.slice codeA cd.length codeC) := HX.out.1.cell 3
  have m0 : X.cell? ⟨w.heap.size + 1, 0, none⟩ = some (.slice qa arr.length cq) := HX.out.2.1.cell 0
  have m1 : X.cell? ⟨w.heap.size + 1, 0 + 1, none⟩ = some (.slice ca ctx.length cc) := HX.out.2.1.cell 1
  have d0 : X.cell? ⟨w.heap.size + 1 + 1, 0, none⟩ = some (.int .u32 input) := HX.out.2.2.1.cell 0
  have d1 : X.cell? ⟨w.heap.size + 1 + 1, 0 + 1, none⟩ = some (.bool ended) := HX.out.2.2.1.cell 1
  have d2' : X.cell? ⟨w.heap.size + 1 + 1, 0 + 1 + 1, none⟩ = some (.int .i64 fuel) := HX.out.2.2.1.cell 2
  have l0' : w.heap.size < X.heap.size := by omega
  have l1 : w.heap.size + 1 < X.heap.size := by omega
  have l2 : w.heap.size + 1 + 1 < X.heap.size := by omega
  go_wp2_with fail
  refine HAL.out.mono ?_
  rintro e X' ⟨he, rfl⟩
  rw [HALF.out] at he
  subst he
  go_wp2_with fail
  refine wp_region_grew [0, 2, 4, 5] [1, 7] [(2, 1), (1, 0), (1, 2), (1, 4), (1, 5), (0, 3), (0, 6), (2, 7), (0, 8), (0, 9), (0, 10)] (by kernel_rfl) (by kernel_rfl) (fun c a d v w h => by cases d <;> exact h) ?_
  simp only [getPlan, List.filterMap_cons, List.filterMap_nil, List.getElem?_toArray, List.getElem?_cons_succ, List.getElem?_cons_zero, Option.map_some]
  repeat ((first | refine wpPlan_pure (fun K hK => ?_) | refine wpPlan_float (fun K hK => ?_)); go_simp; refine hK _ ?_; clear hK K)
  clear a0 a1 a2 a3 a3' m0 m1 d0 d1 d2 d2'
  have HPA := Lib.hid (partners_any codeA codeC cd X.drew ((HCD.out.below HX.out.2.2.2.drew).mono HX.out.2.2.2.drew.size) HGO.out.hcd HGO.out.hnest)
  refine wpPlan_keep ?_
  go_wp2_with fail
  refine HPA.out.mono ?_
  rintro e Z ⟨rfl, hpk, hbZ0⟩
  have hbZ : Below X.heap.size X Z := below_undrew hbZ0
  have EX := run_exec ars regs spills cd arr ctx input ended fuel r arsA codeA qa ca arsC codeC cq cc Z HGO.out HRT.out HF.out X.heap.size hpk (Nat.lt_of_lt_of_le hpk.lt (Nat.le_refl _))
    ((HARS.out.below (HX.out.2.2.2.trans (hbZ.mono (by omega)))).mono (HX.out.2.2.2.trans (hbZ.mono (by omega))).size) ((HCD.out.below (HX.out.2.2.2.trans (hbZ.mono (by omega)))).mono (HX.out.2.2.2.trans (hbZ.mono (by omega))).size)
    (HG.out.below (HX.out.2.2.2.trans (hbZ.mono (by omega)))) ((HCTX.out.below (HX.out.2.2.2.trans (hbZ.mono (by omega)))).mono (HX.out.2.2.2.trans (hbZ.mono (by omega))).size)
  have HE := Lib.hid EX
  have HBZ := Lib.hid hbZ
  clear EX hpk hbZ0 hbZ
  go_wp2_with fail
  refine ⟨grew_below HBZ.out, ?_⟩
  refine wpPlan_sees (by kernel_rfl) ?_
  go_wp2_with fail
  refine HE.out.mono ?_
  intro e V hex
  have hk4 : Blk Z (w.heap.size + 1 + 1 + 1) zeroRun 49 := (HW.out.2.2.2.2.1.below HBY.out (by omega)).below HBZ.out (by omega)
  obtain ⟨hr9, qa', na, cq', ca', nb, cc', oa, no, oc, st, er, rfl, hfin⟩ := run_end (HX.out.2.2.2.trans (HBZ.out.mono (by omega))) hk4 hex
  have z0 : V.cell? ⟨w.heap.size + 1 + 1 + 1, 0, none⟩ = some (.slice none 0 0) := hr9.cell 0
  have z1 : V.cell? ⟨w.heap.size + 1 + 1 + 1, 0 + 1, none⟩ = some (.slice none 0 0) := hr9.cell 1
  have z2 : V.cell? ⟨w.heap.size + 1 + 1 + 1, 0 + 1 + 1, none⟩ = some (.slice none 0 0) := hr9.cell 2
  have z3 : V.cell? ⟨w.heap.size + 1 + 1 + 1, 0 + 1 + 1 + 1, none⟩ = some (.int .i64 0) := hr9.cell 3
  have f0 := hr9.frozen 0
  have f1 := hr9.frozen (0 + 1)
  have f2 := hr9.frozen (0 + 1 + 1)
  have f3 := hr9.frozen (0 + 1 + 1 + 1)
  have HFIN := Lib.hid hfin
  clear hex hk4 hfin
  go_wp2_with fail
  repeat ((first | refine wpPlan_pure (fun K hK => ?_) | refine wpPlan_float (fun K hK => ?_)); go_simp; refine hK _ ?_; clear hK K)
  refine wpPlan_tail (by kernel_rfl) ?_
  simp only [List.map_cons, List.map_nil]
  go_wp2
  refine bodyPost_ret (v := .tuple #[.agg #[.slice qa' na cq', .slice ca' nb cc', .slice oa no oc, .int .i64 st], .int .i64 er]) ?_ rfl ?_
  · have e0 := ((((hr9.set 0 (.slice qa' na cq')).set 1 (.slice ca' nb cc')).set 2 (.slice oa no oc)).set 3 (.int .i64 st))
    have y0 := e0.cell 0
    have y1 := e0.cell 1
    have y2 := e0.cell 2
    have y3 := e0.cell 3
    simp only [zeroRun, List.set_cons_zero, List.set_cons_succ, List.getElem?_cons_zero, List.getElem?_cons_succ] at y0 y1 y2 y3
    simp [results, Try.results18, go_sem, y0, y1, y2, y3]
  · rw [HRR.out]
    exact HFIN.out
end Go.Proofs.Ytefdnjhhaejgbaa

namespace Go.Proofs.Ytefdnjhhaejgbaa
open Go.RowKit
set_option linter.unusedVariables false
theorem good_tree {ars : List Ar} {regs spills : Int} {cd : List RI} (G : InOrd ars regs spills cd) (harg : ∀ i ∈ cd, 0 ≤ i.arg ∧ i.arg < 4294967296) (input : Int) (ended : Bool) (fuel : Int) : ∃ t : T, RCode (mkMC ars regs spills cd input ended fuel) t := by
  obtain ⟨t, h1, h2⟩ := parse_all cd G.hnest
  have e1 : (regs.toNat : Int) = regs := Int.toNat_of_nonneg G.hregs.1
  have e2 : (spills.toNat : Int) = spills := Int.toNat_of_nonneg G.hspl.1
  refine ⟨t, h1, h2, ?_, fun i hi => ?_, fun i hi => harg i hi⟩
  · show ptOf cd = _
    rw [h1]; exact ptOf_flat t h2
  · show chkI (regs.toNat : Int) (spills.toNat : Int) _ i = 0
    rw [e1, e2]; exact G.hins i hi
theorem init_inv {ars : List Ar} {regs spills : Int} {cd : List RI} (G : InOrd ars regs spills cd) {arr : List (List Int)} {ctx : List Int} {input : Int} {ended : Bool} {fuel : Int} (hf : fitsB ars arr ctx.length = true) (ha : ∀ a ∈ arr, u32s a) (hc : u32s ctx) (hi : u32 input)
    (hfu : 0 ≤ fuel ∧ fuel ≤ 281474976710656) (t : T) : RInv (mkMC ars regs spills cd input ended fuel) t ((mkMC ars regs spills cd input ended fuel).init arr ctx) := by
  obtain ⟨h1, h2, h3⟩ := fits_lens hf
  have hR := G.hregs
  have hS := G.hspl
  have hA := G.hnA
  have hC := G.hcd
  have hz : ∀ n : Nat, u32s (List.replicate n 0) := fun n x hx => by rw [List.eq_of_mem_replicate hx]; omega
  refine ⟨⟨by simp [MC.init], by simp [MC.init], by simp [MC.init, mkMC, h1], by simp [MC.init, h2], by simp [mkMC, ptOf_length], hz _, hz _, ha, fun a ha' => ?_, hc, (fun p hp => by cases hp), by simp [MC.init], (fun x hx => by cases hx), by simp [MC.init], Int.le_refl _, hfu.1, hfu.2, Nat.zero_le _, hC, by simp only [mkMC]; omega, by simp only [mkMC]; omega, hA, hi⟩, ?_⟩
  · obtain ⟨k, hk, rfl⟩ := List.getElem_of_mem (show a ∈ arr from ha')
    have e := h3 k hk
    have hm := G.hars (ars.getD k default) (by rw [List.getD_eq_getElem?_getD, List.getElem?_eq_getElem (by omega)]; exact List.getElem_mem _)
    rw [List.getD_eq_getElem?_getD, List.getElem?_eq_getElem hk, Option.getD_some] at e
    omega
  · show ([] : List (Nat × Int)).map Prod.fst = _
    exact (T.encl_start t 0 _ (Nat.le_refl 0)).symm
def machRun (ars : List Ar) (regs spills : Int) (cd : List RI) (arr : List (List Int)) (ctx : List Int) (input : Int) (ended : Bool) (fuel : Int) : Except Int PS :=
  runRes ars regs spills cd arr ctx fuel (mres (mkMC ars regs spills cd input ended fuel) ((mkMC ars regs spills cd input ended fuel).init arr ctx))
theorem Run_is (arsA codeA qa ca : Option Addr) (arsC codeC cq cc : Nat) (ars : List Ar) (regs spills : Int) (cd : List RI) (arr : List (List Int)) (ctx : List Int) (input : Int) (ended : Bool) (fuel : Int) (w : World)
    (hars : RowB w.heap.size w 2 arsA ars.length fun i j => (ars.getD i default).cell j) (hcd : RowB w.heap.size w 5 codeA cd.length fun i j => (cd.getD i default).cell j)
    (hg : GridR w qa arr) (hctx : RowB w.heap.size w 1 ca ctx.length fun j _ => .int .u32 (ctx.getD j 0))
    (hA : ars.length ≤ 9223372036854775806) (hC : cd.length ≤ 9223372036854775807) (harg : ∀ i ∈ cd, 0 ≤ i.arg ∧ i.arg < 4294967296) (hl : ∀ a ∈ arr, a.length ≤ 9223372036854775806) (ha : ∀ a ∈ arr, u32s a) (hc : u32s ctx) (hi : u32 input) :
    Calls Try.prog 18 #[.agg #[.slice arsA ars.length arsC, .int .i64 regs, .int .i64 spills, .slice codeA cd.length codeC], .agg #[.slice qa arr.length cq, .slice ca ctx.length cc], .agg #[.int .u32 input, .bool ended, .int .i64 fuel]] w
      (ExecPost w (machRun ars regs spills cd arr ctx input ended fuel)) :=
  Run_any arsA codeA qa ca arsC codeC cq cc ars regs spills cd arr ctx input ended fuel w hars hcd hg hctx hA hC harg hl _ (fun h1 h2 h3 => by
    have G := chk_good h1
    obtain ⟨t, R⟩ := good_tree G harg input ended fuel
    exact runs_all R (init_inv G h2 ha hc hi h3 t))
end Go.Proofs.Ytefdnjhhaejgbaa

namespace Go.Proofs.Ytefdnjhhaejgbaa
open Go.RowKit
set_option linter.unusedVariables false
def boundRes (er b : Int) : Int × Int := if er ≠ 0 then (0, er) else if BY ≤ b then (0, 18) else (b, 0)
set_option maxRecDepth 100000 in
set_option maxHeartbeats 1000000 in
theorem Bound_any (arsA codeA : Option Addr) (arsC codeC : Nat) (ars : List Ar) (regs spills : Int) (cd : List RI) (t : T) (w : World) (hars : RowB w.heap.size w 2 arsA ars.length fun i j => (ars.getD i default).cell j)
    (hcd : RowB w.heap.size w 5 codeA cd.length fun i j => (cd.getD i default).cell j) (hA : ars.length ≤ 9223372036854775807) (hC : cd.length ≤ 9223372036854775807) (harg : ∀ i ∈ cd, 0 ≤ i.arg ∧ i.arg < 4294967296)
    (ht : (chkCode ars regs spills cd).2 = 0 → cd = t.flat ∧ t.wf false 8) :
    Calls Try.prog 13 #[.agg #[.slice arsA ars.length arsC, .int .i64 regs, .int .i64 spills, .slice codeA cd.length codeC]] w fun e w' =>
      e = .returned (.tuple #[.int .i64 (boundRes (chkCode ars regs spills cd).2 (t.bd 0)).1, .int .i64 (boundRes (chkCode ars regs spills cd).2 (t.bd 0)).2]) ∧ Below w.heap.size w w' := by
  have HARS := Lib.hid hars
  have HCD := Lib.hid hcd
  have HARG := Lib.hid harg
  have HT := Lib.hid ht
  clear hars hcd harg ht
  have hb : Below w.heap.size w (w.alloc (.cells #[.slice arsA ars.length arsC, .int .i64 regs, .int .i64 spills, .slice codeA cd.length codeC] 25)) := (Below.refl _ _).alloc (Nat.le_refl _) _
  have HB := Lib.hid (And.intro hb (heap_new1 w (.cells #[.slice arsA ars.length arsC, .int .i64 regs, .int .i64 spills, .slice codeA cd.length codeC] 25)))
  clear hb
  go_enter Try.func13, Try.ntmps13
  go_upto_region 1 with (fail)
  refine wp_gen (fun W => Below w.heap.size w W ∧ Blk W w.heap.size [.slice arsA ars.length arsC, .int .i64 regs, .int .i64 spills, .slice codeA cd.length codeC] 25) HB.out ?_
  rintro W ⟨hbW, hbk⟩
  clear HB
  have a0 : W.cell? ⟨w.heap.size, 0, none⟩ = some (.slice arsA ars.length arsC) := hbk.cell 0
  have a1 : W.cell? ⟨w.heap.size, 0 + 1, none⟩ = some (.int .i64 regs) := hbk.cell 1
  have a2 : W.cell? ⟨w.heap.size, 0 + 1 + 1, none⟩ = some (.int .i64 spills) := hbk.cell 2
  have a3 : W.cell? ⟨w.heap.size, 0 + 1 + 1 + 1, none⟩ = some (.slice codeA cd.length codeC) := hbk.cell 3
  have HCH := Lib.hid (Check_any arsA codeA arsC codeC ars regs spills cd W ((HARS.out.below hbW).mono hbW.size) ((HCD.out.below hbW).mono hbW.size) hA hC HARG.out)
  have hWl := hbk.lt
  have HW := Lib.hid (And.intro hbW hbk)
  clear hbW hbk
  obtain ⟨ce, hce⟩ : ∃ ce, chkCode ars regs spills cd = ce := ⟨_, rfl⟩
  have HCE := Lib.hid hce
  clear hce
  by_cases hz : ce.2 = 0
  · have G := chk_good (ars := ars) (regs := regs) (spills := spills) (cd := cd) (by rw [HCE.out]; exact hz)
    obtain ⟨hcdt, hwf⟩ := HT.out (by rw [HCE.out]; exact hz)
    have HZ := Lib.hid hz
    have HG := Lib.hid G
    have HWF := Lib.hid (And.intro hcdt hwf)
    have hrange := T.bd_range True t 0 (fun i hi => (HARG.out i (by rw [hcdt]; exact hi)).1) (by unfold BY; omega)
    obtain ⟨bd, hbd⟩ : ∃ bd, t.bd 0 = bd := ⟨_, rfl⟩
    have HBD := Lib.hid hbd
    rw [hbd] at hrange
    have hr1 : 0 ≤ bd ∧ bd ≤ 281474976710657 := hrange
    clear hz G hbd hcdt hwf hrange
    go_wp2_with fail
    refine HCH.out.mono ?_
    rintro e Y ⟨he, hbY⟩
    rw [HCE.out, HZ.out] at he
    subst he
    have y3 : Y.cell? ⟨w.heap.size, 3, none⟩ = some (.slice codeA cd.length codeC) := by rw [hbY.cell (p := ⟨w.heap.size, 3, none⟩) hWl]; exact a3
    have hYl : w.heap.size < Y.heap.size := by have := hbY.size; omega
    have hwY : Below w.heap.size w Y := HW.out.1.trans (hbY.mono HW.out.1.size)
    have HY := Lib.hid hwY
    clear hbY hwY a0 a1 a2 a3
    have HPA := Lib.hid (partners_any codeA codeC cd Y.drew ((HCD.out.below HY.out.drew).mono HY.out.drew.size) HG.out.hcd HG.out.hnest)
    have hcI : cd.length ≤ 16384 := HG.out.hcd
    go_wp2_with fail
    refine wp_region_keeps [0, 2, 5, 7] [(2, 0), (2, 2), (2, 5), (1, 1), (1, 3), (1, 6), (2, 7), (0, 4), (0, 8), (0, 9)] (by kernel_rfl) (by kernel_rfl) (fun c a d v w h => by cases d <;> exact h) ?_
    simp only [getPlan, List.filterMap_cons, List.filterMap_nil, List.getElem?_toArray, List.getElem?_cons_succ, List.getElem?_cons_zero, Option.map_some]
    repeat ((first | refine wpPlanK_pure (fun K hK => ?_) | refine wpPlanK_float (fun K hK => ?_)); go_simp; refine hK _ ?_; clear hK K)
    refine wpPlanK_keep ?_
    go_wp2_with fail
    refine HPA.out.mono ?_
    rintro e Z ⟨rfl, hpk, hbZ0⟩
    have hbZ : Below Y.heap.size Y Z := below_undrew hbZ0
    have BA : Calls Try.prog 33 #[.slice codeA cd.length codeC, .slice (some ⟨Y.heap.size, 0, none⟩) cd.length cd.length, .int .i64 0, .int .i64 (cd.length : Int)] Z fun e w' => e = .returned (.int .i64 bd) ∧ Below Z.heap.size Z w' := by
      obtain ⟨hcdt, hwf⟩ := HWF.out
      have hcdl : cd.length = t.flat.length := by rw [hcdt]
      have hpl : (t.pt 0 0).length = cd.length := by rw [t.pt_length, hcdl, t.flat_length]
      have hz : BdMem Z.heap.size Z codeA (some ⟨Y.heap.size, 0, none⟩) t.flat (t.pt 0 0) := by
        refine ⟨?_, fun i hi => ?_⟩
        · have := (HCD.out.below (HY.out.trans (hbZ.mono (by omega)))).mono (HY.out.trans (hbZ.mono (by omega))).size
          rw [hcdt] at this; exact this
        · refine ⟨Y.heap.size, 0, rfl, hpk.lt, fun j hj => ?_⟩
          have hj0 : j = 0 := by omega
          subst hj0
          have e1 : ptOf cd = t.pt 0 0 := by rw [hcdt]; exact ptOf_flat t hwf
          have := hpk.cell i
          rw [e1, natsV_get hi] at this
          simpa using this
      have h9 := bound_all codeC cd.length codeA (some ⟨Y.heap.size, 0, none⟩) t Z hwf (by omega) (fun i hi => HARG.out i (by rw [hcdt]; exact hi)) hz
      rw [hpl, ← hcdl, HBD.out] at h9
      exact h9
    have HBA := Lib.hid BA
    have HBZ := Lib.hid hbZ
    clear BA hpk hbZ0 hbZ
    go_wp2_with fail
    refine ⟨grew_below HBZ.out, ?_⟩
    refine wpPlanK_keep ?_
    go_wp2_with fail
    refine HBA.out.mono ?_
    rintro e V ⟨rfl, hbV⟩
    have hYV : Below Y.heap.size Y V := HBZ.out.trans (hbV.mono HBZ.out.size)
    have HYV := Lib.hid hYV
    clear hbV hYV
    go_wp2_with fail
    refine ⟨grew_below HYV.out, ?_⟩
    refine wpPlanK_keep ?_
    go_wp2_with fail
    refine ⟨grew_below HYV.out, ?_⟩
    refine wpPlanK_nil ?_
    by_cases hge : 281474976710657 ≤ bd
    · go_wp2
      go_ret2
      exact ⟨by rw [HCE.out, HBD.out, HZ.out]; simp [boundRes, BY, hge], HY.out.trans (HYV.out.mono (by omega))⟩
    · have hge2 : ¬ 281474976710657 ≤ bd := hge
      have HGE := Lib.hid hge2
      clear hge2
      go_wp2
      go_ret2
      exact ⟨by rw [HCE.out, HBD.out, HZ.out]; unfold boundRes BY; rw [if_neg (by simp), if_neg (by have := HGE.out; omega)]; rfl, HY.out.trans (HYV.out.mono (by omega))⟩
  · have hne : (ce.2 != 0) = true := by simpa using hz
    have HZ := Lib.hid hz
    clear hz
    go_wp2_with fail
    refine HCH.out.mono ?_
    rintro e Y ⟨he, hbY⟩
    rw [HCE.out] at he
    subst he
    have HY := Lib.hid hbY
    clear hbY
    go_wp2
    go_ret2
    exact ⟨by rw [HCE.out]; simp [boundRes, HZ.out], HW.out.1.trans (HY.out.mono HW.out.1.size)⟩
end Go.Proofs.Ytefdnjhhaejgbaa

namespace Go.Proofs.Ytefdnjhhaejgbaa
open Go.RowKit
set_option linter.unusedVariables false
def cd1 : List RI := [⟨0, 0, -1, -1, 3⟩, ⟨29, -1, 0, -1, 4⟩, ⟨34, -1, 0, -1, 0⟩, ⟨31, -1, -1, -1, 0⟩]
def cd1' : List RI := [⟨0, 0, -1, -1, 3⟩, ⟨29, -1, 0, -1, 2⟩, ⟨34, -1, 0, -1, 0⟩, ⟨31, -1, -1, -1, 0⟩]
def cd2 : List RI := [⟨0, 0, -1, -1, 1⟩, ⟨0, 1, -1, -1, 300⟩, ⟨4, -1, 0, 1, 0⟩]
def z16 : List Int := List.replicate 16 0
theorem chk1 : chkCode [] 1 0 cd1 = (0, 0) := by kernel_rfl
theorem chk2 : chkCode [⟨false, 2⟩] 2 0 cd2 = (0, 0) := by kernel_rfl
theorem run1 : machRun [] 1 0 cd1 [] z16 0 false 8 = .ok ⟨[3], [], [], z16, [], [3, 3, 3], 8, 4⟩ := by kernel_rfl
theorem run1' : machRun [] 1 0 cd1' [] z16 0 false 8 = .error 18 := by kernel_rfl
theorem run2 : machRun [⟨false, 2⟩] 2 0 cd2 [[0, 0]] z16 0 false 3 = .ok ⟨[1, 300], [], [[0, 44]], z16, [], [], 3, 3⟩ := by kernel_rfl
def t1 : T := .plain ⟨0, 0, -1, -1, 3⟩ (.loop ⟨29, -1, 0, -1, 4⟩ (.plain ⟨34, -1, 0, -1, 0⟩ .nil) ⟨31, -1, -1, -1, 0⟩ .nil)
theorem t1_flat : cd1 = t1.flat := rfl
theorem t1_wf : t1.wf false 8 := by simp [t1, T.wf]
theorem bound1 : boundRes (chkCode [] 1 0 cd1).2 (t1.bd 0) = (10, 0) := by kernel_rfl
end Go.Proofs.Ytefdnjhhaejgbaa
