/- A part of the proof of MachineCalculates: U. No condition. -/
import Derived.Test.YtefdnjhhaejgbaaG19
import Derived.Test.YtefdnjhhaejgbaaG13
import Derived.Test.YtefdnjhhaejgbaaG20
set_option linter.unusedSimpArgs false
set_option linter.unusedVariables false
namespace Go.Proofs.Ytefdnjhhaejgbaa
open Go.RowKit
set_option linter.unusedVariables false

theorem GridOwn.lower {B : Nat} {τ : Nat → Nat} {arr : List (List Int)} {ab ac : Nat → Nat} {v : Value} {w : World} (h : GridOwn B τ arr ab ac v w) {y : Nat} (hy : y < B) (j : Nat) (u : Value) : GridOwn B τ arr ab ac v (w.setCell ⟨y, j, none⟩ u) := by
  have hg : w.grownBy (w.setCell ⟨y, j, none⟩ u) (some y) := ⟨rfl, rfl, rfl, by simp [World.setCell], fun k _ hk => Below.heap_setCell _ _ _ _ (fun e => hk (by rw [e]))⟩
  exact { h with
    own := h.own.kept hg (by
      cases hv : v.ownBlock with
      | none => exact .inl rfl
      | some x => right; intro e; have := (h.own.lt x hv).1; have e2 := Option.some.inj e; omega)
    blk := fun k hk => by
      obtain ⟨t, ht⟩ := h.blk k hk
      exact ⟨t, ht.other (fun e => by have := h.ba k hk; simp at e; omega) _⟩ }

theorem GridOwn.above {B : Nat} {τ : Nat → Nat} {arr : List (List Int)} {ab ac : Nat → Nat} {v : Value} {w w2 : World} (h : GridOwn B τ arr ab ac v w) (hw : ∀ k, B ≤ k → w2.heap[k]? = w.heap[k]?) : GridOwn B τ arr ab ac v w2 :=
  { h with
    own := by
      refine ⟨h.own.1, ?_⟩
      rcases h.own.2 with h1 | ⟨g, cc, cur, hv, hb, hgg, hle, hmx, hcs, htk⟩
      · exact .inl h1
      · exact .inr ⟨g, cc, cur, hv, hb, (hw g hb).trans hgg, hle, hmx, hcs, htk⟩
    blk := fun k hk => by
      obtain ⟨t, ht⟩ := h.blk k hk
      exact ⟨t, by unfold Blk; rw [hw _ (h.ba k hk)]; exact ht⟩ }

theorem GridOwn.at {B : Nat} {τ : Nat → Nat} {arr : List (List Int)} {ab ac : Nat → Nat} {va : Option Addr} {vc n : Nat} {w : World} (h : GridOwn B τ arr ab ac (.slice va n vc) w) (hn : n = arr.length) : GridAt w va arr := by
  subst hn
  intro k hk
  obtain ⟨g, hva, _, hc, _⟩ := own_cells h.own (by simp) hk
  refine ⟨g, 0, some ⟨ab k, 0, none⟩, ac k, hva, ?_, ab k, 0, rfl, fun j hj => ?_⟩
  · rw [hc]; simp [hk]
  · obtain ⟨t, ht⟩ := h.blk k hk
    rw [Nat.zero_add, ht.cell, ints_get_app hj]

theorem grid_slice' {B : Nat} {τ : Nat → Nat} {arr : List (List Int)} {ab ac : Nat → Nat} {v : Value} {w : World} (h : GridOwn B τ arr ab ac v w) : ∃ va vc, v = .slice va arr.length vc := by
  rcases h.own.2 with ⟨h1, h2⟩ | ⟨g, cc, cur, h1, _⟩
  · exact ⟨none, 0, by rw [h1, h2]⟩
  · exact ⟨_, cc, h1⟩

/-- what a memory value reads as -/
def MemVal (w : World) (arr : List (List Int)) (ctx : List Int) (v : Value) : Prop :=
  ∃ qa cq ca cc, v = .agg #[.slice qa arr.length cq, .slice ca ctx.length cc] ∧ GridAt w qa arr ∧ NumsAt w ca ctx
theorem MemVal.below {w w' : World} {arr : List (List Int)} {ctx : List Int} {v : Value} (h : MemVal w arr ctx v) (hb : Below w.heap.size w w') : MemVal w' arr ctx v := by
  obtain ⟨qa, cq, ca, cc, rfl, h1, h2⟩ := h
  exact ⟨qa, cq, ca, cc, rfl, h1.below hb, h2.below hb⟩

def zeroMemV : Value := .agg #[.slice none 0 0, .slice none 0 0]

def StartPost (ars : List Ar) (regs spills : Int) (cd : List RI) (w : World) (e : Ending) (w' : World) : Prop :=
  Below w.heap.size w w' ∧ if (chkCode ars regs spills cd).2 = 0 then ∃ v, e = .returned (.tuple #[v, .int .i64 0]) ∧ ∀ w2 : World, (∀ k, w.heap.size ≤ k → w2.heap[k]? = w'.heap[k]?) → MemVal w2 (zeros ars) (List.replicate 16 0) v
    else e = .returned (.tuple #[zeroMemV, .int .i64 (chkCode ars regs spills cd).2])

theorem chkArs_mem : ∀ (l : List Ar) (n m : Int), chkArs l n = some m → ∀ a ∈ l, 1 ≤ a.size ∧ a.size ≤ 65536
  | [], _, _, _, a, ha => by cases ha
  | b :: l, n, m, h, a, ha => by
    unfold chkArs at h
    split at h
    · cases h
    · rename_i hb
      cases ha with
      | head => omega
      | tail _ ha => exact chkArs_mem l _ m h a ha

theorem chkAll_none {regs spills nA : Int} : ∀ (l : List RI) (k : Nat), chkAll regs spills nA l k = none → ∀ i ∈ l, chkI regs spills nA i = 0
  | [], _, _, i, hi => by cases hi
  | x :: l, k, h, i, hi => by
    unfold chkAll at h
    split at h
    · cases h
    · rename_i hx
      cases hi with
      | head => exact Decidable.not_not.1 hx
      | tail _ hi => exact chkAll_none l (k + 1) h i hi
theorem chkAll_some {regs spills nA : Int} : ∀ (l : List RI) (k : Nat) (r : Int × Int), chkAll regs spills nA l k = some r → r.2 ≠ 0
  | [], _, _, h => by simp [chkAll] at h
  | x :: l, k, r, h => by
    unfold chkAll at h
    split at h
    · rename_i hx; simp at h; subst h; exact hx
    · exact chkAll_some l (k + 1) r h

/-- code that is in order -/
structure InOrd (ars : List Ar) (regs spills : Int) (cd : List RI) : Prop where
  hnA : ars.length ≤ 8
  hars : ∀ a ∈ ars, 1 ≤ a.size ∧ a.size ≤ 65536
  hregs : 0 ≤ regs ∧ regs ≤ 1024
  hspl : 0 ≤ spills ∧ spills ≤ 1024
  hcd : cd.length ≤ 16384
  hins : ∀ i ∈ cd, chkI regs spills ars.length i = 0
  hnest : (nestRun cd 0 []).2 = false

theorem chk_good {ars : List Ar} {regs spills : Int} {cd : List RI} (h : (chkCode ars regs spills cd).2 = 0) : InOrd ars regs spills cd := by
  unfold chkCode at h
  split at h
  · simp at h
  rename_i h8
  split at h
  · simp at h
  rename_i n hn
  split at h
  · simp at h
  rename_i hr
  split at h
  · simp at h
  rename_i hc
  split at h
  · rename_i r hr; exact absurd h (chkAll_some _ _ _ hr)
  rename_i hi
  cases hq : (nestRun cd 0 []).2 with
  | true => rw [hq] at h; simp at h
  | false => exact ⟨by omega, chkArs_mem _ _ _ hn, by omega, by omega, by omega, chkAll_none _ _ hi, hq⟩

set_option maxRecDepth 100000 in
set_option maxHeartbeats 1000000 in
theorem Start_any (arsA codeA : Option Addr) (arsC codeC : Nat) (ars : List Ar) (regs spills : Int) (cd : List RI) (w : World) (hars : RowB w.heap.size w 2 arsA ars.length fun i j => (ars.getD i default).cell j)
    (hcd : RowB w.heap.size w 5 codeA cd.length fun i j => (cd.getD i default).cell j) (hA : ars.length ≤ 9223372036854775807) (hC : cd.length ≤ 9223372036854775807) (harg : ∀ i ∈ cd, 0 ≤ i.arg ∧ i.arg < 4294967296) :
    Calls Try.prog 11 #[.agg #[.slice arsA ars.length arsC, .int .i64 regs, .int .i64 spills, .slice codeA cd.length codeC]] w (StartPost ars regs spills cd w) := by
  have HARS := Lib.hid hars
  have HCD := Lib.hid hcd
  have HARG := Lib.hid harg
  clear hars hcd harg
  have hb : Below w.heap.size w ((w.alloc (.cells #[.slice arsA ars.length arsC, .int .i64 regs, .int .i64 spills, .slice codeA cd.length codeC] 25)).alloc (.cells #[.slice none 0 0, .slice none 0 0] 31)) := ((Below.refl _ _).alloc (by simp) _).alloc (by simp) _
  have hk1 : ((w.alloc (.cells #[.slice arsA ars.length arsC, .int .i64 regs, .int .i64 spills, .slice codeA cd.length codeC] 25)).alloc (.cells #[.slice none 0 0, .slice none 0 0] 31)).heap[w.heap.size]? = some (.cells #[.slice arsA ars.length arsC, .int .i64 regs, .int .i64 spills, .slice codeA cd.length codeC] 25) := by
    rw [Below.heap_alloc _ _ _ (by simp)]; exact heap_new1 _ _
  have HB := Lib.hid (And.intro hb (And.intro hk1 (heap_new2 w (.cells #[.slice arsA ars.length arsC, .int .i64 regs, .int .i64 spills, .slice codeA cd.length codeC] 25) (.cells #[.slice none 0 0, .slice none 0 0] 31))))
  clear hb hk1
  go_enter Try.func11, Try.ntmps11
  go_upto_region 1 with (fail)
  refine wp_gen (fun W => Below w.heap.size w W ∧ Blk W w.heap.size [.slice arsA ars.length arsC, .int .i64 regs, .int .i64 spills, .slice codeA cd.length codeC] 25 ∧ Blk W (w.heap.size + 1) [.slice none 0 0, .slice none 0 0] 31) HB.out ?_
  rintro W ⟨hbW, hbk, hres⟩
  clear HB
  have a0 : W.cell? ⟨w.heap.size, 0, none⟩ = some (.slice arsA ars.length arsC) := hbk.cell 0
  have a1 : W.cell? ⟨w.heap.size, 0 + 1, none⟩ = some (.int .i64 regs) := hbk.cell 1
  have a2 : W.cell? ⟨w.heap.size, 0 + 1 + 1, none⟩ = some (.int .i64 spills) := hbk.cell 2
  have a3 : W.cell? ⟨w.heap.size, 0 + 1 + 1 + 1, none⟩ = some (.slice codeA cd.length codeC) := hbk.cell 3
  have HCH := Lib.hid (Check_any arsA codeA arsC codeC ars regs spills cd W ((HARS.out.below hbW).mono hbW.size) ((HCD.out.below hbW).mono hbW.size) hA hC HARG.out)
  have hWl := hres.lt
  have HW := Lib.hid (And.intro hbW (And.intro hbk hres))
  clear hbW hbk hres
  obtain ⟨ce, hce⟩ : ∃ ce, chkCode ars regs spills cd = ce := ⟨_, rfl⟩
  have HCE := Lib.hid hce
  clear hce
  by_cases hz : ce.2 = 0
  · have G := chk_good (ars := ars) (regs := regs) (spills := spills) (cd := cd) (by rw [HCE.out]; exact hz)
    have HZ := Lib.hid hz
    have HG := Lib.hid G
    clear hz G
    go_wp2_with fail
    refine HCH.out.mono ?_
    rintro e Y ⟨he, hbY⟩
    rw [HCE.out, HZ.out] at he
    subst he
    have y0 : Y.cell? ⟨w.heap.size, 0, none⟩ = some (.slice arsA ars.length arsC) := by rw [hbY.cell (p := ⟨w.heap.size, 0, none⟩) (by show w.heap.size < W.heap.size; omega)]; exact a0
    have hYl : w.heap.size + 1 < Y.heap.size := by have := hbY.size; omega
    have hwY : Below w.heap.size w Y := HW.out.1.trans (hbY.mono HW.out.1.size)
    have hres : Blk Y (w.heap.size + 1) [.slice none 0 0, .slice none 0 0] 31 := HW.out.2.2.below hbY hWl
    have HST := Lib.hid (start_any arsA arsC ars Y ((HARS.out.below hwY).mono hwY.size) HG.out.hnA HG.out.hars)
    have HY := Lib.hid (And.intro hwY hres)
    clear hbY hwY hres a0 a1 a2 a3
    go_wp2_with fail
    refine HST.out.mono ?_
    rintro e X ⟨v, τ, ab, ac, cb, cc, rfl, hgo, hcx, tcb, hcb, hbX⟩
    obtain ⟨va, vc, rfl⟩ := grid_slice' hgo
    have hresX : Blk X (w.heap.size + 1) [.slice none 0 0, .slice none 0 0] 31 := HY.out.2.below hbX hYl
    have z0 : X.cell? ⟨w.heap.size + 1, 0, none⟩ = some (.slice none 0 0) := hresX.cell 0
    have z1 : X.cell? ⟨w.heap.size + 1, 0 + 1, none⟩ = some (.slice none 0 0) := hresX.cell 1
    have f0 := hresX.frozen 0
    have f1 := hresX.frozen (0 + 1)
    have hzl : (zeros ars).length = ars.length := by simp [zeros]
    have HX := Lib.hid (And.intro hgo (And.intro hcx (And.intro hcb (And.intro hbX (And.intro hresX hzl)))))
    clear hgo hcx hcb hbX hresX hzl tcb
    go_wp2
    refine bodyPost_ret (v := .tuple #[.agg #[.slice va (zeros ars).length vc, .slice (some ⟨cb, 0, none⟩) (List.replicate 16 (0 : Int)).length cc], .int .i64 0]) ?_ rfl ?_
    · have e0 := (HX.out.2.2.2.2.1.set 0 (.slice va (zeros ars).length vc)).set 1 (.slice (some ⟨cb, 0, none⟩) (List.replicate 16 (0 : Int)).length cc)
      have x0 := e0.cell 0
      have x1 := e0.cell 1
      simp only [List.set_cons_zero, List.set_cons_succ, List.getElem?_cons_zero, List.getElem?_cons_succ] at x0 x1
      simp [results, Try.results11, go_sem] at x0 x1 ⊢
      simp [x0, x1]
    · obtain ⟨hgo, ⟨t9, ht9⟩, hcb, hbX, hresX, hzl⟩ := HX.out
      have hx : w.heap.size ≤ w.heap.size + 1 := by omega
      refine ⟨((HY.out.1.trans (hbX.mono HY.out.1.size)).setCell hx _).setCell hx _, ?_⟩
      rw [if_pos (by rw [HCE.out, HZ.out])]
      have same : ∀ (w2 : World), (∀ k, w.heap.size ≤ k → w2.heap[k]? = ((X.setCell ⟨w.heap.size + 1, 0, none⟩ (.slice va (zeros ars).length vc)).setCell ⟨w.heap.size + 1, 1, none⟩ (.slice (some ⟨cb, 0, none⟩) 16 cc)).heap[k]?) → ∀ k, Y.heap.size ≤ k → w2.heap[k]? = X.heap[k]? := fun w2 h2 k hk => by
        have hne : k ≠ w.heap.size + 1 := by omega
        rw [h2 k (by omega), Below.heap_setCell _ _ _ _ hne, Below.heap_setCell _ _ _ _ hne]
      refine ⟨_, rfl, fun w2 h2 => ⟨va, vc, some ⟨cb, 0, none⟩, cc, rfl, ?_, cb, 0, rfl, fun j hj => ?_⟩⟩
      · exact (hgo.above (same w2 h2)).at rfl
      · have ht2 : Blk w2 cb (ints .u32 (List.replicate 16 0) ++ t9) 42 := by unfold Blk; rw [same w2 h2 cb hcb]; exact ht9
        rw [Nat.zero_add]
        exact (ht2.cell j).trans (ints_get_app hj)
  · have hne : (ce.2 != 0) = true := by simpa using hz
    have HZ := Lib.hid hz
    clear hz
    go_wp2_with fail
    refine HCH.out.mono ?_
    rintro e Y ⟨he, hbY⟩
    rw [HCE.out] at he
    subst he
    have hYl : w.heap.size + 1 < Y.heap.size := by have := hbY.size; omega
    have hres : Blk Y (w.heap.size + 1) [.slice none 0 0, .slice none 0 0] 31 := HW.out.2.2.below hbY hWl
    have z0 : Y.cell? ⟨w.heap.size + 1, 0, none⟩ = some (.slice none 0 0) := hres.cell 0
    have z1 : Y.cell? ⟨w.heap.size + 1, 0 + 1, none⟩ = some (.slice none 0 0) := hres.cell 1
    have f0 := hres.frozen 0
    have f1 := hres.frozen (0 + 1)
    have HY := Lib.hid (And.intro hbY hres)
    clear hbY hres
    go_wp2
    refine bodyPost_ret (v := .tuple #[zeroMemV, .int .i64 ce.2]) ?_ rfl ?_
    · have e0 := (HY.out.2.set 0 (.slice none 0 0)).set 1 (.slice none 0 0)
      have x0 := e0.cell 0
      have x1 := e0.cell 1
      simp only [List.set_cons_zero, List.set_cons_succ, List.getElem?_cons_zero, List.getElem?_cons_succ] at x0 x1
      simp [results, Try.results11, go_sem, x0, x1, zeroMemV]
    · have hx : w.heap.size ≤ w.heap.size + 1 := by omega
      refine ⟨((HW.out.1.trans (HY.out.1.mono HW.out.1.size)).setCell hx _).setCell hx _, ?_⟩
      rw [if_neg (by rw [HCE.out]; exact HZ.out), HCE.out]
end Go.Proofs.Ytefdnjhhaejgbaa
