/- A part of the proof of MachineFeeds: S. No condition. -/
import Derived.Test.YtefdnjhhaejgbaaGf22
import Derived.Test.YtefdnjhhaejgbaaGf12
import Derived.Test.YtefdnjhhaejgbaaGf18
set_option linter.unusedSimpArgs false
set_option linter.unusedVariables false
namespace Go.Proofs.Ytefdnjhhaejgbaa
open Go.RowKit
set_option linter.unusedVariables false
def GridR (w : World) (qa : Option Addr) (arr : List (List Int)) : Prop :=
  ∀ k, k < arr.length → ∃ q qo a cap, qa = some ⟨q, qo, none⟩ ∧ w.cell? ⟨q, qo + k, none⟩ = some (.slice a (arr.getD k []).length cap) ∧ RowB w.heap.size w 1 a (arr.getD k []).length (fun j _ => .int .u32 ((arr.getD k []).getD j 0))
theorem GridR.below {w w' : World} {qa : Option Addr} {arr : List (List Int)} (h : GridR w qa arr) (hb : Below w.heap.size w w') : GridR w' qa arr := by
  intro k hk
  obtain ⟨q, qo, a, cap, h1, h2, h3⟩ := h k hk
  exact ⟨q, qo, a, cap, h1, by rw [hb.cell (p := ⟨q, qo + k, none⟩) (World.block_lt_of_cell? w _ h2)]; exact h2, (h3.below hb).mono hb.size⟩
theorem NumsAt.row {w : World} {a : Option Addr} {xs : List Int} (h : NumsAt w a xs) : RowB w.heap.size w 1 a xs.length (fun j _ => .int .u32 (xs.getD j 0)) := by
  obtain ⟨b, off, ha, hc⟩ := h
  intro j hj
  refine ⟨b, off, ha, World.block_lt_of_cell? w _ (hc j hj), fun i hi => ?_⟩
  have : i = 0 := by omega
  subst this
  simpa using hc j hj
theorem RowB.nums {B : Nat} {w : World} {a : Option Addr} {xs : List Int} (h : RowB B w 1 a xs.length (fun j _ => .int .u32 (xs.getD j 0))) (h0 : 0 < xs.length) : NumsAt w a xs := by
  obtain ⟨b, off, ha, hb, _⟩ := h 0 h0
  refine ⟨b, off, ha, fun j hj => ?_⟩
  obtain ⟨b', off', ha', _, hc⟩ := h j hj
  rw [ha] at ha'
  simp only [Option.some.injEq, Addr.mk.injEq] at ha'
  obtain ⟨rfl, rfl, _⟩ := ha'
  simpa using hc 0 (by omega)
theorem GridAt.toR {w : World} {qa : Option Addr} {arr : List (List Int)} (h : GridAt w qa arr) : GridR w qa arr := by
  intro k hk
  obtain ⟨q, qo, a, cap, h1, h2, h3⟩ := h k hk
  exact ⟨q, qo, a, cap, h1, h2, h3.row⟩
theorem GridR.toAt {w : World} {qa : Option Addr} {arr : List (List Int)} (h : GridR w qa arr) (h0 : ∀ a ∈ arr, 0 < a.length) : GridAt w qa arr := by
  intro k hk
  obtain ⟨q, qo, a, cap, h1, h2, h3⟩ := h k hk
  exact ⟨q, qo, a, cap, h1, h2, h3.nums (h0 _ (by rw [List.getD_eq_getElem?_getD, List.getElem?_eq_getElem hk]; exact List.getElem_mem hk))⟩
def fitB (a : Ar) (xs : List Int) : Bool := decide ((xs.length : Int) = a.size) && (a.word || !xs.any (fun n => decide (255 < n)))
def fitsB (ars : List Ar) (arr : List (List Int)) (nctx : Nat) : Bool := decide (arr.length = ars.length) && decide (nctx = 16) && (List.range ars.length).all fun k => fitB (ars.getD k default) (arr.getD k [])
def FitRel (ars : List Ar) (arr : List (List Int)) (W : World) (i : Value) (wr : World) : Prop :=
  ∃ k : Nat, i = .int .i64 (k : Int) ∧ k ≤ ars.length ∧ (∀ j, j < k → fitB (ars.getD j default) (arr.getD j []) = true) ∧ Below W.heap.size W wr
theorem enter_fits1 (args : Array Value) (w : World) : (callFunc 51 args).run Try.prog w = .ok (.enter 51 args) w := run_enter Try.func51 rfl rfl args w
theorem fits_not {ars : List Ar} {arr : List (List Int)} {n k : Nat} (hk : k < ars.length) (h : fitB (ars.getD k default) (arr.getD k []) = false) : fitsB ars arr n = false := by
  unfold fitsB
  rw [Bool.and_eq_false_iff]
  right
  rw [List.all_eq_false]
  exact ⟨k, List.mem_range.2 hk, by simpa using h⟩
set_option maxRecDepth 100000 in
set_option maxHeartbeats 1000000 in
theorem fits_any (arsA qa ca : Option Addr) (arsC cq cc nctx : Nat) (ars : List Ar) (arr : List (List Int)) (w : World) (hars : RowB w.heap.size w 2 arsA ars.length fun i j => (ars.getD i default).cell j)
    (hg : GridR w qa arr) (hA : ars.length ≤ 9223372036854775806) (hl : ∀ a ∈ arr, a.length ≤ 9223372036854775806) :
    Calls Try.prog 37 #[.slice arsA ars.length arsC, .agg #[.slice qa arr.length cq, .slice ca nctx cc]] w fun e w' => e = .returned (.bool (fitsB ars arr nctx)) ∧ Below w.heap.size w w' := by
  have HARS := Lib.hid hars
  have HG := Lib.hid hg
  have HL := Lib.hid hl
  clear hars hg hl
  have hb : Below w.heap.size w (w.alloc (.cells #[.slice qa arr.length cq, .slice ca nctx cc] 31)) := (Below.refl _ _).alloc (Nat.le_refl _) _
  have HB := Lib.hid (And.intro hb (heap_new1 w (.cells #[.slice qa arr.length cq, .slice ca nctx cc] 31)))
  clear hb
  by_cases hne : arr.length = ars.length
  rotate_left
  · have e : fitsB ars arr nctx = false := by simp [fitsB, hne]
    have HE := Lib.hid e
    have hne2 : ((arr.length : Int) != (ars.length : Int)) = true := by simp; omega
    clear e hne
    go_enter Try.func37, Try.ntmps37
    go_wp2
    go_ret
    exact ⟨ret_bool HE.out.symm, HB.out.1⟩
  by_cases h16 : nctx = 16
  rotate_left
  · have e : fitsB ars arr nctx = false := by simp [fitsB, h16]
    have HE := Lib.hid e
    have hne2 : ((arr.length : Int) != (ars.length : Int)) = false := by simp [hne]
    have h162 : ((nctx : Int) != 16) = true := by simp; omega
    clear e hne h16
    go_enter Try.func37, Try.ntmps37
    go_wp2
    go_ret
    exact ⟨ret_bool HE.out.symm, HB.out.1⟩
  subst h16
  have hne2 : ((arr.length : Int) != (ars.length : Int)) = false := by simp [hne]
  have HNE := Lib.hid hne
  clear hne
  go_enter Try.func37, Try.ntmps37
  go_upto_region 1 with (fail)
  refine wp_gen (fun W => Below w.heap.size w W ∧ Blk W w.heap.size [.slice qa arr.length cq, .slice ca 16 cc] 31 ∧ w.heap.size < W.heap.size) ⟨HB.out.1, HB.out.2, by simp⟩ ?_
  rintro W ⟨hbW, hbk, hWl⟩
  clear HB
  have a0 : W.cell? ⟨w.heap.size, 0, none⟩ = some (.slice qa arr.length cq) := hbk.cell 0
  have a1 : W.cell? ⟨w.heap.size, 1, none⟩ = some (.slice ca 16 cc) := hbk.cell 1
  have HW := Lib.hid (And.intro hbW hbk)
  clear hbW hbk
  go_wp2_with fail
  go_loopw [21] (fun i wr => FitRel ars arr W i wr) (fun i _ => ars.length - (intOf i).toNat)
  case atStart => exact ⟨0, rfl, Nat.zero_le _, fun j hj => by omega, Below.refl _ _⟩
  case round =>
    obtain ⟨k, rfl, hk, hfit, hbel⟩ := hrel
    have HF := Lib.hid hfit
    clear hfit a0 a1
    have hwwr : Below w.heap.size w wr := HW.out.1.trans (hbel.mono HW.out.1.size)
    by_cases hlt : k < ars.length
    · have hk' := nat_cast_ltP hlt
      have hka : k < arr.length := by rw [HNE.out]; exact hlt
      have hka' := nat_cast_ltP hka
      obtain ⟨b, off, rfl, hb, hc⟩ := HARS.out k hlt
      have hbw : b < wr.heap.size := by have := hwwr.size; omega
      have hc2 : ∀ j, j < 2 → wr.cell? ⟨b, off + k * 2 + j, none⟩ = some ((ars.getD k default).cell j) := fun j hj => by
        rw [hwwr.cell (p := ⟨b, off + k * 2 + j, none⟩) hb]; exact hc j hj
      clear hc
      obtain ⟨q, qo, a, cap, rfl, hq, hrow⟩ := (HG.out.below hwwr) k hka
      have hlen := HL.out (arr.getD k []) (by rw [List.getD_eq_getElem?_getD, List.getElem?_eq_getElem hka]; exact List.getElem_mem hka)
      have hnot := fits_not (arr := arr) (n := 16) hlt
      have hstep : fitB (ars.getD k default) (arr.getD k []) = true → ∀ j, j < k + 1 → fitB (ars.getD j default) (arr.getD j []) = true := fun h j hj => by
        by_cases hjk : j = k
        · subst hjk; exact h
        · exact HF.out j (by omega)
      generalize hA : ars.getD k default = A at hc2 hnot hstep
      generalize hX : arr.getD k [] = X at hq hrow hlen hnot hstep
      obtain ⟨wd, sz⟩ := A
      have q0 : wr.cell? ⟨b, off + k * 2, none⟩ = some (.bool wd) := hc2 0 (by omega)
      have q1 : wr.cell? ⟨b, off + k * 2 + 1, none⟩ = some (.int .i64 sz) := hc2 1 (by omega)
      have hql : q < wr.heap.size := World.block_lt_of_cell? wr _ hq
      have hbz : Below wr.heap.size wr (wr.alloc (.cells #[.bool wd, .int .i64 sz] 59)) := (Below.refl _ _).alloc (Nat.le_refl _) _
      have hwz : Below w.heap.size w (wr.alloc (.cells #[.bool wd, .int .i64 sz] 59)).drew := (hwwr.trans (hbz.mono hwwr.size)).drew
      have hWz : Below W.heap.size W (wr.alloc (.cells #[.bool wd, .int .i64 sz] 59)).drew := (hbel.trans (hbz.mono hbel.size)).drew
      have c0 : wr.cell? ⟨w.heap.size, 0, none⟩ = some (.slice (some ⟨q, qo, none⟩) arr.length cq) := by rw [hbel.cell (p := ⟨w.heap.size, 0, none⟩) hWl]; exact HW.out.2.cell 0
      have hwl : w.heap.size < wr.heap.size := by have := hbel.size; omega
      have hrow2 : RowB (wr.alloc (.cells #[.bool wd, .int .i64 sz] 59)).drew.heap.size (wr.alloc (.cells #[.bool wd, .int .i64 sz] 59)).drew 1 a X.length (fun j _ => .int .u32 (X.getD j 0)) := (hrow.below hbz.drew).mono hbz.drew.size
      have cont := contains_u32 a cap X 51 (fun n => decide (255 < n)) (wr.alloc (.cells #[.bool wd, .int .i64 sz] 59)).drew hrow2 hlen enter_fits1 (fun x w => fits1_any x w)
      have HCO := Lib.hid cont
      have HNOT := Lib.hid hnot
      have HST := Lib.hid hstep
      have HWZ := Lib.hid (And.intro hwz hWz)
      clear hc2 hA hX hrow hrow2 cont hnot hstep hbz hwz hWz hbel hwwr HF
      have hnn : 0 ≤ (X.length : Int) := by omega
      cases hl : decide ((X.length : Int) = sz)
      · have e : fitB ⟨wd, sz⟩ X = false := by simp [fitB, hl]
        have HE := Lib.hid (HNOT.out e)
        have hd : ((X.length : Int) != sz) = true := by simpa using hl
        clear e hl
        go_wp2_with fail
        refine wp_region_keeps [0, 2, 6, 3, 5, 8, 9, 10, 12, 13, 14, 16, 17] [(2, 0), (2, 2), (2, 6), (1, 1), (2, 3), (1, 4), (2, 5), (1, 7), (2, 8), (2, 9), (2, 10), (1, 11), (2, 12), (2, 13), (2, 14), (2, 16), (1, 15), (2, 17), (1, 18), (0, 19), (0, 20), (0, 21)] (by kernel_rfl) (by kernel_rfl) (fun c a d v w h => by cases d <;> exact h) ?_
        simp only [getPlan, List.filterMap_cons, List.filterMap_nil, List.getElem?_toArray, List.getElem?_cons_succ, List.getElem?_cons_zero, Option.map_some]
        repeat ((first | refine wpPlanK_pure (fun K hK => ?_) | refine wpPlanK_float (fun K hK => ?_)); go_simp; refine hK _ ?_; clear hK K)
        repeat (refine wpPlanK_keep ?_; go_wp2_with fail; refine ⟨grew_below (Below.refl _ _).drew, ?_⟩)
        refine wpPlanK_nil ?_
        go_wp2
        go_ret
        exact ⟨ret_bool HE.out.symm, HWZ.out.1⟩
      · have hl2 : (X.length : Int) = sz := by simpa using hl
        have hd : ((X.length : Int) != sz) = false := by simpa using hl2
        have HL2 := Lib.hid hl2
        clear hl hl2
        cases wd
        · cases hany : X.any (fun n => decide (255 < n))
          · have e : fitB ⟨false, sz⟩ X = true := by simp [fitB, HL2.out, hany]
            have HE := Lib.hid (HST.out e)
            have HAN := Lib.hid hany
            clear e hany
            go_wp2_with fail
            refine wp_region_keeps [0, 2, 6, 3, 5, 8, 9, 10, 12, 13, 14, 16, 17] [(2, 0), (2, 2), (2, 6), (1, 1), (2, 3), (1, 4), (2, 5), (1, 7), (2, 8), (2, 9), (2, 10), (1, 11), (2, 12), (2, 13), (2, 14), (2, 16), (1, 15), (2, 17), (1, 18), (0, 19), (0, 20), (0, 21)] (by kernel_rfl) (by kernel_rfl) (fun c a d v w h => by cases d <;> exact h) ?_
            simp only [getPlan, List.filterMap_cons, List.filterMap_nil, List.getElem?_toArray, List.getElem?_cons_succ, List.getElem?_cons_zero, Option.map_some]
            repeat ((first | refine wpPlanK_pure (fun K hK => ?_) | refine wpPlanK_float (fun K hK => ?_)); go_simp; refine hK _ ?_; clear hK K)
            refine wpPlanK_keep ?_
            go_wp2_with fail
            refine HCO.out.mono ?_
            rintro e w' ⟨rfl, rfl⟩
            rw [HAN.out]
            go_wp2_with fail
            refine ⟨grew_below (Below.refl _ _).drew, ?_⟩
            repeat (refine wpPlanK_keep ?_; go_wp2_with fail; refine ⟨grew_below (Below.refl _ _).drew, ?_⟩)
            refine wpPlanK_nil ?_
            go_wp2
            go_roundw
            case rel => exact ⟨k + 1, by simp, by omega, HE.out, HWZ.out.2⟩
            case measure => simp [intOf]; omega
          · have e : fitB ⟨false, sz⟩ X = false := by simp [fitB, HL2.out, hany]
            have HE := Lib.hid (HNOT.out e)
            have HAN := Lib.hid hany
            clear e hany
            go_wp2_with fail
            refine wp_region_keeps [0, 2, 6, 3, 5, 8, 9, 10, 12, 13, 14, 16, 17] [(2, 0), (2, 2), (2, 6), (1, 1), (2, 3), (1, 4), (2, 5), (1, 7), (2, 8), (2, 9), (2, 10), (1, 11), (2, 12), (2, 13), (2, 14), (2, 16), (1, 15), (2, 17), (1, 18), (0, 19), (0, 20), (0, 21)] (by kernel_rfl) (by kernel_rfl) (fun c a d v w h => by cases d <;> exact h) ?_
            simp only [getPlan, List.filterMap_cons, List.filterMap_nil, List.getElem?_toArray, List.getElem?_cons_succ, List.getElem?_cons_zero, Option.map_some]
            repeat ((first | refine wpPlanK_pure (fun K hK => ?_) | refine wpPlanK_float (fun K hK => ?_)); go_simp; refine hK _ ?_; clear hK K)
            refine wpPlanK_keep ?_
            go_wp2_with fail
            refine HCO.out.mono ?_
            rintro e w' ⟨rfl, rfl⟩
            rw [HAN.out]
            go_wp2_with fail
            refine ⟨grew_below (Below.refl _ _).drew, ?_⟩
            repeat (refine wpPlanK_keep ?_; go_wp2_with fail; refine ⟨grew_below (Below.refl _ _).drew, ?_⟩)
            refine wpPlanK_nil ?_
            go_wp2
            go_ret
            exact ⟨ret_bool HE.out.symm, HWZ.out.1⟩
        · have e : fitB ⟨true, sz⟩ X = true := by simp [fitB, HL2.out]
          have HE := Lib.hid (HST.out e)
          clear e
          go_wp2_with fail
          refine wp_region_keeps [0, 2, 6, 3, 5, 8, 9, 10, 12, 13, 14, 16, 17] [(2, 0), (2, 2), (2, 6), (1, 1), (2, 3), (1, 4), (2, 5), (1, 7), (2, 8), (2, 9), (2, 10), (1, 11), (2, 12), (2, 13), (2, 14), (2, 16), (1, 15), (2, 17), (1, 18), (0, 19), (0, 20), (0, 21)] (by kernel_rfl) (by kernel_rfl) (fun c a d v w h => by cases d <;> exact h) ?_
          simp only [getPlan, List.filterMap_cons, List.filterMap_nil, List.getElem?_toArray, List.getElem?_cons_succ, List.getElem?_cons_zero, Option.map_some]
          repeat ((first | refine wpPlanK_pure (fun K hK => ?_) | refine wpPlanK_float (fun K hK => ?_)); go_simp; refine hK _ ?_; clear hK K)
          repeat (refine wpPlanK_keep ?_; go_wp2_with fail; refine ⟨grew_below (Below.refl _ _).drew, ?_⟩)
          refine wpPlanK_nil ?_
          go_wp2
          go_roundw
          case rel => exact ⟨k + 1, by simp, by omega, HE.out, HWZ.out.2⟩
          case measure => simp [intOf]; omega
    · have hkk : k = ars.length := by omega
      subst hkk
      have e : fitsB ars arr 16 = true := by
        simp only [fitsB, HNE.out, decide_true, Bool.true_and, List.all_eq_true, List.mem_range]
        exact HF.out
      have HE := Lib.hid e
      have HBW := Lib.hid hwwr
      clear e hwwr hbel
      go_wp2
      go_ret
      exact ⟨ret_bool HE.out.symm, HBW.out⟩
end Go.Proofs.Ytefdnjhhaejgbaa
