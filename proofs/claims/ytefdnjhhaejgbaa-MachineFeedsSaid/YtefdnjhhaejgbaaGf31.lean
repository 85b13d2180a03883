/- A part of the proof of MachineFeeds: Ca. No condition. -/
import Derived.Deep.LoopGhost
import Derived.Test.YtefdnjhhaejgbaaGf22
import Derived.Test.YtefdnjhhaejgbaaGf18
set_option linter.unusedSimpArgs false
set_option linter.unusedVariables false
namespace Go.Proofs.Ytefdnjhhaejgbaa
open Go.RowKit
set_option linter.unusedVariables false
theorem ext_getD {a b : List Int} (hl : a.length = b.length) (h : ∀ j, j < a.length → a.getD j 0 = b.getD j 0) : a = b := by
  apply List.ext_getElem hl
  intro i h1 h2
  have := h i h1
  rw [List.getD_eq_getElem?_getD, List.getD_eq_getElem?_getD, List.getElem?_eq_getElem h1, List.getElem?_eq_getElem h2] at this
  simpa using this
set_option maxRecDepth 100000 in
set_option maxHeartbeats 1000000 in
theorem same_nums (a1 a2 : Option Addr) (c1 c2 : Nat) (xs ys : List Int) (w : World) (h1 : RowB w.heap.size w 1 a1 xs.length fun j _ => .int .u32 (xs.getD j 0)) (h2 : RowB w.heap.size w 1 a2 ys.length fun j _ => .int .u32 (ys.getD j 0))
    (hm : xs.length ≤ 9223372036854775806) :
    Calls Try.prog 24 #[.slice a1 xs.length c1, .slice a2 ys.length c2] w fun e w' => e = .returned (.bool (decide (xs = ys))) ∧ ∃ n, w' = w.drewN n := by
  have H1 := Lib.hid h1
  have H2 := Lib.hid h2
  clear h1 h2
  by_cases hl : xs.length = ys.length
  rotate_left
  · have hd : ((xs.length : Int) != (ys.length : Int)) = true := by simp; omega
    have HE := Lib.hid (show decide (xs = ys) = false by simp; intro e; exact hl (by rw [e]))
    clear hl
    go_enter Try.func24, Try.ntmps24
    go_wp2
    go_ret
    exact ⟨ret_bool HE.out.symm, 0, rfl⟩
  have hd : ((xs.length : Int) != (ys.length : Int)) = false := by simp [hl]
  have HL := Lib.hid hl
  clear hl
  go_enter Try.func24, Try.ntmps24
  go_wp2_with fail
  go_loopw [5] (fun i wr => ∃ k m : Nat, i = .int .i64 (k : Int) ∧ k ≤ xs.length ∧ Hid (∀ j, j < k → xs.getD j 0 = ys.getD j 0) ∧ Hid (wr = w.drewN m)) (fun i _ => xs.length - (intOf i).toNat)
  case atStart => exact ⟨0, 0, rfl, Nat.zero_le _, Lib.hid (fun j hj => by omega), Lib.hid rfl⟩
  case round =>
    obtain ⟨k, m, rfl, hk, hj, hw⟩ := hrel
    by_cases hlt : k < xs.length
    · have hk1 := nat_cast_ltP hlt
      have hlt2 : k < ys.length := by rw [← HL.out]; exact hlt
      have hk2 := nat_cast_ltP hlt2
      obtain ⟨b, off, rfl, hb, hc⟩ := H1.out k hlt
      obtain ⟨b2, off2, rfl, hb2, hc2⟩ := H2.out k hlt2
      have q1 : wr.cell? ⟨b, off + k, none⟩ = some (.int .u32 (xs.getD k 0)) := by rw [hw.out]; have := hc 0 (by omega); simpa using this
      have q2 : wr.cell? ⟨b2, off2 + k, none⟩ = some (.int .u32 (ys.getD k 0)) := by rw [hw.out]; have := hc2 0 (by omega); simpa using this
      have z1 : b < wr.heap.size := by rw [hw.out]; exact hb
      have z2 : b2 < wr.heap.size := by rw [hw.out]; exact hb2
      clear hc hc2
      obtain ⟨x, hx⟩ : ∃ x, xs.getD k 0 = x := ⟨_, rfl⟩
      obtain ⟨y, hy⟩ : ∃ y, ys.getD k 0 = y := ⟨_, rfl⟩
      rw [hx] at q1
      rw [hy] at q2
      have HX := Lib.hid (And.intro hx hy)
      clear hx hy
      by_cases hxy : x = y
      · have HXY := Lib.hid hxy
        have q : (x != y) = false := by simp [hxy]
        clear hxy
        go_wp2_with fail
        refine wp_region_keeps [0, 1, 2, 4, 5, 6, 8] [(2, 0), (2, 1), (2, 2), (2, 4), (2, 5), (2, 6), (1, 3), (1, 7), (2, 8)] (by kernel_rfl) (by kernel_rfl) (fun c a d v w h => by cases d <;> exact h) ?_
        simp only [getPlan, List.filterMap_cons, List.filterMap_nil, List.getElem?_toArray, List.getElem?_cons_succ, List.getElem?_cons_zero, Option.map_some]
        repeat ((first | refine wpPlanK_pure (fun K hK => ?_) | refine wpPlanK_float (fun K hK => ?_)); go_simp; refine hK _ ?_; clear hK K)
        refine wpPlanK_nil ?_
        go_wp2
        go_roundw
        case rel => exact ⟨k + 1, m + 1, by simp, by omega, Lib.hid (fun j hj2 => by
            by_cases h : j < k
            · exact hj.out j h
            · have : j = k := by omega
              subst this; rw [HX.out.1, HX.out.2]; exact HXY.out), Lib.hid (by rw [hw.out]; rfl)⟩
        case measure => simp [intOf]; omega
      · have q : (x != y) = true := by simpa using hxy
        have HE := Lib.hid (show decide (xs = ys) = false by simp; intro e; apply hxy; rw [← HX.out.1, ← HX.out.2, e])
        clear hxy
        go_wp2_with fail
        refine wp_region_keeps [0, 1, 2, 4, 5, 6, 8] [(2, 0), (2, 1), (2, 2), (2, 4), (2, 5), (2, 6), (1, 3), (1, 7), (2, 8)] (by kernel_rfl) (by kernel_rfl) (fun c a d v w h => by cases d <;> exact h) ?_
        simp only [getPlan, List.filterMap_cons, List.filterMap_nil, List.getElem?_toArray, List.getElem?_cons_succ, List.getElem?_cons_zero, Option.map_some]
        repeat ((first | refine wpPlanK_pure (fun K hK => ?_) | refine wpPlanK_float (fun K hK => ?_)); go_simp; refine hK _ ?_; clear hK K)
        refine wpPlanK_nil ?_
        go_wp2
        go_ret
        exact ⟨ret_bool HE.out.symm, m + 1, by rw [hw.out]; rfl⟩
    · have hkk : k = xs.length := by omega
      subst hkk
      have HE := Lib.hid (show decide (xs = ys) = true by simp; exact ext_getD HL.out hj.out)
      go_wp2
      go_ret
      exact ⟨ret_bool HE.out.symm, m, hw.out⟩
end Go.Proofs.Ytefdnjhhaejgbaa
