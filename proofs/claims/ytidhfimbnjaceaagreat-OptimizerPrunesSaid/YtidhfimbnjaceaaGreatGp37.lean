/- A part of the proof of OptimizerPrunes: PrA. No condition. -/
import Derived.Test.YtidhfimbnjaceaaGreatGp14
import Derived.Test.YtidhfimbnjaceaaGreatGp36
set_option linter.unusedSimpArgs false
set_option linter.unusedVariables false
set_option linter.constructorNameAsVariable false
set_option maxRecDepth 100000
set_option maxHeartbeats 4000000
namespace Go.Proofs.YtidhfimbnjaceaaGreat
open Go.RowKit
set_option linter.unusedVariables false
set_option linter.unusedSimpArgs false
theorem cloneB_has {n : Nat} {row : Nat → Nat → AV} (hn : n < 1000000) (hc : ∀ i j, i < n → j < 1 → (row i j).cell = true) :
  Has Tryz.prog 101 [.fs 1 n row] [.o 4 1 n 0 row] := by
 refine hasQ_of' mixo x48ok ⟨by simp, by decide⟩ ?_
 simp only [argE]
 have hl1 : n < 1099511627776 := by omega
 have hl2 : n ≤ 140737488355328 := by omega
 have hl3 : n ≤ 9223372036854775807 := by omega
 repeat (first | (with_reducible refine GA.go mixo rfl ?_) | simp only [go_sem, simprocAttr])
 intro t ht
 cases t
 ·repeat (first | (with_reducible refine GA.go mixo rfl ?_) | simp only [hl1, hl2, hl3, decide_true, go_sem, simprocAttr])
  refine ⟨[_], rfl, .o (x := _) (by simp only [go_sem, simprocAttr]; rfl) (by rfl) (by rfl) (by rfl) (by decide) (by simp only [go_sem, simprocAttr] <;> omega) (Nat.le_refl _) (fun i j hi hj => fn_row1 hi hj (by omega)) hc rfl .nil⟩
 ·obtain rfl := ht rfl
  repeat (first | (with_reducible refine GA.go mixo rfl ?_) | simp only [go_sem, simprocAttr])
  exact ⟨[_], rfl, .o0 rfl .nil⟩
def eqB (n : Nat) (f g : Nat → Bool) : Bool := (List.range n).all fun r => f r == g r
theorem eqB_iff {n : Nat} {f g : Nat → Bool} : eqB n f g = true ↔ ∀ r, r < n → f r = g r := by
 unfold eqB
 simp [List.all_eq_true, List.mem_range]
theorem equalB_has {n : Nat} (f g : Nat → Bool) (hn : n < 1000000) : Has Tryz.prog 103 [.fs 1 n (bF f), .fs 1 n (bF g)] [.v (.b (eqB n f g))] := by
 refine hasQ_of' mixo x50ok ⟨by simp, by decide⟩ ?_
 simp only [argE]
 repeat (first | (with_reducible refine GA.go mixo rfl ?_) | simp only [decide_true, go_sem, simprocAttr])
 refine GA.loop (I := fun mm e H => ∃ k : Nat, mm = n - k ∧ k ≤ n ∧ (∀ r, r < k → f r = g r) ∧ e = envOf [(0, .fs 1 n (bF f)), (1, .fs 1 n (bF g)), (12, .n .i64 n), (13, .n .i64 k)] ∧ H = heapOf []) (Wk.mk [] [] ?_ ?_ ?_) ⟨0, rfl, by omega, fun r h => by omega, rfl, rfl⟩ ?_
 ·simp only [WkE, WkH, go_sem, simprocAttr]
  repeat' refine and_of ?_ ?_
  all_goals first | exact wkt | skip
 ·trivial
 ·simp
 rintro mm e H ⟨k, rfl, hk, hs, rfl, rfl⟩
 repeat (first | (with_reducible refine GA.go mixo rfl ?_) | simp only [go_sem, simprocAttr])
 refine ⟨fun h => ?_, fun h => ?_⟩
 ·have hkn : k < n := by omega
  have h0 : (0 : Int) ≤ (k : Int) := by omega
  have e1 : bF f k 0 = .b (f k) := rfl
  have e2 : bF g k 0 = .b (g k) := rfl
  by_cases hfg : f k = g k
  ·have hd : (f k == g k) = true := by simp [hfg]
   repeat (first | (with_reducible refine GA.go mixo rfl ?_) | simp only [h0, h, e1, e2, eqS, hd, go_sem, simprocAttr])
   refine ⟨_, _, _, ?_, Wk.mk [] [] ?_ ?_ ?_, k + 1, rfl, by omega, fun r hr => ?_, rfl, rfl⟩
   ·omega
   ·simp only [WkE, WkH, go_sem, simprocAttr]
    repeat' refine and_of ?_ ?_
    all_goals first | exact wkt | skip
   ·trivial
   ·simp
   ·by_cases e : r = k
    ·rw [e]; exact hfg
    ·exact hs r (by omega)
  ·have hd : (f k == g k) = false := by simpa using hfg
   have hne : eqB n f g = false := by
    cases he : eqB n f g
    ·rfl
    ·exact absurd (eqB_iff.1 he k hkn) hfg
   repeat (first | (with_reducible refine GA.go mixo rfl ?_) | simp only [h0, h, e1, e2, eqS, hd, go_sem, simprocAttr])
   exact has_end1 (by rw [hne]) rfl
 ·repeat (first | (with_reducible refine GA.go mixo rfl ?_) | simp only [go_sem, simprocAttr])
  have he : eqB n f g = true := eqB_iff.2 fun r hr => hs r (by omega)
  exact has_end1 (by rw [he]) rfl
def follP (cs : List In) (pt : List Int) (i : Nat) : List Int :=
 if (cs.getD i (0, 0, 0, 0, 0)).1 = 28 then [pt.getD i 0 + 1]
 else if (cs.getD i (0, 0, 0, 0, 0)).1 = 27 ∨ (cs.getD i (0, 0, 0, 0, 0)).1 = 29 ∨ (cs.getD i (0, 0, 0, 0, 0)).1 = 30 ∨ ((cs.getD i (0, 0, 0, 0, 0)).1 = 31 ∧ (cs.getD (pt.getD i 0).toNat (0, 0, 0, 0, 0)).1 = 29) then [(i : Int) + 1, pt.getD i 0 + 1]
 else [(i : Int) + 1]
theorem following_has (cs : List In) (pt : List Int) (i : Nat) (hi : i < cs.length) (hip : i < pt.length) (hcs : cs.length < 1000000) (hp : -1 ≤ pt.getD i 0 ∧ pt.getD i 0 < cs.length) (hp31 : (cs.getD i (0, 0, 0, 0, 0)).1 = 31 → 0 ≤ pt.getD i 0) :
  Has Tryz.prog 102 [.fs 5 cs.length (cC cs), .fs 1 pt.length (iC .i64 pt), .n .i64 i] [.v (.fs 1 (follP cs pt i).length (iC .i64 (follP cs pt i)))] := by
 have h0 : (0 : Int) ≤ (i : Int) := by omega
 have h1 : (i : Int) < (cs.length : Int) := by omega
 have h2 : (i : Int) < (pt.length : Int) := by omega
 have hc := cC0 cs i
 have hpt : iC .i64 pt i 0 = .n .i64 (pt.getD i 0) := rfl
 have hw1 : IntKind.wrap .i64 ((i : Int) + 1) = (i : Int) + 1 := wrap64 (by omega)
 have hw2 : IntKind.wrap .i64 (pt.getD i 0 + 1) = pt.getD i 0 + 1 := wrap64 (by omega)
 unfold follP
 generalize hop : (cs.getD i (0, 0, 0, 0, 0)).1 = op at hc hp31 ⊢
 generalize hpp : pt.getD i 0 = p at hpt hp hp31 hw2 ⊢
 refine hasQ_of' mixo x49ok ⟨by simp, by decide⟩ ?_
 simp only [argE]
 by_cases d28 : op = 28
 ·subst d28
  rw [if_pos rfl]
  (try simp only [h0, h1, h2, hc, hpt, decide_true, go_sem, simprocAttr])
  iterate 11 (with_reducible refine GA.go mixo rfl ?_; try simp only [h0, h1, h2, hc, hpt, decide_true, go_sem, simprocAttr])
  refine GA.cut (envOf [(6, .fs 1 1 (iC .i64 [p + 1]))]) (heapOf []) ?_ ?_
  ·refine GA.reg ?_
   simp only [hw1, hw2, go_sem, simprocAttr]
   refine Wk.mk [] [0] ?_ ?_ ?_
   ·simp only [WkE, go_sem, simprocAttr]
    refine Wv.cv (Cv.sl (x := _) (by simp) (by simp only [go_sem, simprocAttr]; rfl) (by simp) (by simp) (by simp) (fun i j hi hj => ?_) (fun i j _ _ => rfl))
    cases Nat.lt_one_iff.1 hj
    rcases Nat.lt_one_iff.1 hi with rfl <;> simp only [go_sem, simprocAttr] <;> rfl
   ·trivial
   ·simp
  ·repeat (first | (with_reducible refine GA.go mixo rfl ?_) | simp only [go_sem, simprocAttr])
   exact has_end1 rfl rfl
 rw [if_neg d28]
 by_cases d27 : op = 27
 ·subst d27
  rw [if_pos (.inl rfl)]
  (try simp only [h0, h1, h2, hc, hpt, d28, decide_true, decide_false, go_sem, simprocAttr])
  iterate 14 (with_reducible refine GA.go mixo rfl ?_; try simp only [h0, h1, h2, hc, hpt, d28, decide_true, decide_false, go_sem, simprocAttr])
  refine GA.cut (envOf [(6, .fs 1 2 (iC .i64 [(i : Int) + 1, p + 1]))]) (heapOf []) ?_ ?_
  ·refine GA.reg ?_
   simp only [hw1, hw2, go_sem, simprocAttr]
   refine Wk.mk [] [0] ?_ ?_ ?_
   ·simp only [WkE, go_sem, simprocAttr]
    refine Wv.cv (Cv.sl (x := _) (by simp) (by simp only [go_sem, simprocAttr]; rfl) (by simp) (by simp) (by simp) (fun i j hi hj => ?_) (fun i j _ _ => rfl))
    cases Nat.lt_one_iff.1 hj
    rcases lt2 hi with rfl | rfl <;> simp only [go_sem, simprocAttr] <;> rfl
   ·trivial
   ·simp
  ·repeat (first | (with_reducible refine GA.go mixo rfl ?_) | simp only [go_sem, simprocAttr])
   exact has_end1 rfl rfl
 by_cases d29 : op = 29
 ·subst d29
  rw [if_pos (.inr (.inl rfl))]
  (try simp only [h0, h1, h2, hc, hpt, d28, d27, decide_true, decide_false, go_sem, simprocAttr])
  iterate 14 (with_reducible refine GA.go mixo rfl ?_; try simp only [h0, h1, h2, hc, hpt, d28, d27, decide_true, decide_false, go_sem, simprocAttr])
  refine GA.cut (envOf [(6, .fs 1 2 (iC .i64 [(i : Int) + 1, p + 1]))]) (heapOf []) ?_ ?_
  ·refine GA.reg ?_
   simp only [hw1, hw2, go_sem, simprocAttr]
   refine Wk.mk [] [0] ?_ ?_ ?_
   ·simp only [WkE, go_sem, simprocAttr]
    refine Wv.cv (Cv.sl (x := _) (by simp) (by simp only [go_sem, simprocAttr]; rfl) (by simp) (by simp) (by simp) (fun i j hi hj => ?_) (fun i j _ _ => rfl))
    cases Nat.lt_one_iff.1 hj
    rcases lt2 hi with rfl | rfl <;> simp only [go_sem, simprocAttr] <;> rfl
   ·trivial
   ·simp
  ·repeat (first | (with_reducible refine GA.go mixo rfl ?_) | simp only [go_sem, simprocAttr])
   exact has_end1 rfl rfl
 by_cases d30 : op = 30
 ·subst d30
  rw [if_pos (.inr (.inr (.inl rfl)))]
  (try simp only [h0, h1, h2, hc, hpt, d28, d27, d29, decide_true, decide_false, go_sem, simprocAttr])
  iterate 14 (with_reducible refine GA.go mixo rfl ?_; try simp only [h0, h1, h2, hc, hpt, d28, d27, d29, decide_true, decide_false, go_sem, simprocAttr])
  refine GA.cut (envOf [(6, .fs 1 2 (iC .i64 [(i : Int) + 1, p + 1]))]) (heapOf []) ?_ ?_
  ·refine GA.reg ?_
   simp only [hw1, hw2, go_sem, simprocAttr]
   refine Wk.mk [] [0] ?_ ?_ ?_
   ·simp only [WkE, go_sem, simprocAttr]
    refine Wv.cv (Cv.sl (x := _) (by simp) (by simp only [go_sem, simprocAttr]; rfl) (by simp) (by simp) (by simp) (fun i j hi hj => ?_) (fun i j _ _ => rfl))
    cases Nat.lt_one_iff.1 hj
    rcases lt2 hi with rfl | rfl <;> simp only [go_sem, simprocAttr] <;> rfl
   ·trivial
   ·simp
  ·repeat (first | (with_reducible refine GA.go mixo rfl ?_) | simp only [go_sem, simprocAttr])
   exact has_end1 rfl rfl
 by_cases d31 : op = 31
 ·subst d31
  have hp0 := hp31 rfl
  obtain ⟨q, rfl⟩ : ∃ q : Nat, p = (q : Int) := ⟨p.toNat, by omega⟩
  have hq1 : (q : Int) < (cs.length : Int) := hp.2
  have hcq := cC0 cs q
  rw [Int.toNat_natCast]
  generalize (cs.getD q (0, 0, 0, 0, 0)).1 = oq at hcq ⊢
  by_cases dq : oq = 29
  ·subst dq
   rw [if_pos (.inr (.inr (.inr ⟨rfl, rfl⟩)))]
   (try simp only [h0, h1, h2, hc, hpt, d28, d27, d29, d30, hp0, hq1, hcq, decide_true, decide_false, go_sem, simprocAttr])
   iterate 14 (with_reducible refine GA.go mixo rfl ?_; try simp only [h0, h1, h2, hc, hpt, d28, d27, d29, d30, hp0, hq1, hcq, decide_true, decide_false, go_sem, simprocAttr])
   refine GA.cut (envOf [(6, .fs 1 2 (iC .i64 [(i : Int) + 1, (q : Int) + 1]))]) (heapOf []) ?_ ?_
   ·refine GA.reg ?_
    simp only [hw1, hw2, go_sem, simprocAttr]
    refine Wk.mk [] [0] ?_ ?_ ?_
    ·simp only [WkE, go_sem, simprocAttr]
     refine Wv.cv (Cv.sl (x := _) (by simp) (by simp only [go_sem, simprocAttr]; rfl) (by simp) (by simp) (by simp) (fun i j hi hj => ?_) (fun i j _ _ => rfl))
     cases Nat.lt_one_iff.1 hj
     rcases lt2 hi with rfl | rfl <;> simp only [go_sem, simprocAttr] <;> rfl
    ·trivial
    ·simp
   ·repeat (first | (with_reducible refine GA.go mixo rfl ?_) | simp only [go_sem, simprocAttr])
    exact has_end1 rfl rfl
  ·rw [if_neg (by simp [dq])]
   (try simp only [h0, h1, h2, hc, hpt, d28, d27, d29, d30, hp0, hq1, hcq, dq, decide_true, decide_false, go_sem, simprocAttr])
   iterate 15 (with_reducible refine GA.go mixo rfl ?_; try simp only [h0, h1, h2, hc, hpt, d28, d27, d29, d30, hp0, hq1, hcq, dq, decide_true, decide_false, go_sem, simprocAttr])
   refine GA.cut (envOf [(6, .fs 1 1 (iC .i64 [(i : Int) + 1]))]) (heapOf []) ?_ ?_
   ·refine GA.reg ?_
    simp only [hw1, hw2, go_sem, simprocAttr]
    refine Wk.mk [] [0] ?_ ?_ ?_
    ·simp only [WkE, go_sem, simprocAttr]
     refine Wv.cv (Cv.sl (x := _) (by simp) (by simp only [go_sem, simprocAttr]; rfl) (by simp) (by simp) (by simp) (fun i j hi hj => ?_) (fun i j _ _ => rfl))
     cases Nat.lt_one_iff.1 hj
     rcases Nat.lt_one_iff.1 hi with rfl <;> simp only [go_sem, simprocAttr] <;> rfl
    ·trivial
    ·simp
   ·repeat (first | (with_reducible refine GA.go mixo rfl ?_) | simp only [go_sem, simprocAttr])
    exact has_end1 rfl rfl
 ·rw [if_neg (by simp [d27, d29, d30, d31])]
  (try simp only [h0, h1, h2, hc, hpt, d28, d27, d29, d30, d31, decide_true, decide_false, go_sem, simprocAttr])
  iterate 15 (with_reducible refine GA.go mixo rfl ?_; try simp only [h0, h1, h2, hc, hpt, d28, d27, d29, d30, d31, decide_true, decide_false, go_sem, simprocAttr])
  refine GA.cut (envOf [(6, .fs 1 1 (iC .i64 [(i : Int) + 1]))]) (heapOf []) ?_ ?_
  ·refine GA.reg ?_
   simp only [hw1, hw2, go_sem, simprocAttr]
   refine Wk.mk [] [0] ?_ ?_ ?_
   ·simp only [WkE, go_sem, simprocAttr]
    refine Wv.cv (Cv.sl (x := _) (by simp) (by simp only [go_sem, simprocAttr]; rfl) (by simp) (by simp) (by simp) (fun i j hi hj => ?_) (fun i j _ _ => rfl))
    cases Nat.lt_one_iff.1 hj
    rcases Nat.lt_one_iff.1 hi with rfl <;> simp only [go_sem, simprocAttr] <;> rfl
   ·trivial
   ·simp
  ·repeat (first | (with_reducible refine GA.go mixo rfl ?_) | simp only [go_sem, simprocAttr])
   exact has_end1 rfl rfl
def holB (cs : List In) (i : Nat) : Bool := decide ((cs.getD (i + 1) (0, 0, 0, 0, 0)).1 = 31) && (decide ((cs.getD i (0, 0, 0, 0, 0)).1 = 27) || decide ((cs.getD i (0, 0, 0, 0, 0)).1 = 29) || decide ((cs.getD i (0, 0, 0, 0, 0)).1 = 28))
def holGo (cs : List In) : Nat → Nat → Option Nat
 |0, _ => none
 |f + 1, k => if k + 1 < cs.length then (if holB cs k = true then some k else holGo cs f (k + 1)) else none
def holP (cs : List In) : Option Nat := holGo cs cs.length 0
def holR (o : Option Nat) : List RT := match o with
 |some k => [.v (.n .i64 k), .v (.b true)]
 |none => [.v (.n .i64 0), .v (.b false)]
theorem hollow_has (cs : List In) (hcs : cs.length < 1000000) : Has Tryz.prog 76 [.fs 5 cs.length (cC cs)] (holR (holP cs)) := by
 refine hasQ_of' mixo x47ok ⟨by simp, by decide⟩ ?_
 simp only [argE]
 repeat (first | (with_reducible refine GA.go mixo rfl ?_) | simp only [go_sem, simprocAttr])
 refine GA.loop (I := fun mm e H => ∃ k f : Nat, mm = cs.length - k ∧ k ≤ cs.length ∧ k + f = cs.length ∧ holP cs = holGo cs f k ∧ e = envOf [(0, .fs 5 cs.length (cC cs)), (4, .n .i64 k)] ∧ H = heapOf []) (Wk.mk [] [] ?_ ?_ ?_) ⟨0, cs.length, rfl, by omega, by omega, rfl, rfl, rfl⟩ ?_
 ·simp only [WkE, WkH, go_sem, simprocAttr]
  repeat' refine and_of ?_ ?_
  all_goals first | exact wkt | skip
 ·trivial
 ·simp
 rintro mm e H ⟨k, f, rfl, hk, hkf, hs, rfl, rfl⟩
 have hw : IntKind.wrap .i64 ((k : Int) + 1) = ((k + 1 : Nat) : Int) := by rw [wrap64 (by omega)]; omega
 repeat (first | (with_reducible refine GA.go mixo rfl ?_) | simp only [hw, go_sem, simprocAttr])
 refine ⟨fun h => ?_, fun h => ?_⟩
 ·have hkn : k + 1 < cs.length := by omega
  have h0 : (0 : Int) ≤ (k : Int) := by omega
  have h0' : (0 : Int) ≤ ((k + 1 : Nat) : Int) := by omega
  have h1 : (k : Int) < (cs.length : Int) := by omega
  have hc := cC0 cs k
  have hc' := cC0 cs (k + 1)
  have hB : holB cs k = (decide ((cs.getD (k + 1) (0, 0, 0, 0, 0)).1 = 31) && (decide ((cs.getD k (0, 0, 0, 0, 0)).1 = 27) || decide ((cs.getD k (0, 0, 0, 0, 0)).1 = 29) || decide ((cs.getD k (0, 0, 0, 0, 0)).1 = 28))) := rfl
  obtain ⟨f, rfl⟩ : ∃ g, f = g + 1 := ⟨f - 1, by omega⟩
  rw [holGo, if_pos hkn] at hs
  generalize (cs.getD k (0, 0, 0, 0, 0)).1 = op at hc hB
  generalize (cs.getD (k + 1) (0, 0, 0, 0, 0)).1 = op' at hc' hB
  cases d1 : decide (op' = 31) <;> cases d2 : decide (op = 27) <;> cases d3 : decide (op = 29) <;> cases d4 : decide (op = 28)
  all_goals
   rw [d1, d2, d3, d4] at hB
   simp only [Bool.and_true, Bool.true_and, Bool.false_and, Bool.and_false, Bool.or_true, Bool.true_or, Bool.false_or, Bool.or_false] at hB
   rw [hB] at hs
   repeat (first | (with_reducible refine GA.go mixo rfl ?_) | simp only [h0, h0', h, h1, hc, hc', hw, d1, d2, d3, d4, go_sem, simprocAttr])
   first
    |(rw [if_pos rfl] at hs
      rw [hs]
      exact has_tup (.v rfl rfl (.v rfl rfl .nil)))
    |(rw [if_neg (by simp)] at hs
      refine ⟨_, _, _, ?_, Wk.mk [] [] ?_ ?_ ?_, k + 1, f, rfl, by omega, by omega, hs, rfl, rfl⟩
      ·omega
      ·(simp only [WkE, WkH, go_sem, simprocAttr]; (repeat' refine and_of ?_ ?_) <;> first | trivial | exact Wv.same rfl | exact Wv.n (by omega))
      ·trivial
      ·simp)
 ·have hn : holGo cs f k = none := by
   cases f with
   |zero => rfl
   |succ f => rw [holGo, if_neg (by omega)]
  rw [hn] at hs
  repeat (first | (with_reducible refine GA.go mixo rfl ?_) | simp only [go_sem, simprocAttr])
  rw [hs]
  exact has_tup (.v rfl rfl (.v rfl rfl .nil))
end Go.Proofs.YtidhfimbnjaceaaGreat
