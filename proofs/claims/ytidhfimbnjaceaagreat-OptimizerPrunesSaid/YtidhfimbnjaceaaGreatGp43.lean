/- A part of the proof of OptimizerPrunes: LkF PrE PrF. No condition. -/
import Derived.Test.YtidhfimbnjaceaaGreatGp39
import Derived.Test.YtidhfimbnjaceaaGreatGp12
set_option linter.unusedSimpArgs false
set_option linter.unusedVariables false
set_option linter.constructorNameAsVariable false
set_option maxRecDepth 100000
set_option maxHeartbeats 4000000
namespace Go.Proofs.YtidhfimbnjaceaaGreat
open Go.RowKit
set_option linter.unusedVariables false
def rnow (cs : List In) (pt : List Int) (L : Lv) (i : Nat) : Nat → Bool :=
 nowB (nowA L (writesI (cs.getD i (0, 0, 0, 0, 0)).1 (cs.getD i (0, 0, 0, 0, 0)).2.1) (fun _ => false) (follP cs pt i)) (readsI (cs.getD i (0, 0, 0, 0, 0)).1 (cs.getD i (0, 0, 0, 0, 0)).2.2.1 (cs.getD i (0, 0, 0, 0, 0)).2.2.2.1)
def rsweepAt (cs : List In) (pt : List Int) (regs i : Nat) (s : Lv × Bool) : Lv × Bool :=
 if eqB regs (rnow cs pt s.1 i) (s.1 i) = true then s else (upd s.1 i (rnow cs pt s.1 i), true)
def rsweep (cs : List In) (pt : List Int) (regs : Nat) : Nat → Lv × Bool → Lv × Bool
 |0, s => s
 |i + 1, s => rsweep cs pt regs i (rsweepAt cs pt regs i s)
def rrounds (cs : List In) (pt : List Int) (regs : Nat) : Nat → Lv → Option Lv
 |0, _ => none
 |f + 1, L => if (rsweep cs pt regs cs.length (L, false)).2 = true then rrounds cs pt regs f (rsweep cs pt regs cs.length (L, false)).1 else some (rsweep cs pt regs cs.length (L, false)).1
def LInv (cs : List In) (pt : List Int) (L : Lv) : Prop := ∀ i r, L i r = true → i < cs.length → rnow cs pt L i r = true
theorem now_rnow (cs : List In) (pt : List Int) (L : Lv) (i r : Nat) : nowP cs pt L i r = (L i r || rnow cs pt L i r) := by
 unfold nowP rnow nowB nowA
 simp only [Bool.false_or]
 rw [Bool.or_assoc]
theorem LInv.eq {cs : List In} {pt : List Int} {L : Lv} (h : LInv cs pt L) {i : Nat} (hi : i < cs.length) : nowP cs pt L i = rnow cs pt L i := by
 funext r
 rw [now_rnow]
 cases hL : L i r
 ·rfl
 ·rw [h i r hL hi]; rfl
theorem rnow_mono {cs : List In} {pt : List Int} {L L2 : Lv} (h : ∀ i r, L i r = true → L2 i r = true) {i r : Nat} (hr : rnow cs pt L i r = true) : rnow cs pt L2 i r = true := by
 unfold rnow nowB nowA at hr ⊢
 simp only [Bool.false_or, Bool.or_eq_true, List.any_eq_true, Bool.and_eq_true] at hr ⊢
 rcases hr with ⟨nx, h1, h2, h3⟩ | hr
 ·exact .inl ⟨nx, h1, h _ _ h2, h3⟩
 ·exact .inr hr
theorem sweepAt_eq {cs : List In} {pt : List Int} {regs i : Nat} {s : Lv × Bool} (h : LInv cs pt s.1) (hi : i < cs.length) : sweepAt cs pt regs i s = rsweepAt cs pt regs i s ∧ LInv cs pt (rsweepAt cs pt regs i s).1 := by
 unfold sweepAt rsweepAt
 rw [h.eq hi]
 refine ⟨rfl, ?_⟩
 split
 ·exact h
 ·have hle : ∀ j r, s.1 j r = true → upd s.1 i (rnow cs pt s.1 i) j r = true := fun j r hj => by
   unfold upd
   split
   ·rename_i e; subst e; exact h _ _ hj hi
   ·exact hj
  intro j r hj hjl
  refine rnow_mono hle ?_
  simp only [upd] at hj
  split at hj
  ·rename_i e; subst e; exact hj
  ·exact h j r hj hjl
theorem sweep_eq {cs : List In} {pt : List Int} {regs : Nat} : ∀ (k : Nat) (s : Lv × Bool), k ≤ cs.length → LInv cs pt s.1 → sweep cs pt regs k s = rsweep cs pt regs k s ∧ LInv cs pt (rsweep cs pt regs k s).1
 |0, s, _, h => ⟨rfl, h⟩
 |k + 1, s, hk, h => by
  obtain ⟨e, h2⟩ := sweepAt_eq (regs := regs) h (show k < cs.length by omega)
  rw [sweep, rsweep, e]
  exact sweep_eq k _ (by omega) h2
theorem rounds_eq {cs : List In} {pt : List Int} {regs : Nat} : ∀ (f : Nat) (L : Lv), LInv cs pt L → rounds cs pt regs f L = rrounds cs pt regs f L
 |0, L, _ => rfl
 |f + 1, L, h => by
  obtain ⟨e, h2⟩ := sweep_eq (regs := regs) cs.length (L, false) (Nat.le_refl _) h
  rw [rounds, rrounds, e]
  split
  ·exact rounds_eq f _ h2
  ·rfl
theorem liv_eq (fuel regs : Nat) (cs : List In) : rrounds cs (ptC cs) regs fuel (fun _ _ => false) = livC fuel regs cs :=
 (rounds_eq fuel _ fun i r h => by cases h).symm
end Go.Proofs.YtidhfimbnjaceaaGreat

namespace Go.Proofs.YtidhfimbnjaceaaGreat
open Go.RowKit
set_option linter.unusedVariables false
set_option linter.unusedSimpArgs false
theorem eqB_snoc (k : Nat) (f g : Nat → Bool) : eqB (k + 1) f g = (eqB k f g && (f k == g k)) := by
 unfold eqB
 rw [List.range_succ, List.all_append]
 simp
theorem reads_in {regs : Nat} {x : In} (hx : InOk regs x) : ∀ q ∈ readsI x.1 x.2.2.1 x.2.2.2.1, 0 ≤ q ∧ q < regs := by
 intro q hq
 unfold readsI at hq
 rcases List.mem_append.1 hq with hq | hq
 ·split at hq
  ·rename_i hu
   rw [List.mem_singleton.1 hq]; exact hx.a hu
  ·cases hq
 ·split at hq
  ·rename_i hu
   rw [List.mem_singleton.1 hq]; exact hx.b hu
  ·cases hq
theorem rlive_has {na : Nat} {ra : Nat → Nat → AV} {regs : Nat} {par : Int} {cs : List In} {pt : List Int} {fuel : Nat} {p2 p3 : AV} {Lf : Lv} (hcs : cs.length < 100000) (hr : regs < 1000000)
  (hpt : Has Tryz.prog 27 [.fs 5 cs.length (cC cs)] [.v (.fs 1 pt.length (iC .i64 pt)), .v p2, .v p3]) (hptl : pt.length = cs.length)
  (hin : ∀ x ∈ cs, InOk regs x) (hp : ∀ i, i < cs.length → (-1 ≤ pt.getD i 0 ∧ pt.getD i 0 < cs.length) ∧ ((cs.getD i (0, 0, 0, 0, 0)).1 = 31 → 0 ≤ pt.getD i 0)) (hfo : ∀ i, i < cs.length → ∀ nx ∈ follP cs pt i, 0 ≤ nx ∧ nx ≤ cs.length)
  (hL : rrounds cs pt regs fuel (fun _ _ => false) = some Lf) :
  Has Tryz.prog 48 [codeV na ra regs par cs] [.o 47 1 (cs.length + 1) 0 (lC regs Lf)] := by
 have hw1 : IntKind.wrap .i64 ((cs.length : Int) + 1) = ((cs.length + 1 : Nat) : Int) := by rw [wrap64 (by omega)]; omega
 have hg1 : (0 : Int) ≤ ((cs.length + 1 : Nat) : Int) := by omega
 have hg2 : ((cs.length + 1 : Nat) : Int) ≤ 16777216 := by omega
 have hg3 : 24 * (cs.length + 1) ≤ 140737488355328 ∧ (cs.length + 1) < 1099511627776 := by omega
 have hb1 : (0 : Int) ≤ (regs : Int) := by omega
 have hb2 : (regs : Int) ≤ 16777216 := by omega
 have hb3 : 1 * regs ≤ 140737488355328 ∧ regs ≤ 140737488355328 ∧ regs < 1099511627776 := by omega
 refine hasQ_of' mixo x52ok ⟨by simp, by decide⟩ ?_
 simp only [argE, codeV]
 repeat (first | (with_reducible refine GA.go mixo rfl ?_) | simp only [go_sem, simprocAttr])
 refine gcall_has [] (.cons (.rfl (by rfl)) .nil) hpt (by simp only [go_sem, simprocAttr]) ?_
 repeat (first | (with_reducible refine GA.go mixo rfl ?_) | simp only [hw1, hg1, hg2, hg3.1, hg3.2, Int.le_refl, decide_true, go_sem, simprocAttr])
 refine GA.loop (I := fun mm e H => ∃ k : Nat, mm = cs.length + 1 - k ∧ k ≤ cs.length + 1 ∧ e = envOf [(1, .p 0 0), (3, .fs 1 pt.length (iC .i64 pt)), (6, .n .i64 cs.length), (7, .os 1 (cs.length + 1)), (8, .n .i64 k)] ∧
   H = heapOf [rowB 47 1 (cs.length + 1) 0 (fun i _ => if i < k then .fs 1 regs (bF fun _ => false) else .sl0), lstB 0 25 [.fs 2 na ra, .n .i64 regs, .n .i64 par, .fs 5 cs.length (cC cs)]]) (Wk.mk [1, 0] [] ?_ ?_ ?_) ⟨0, rfl, by omega, rfl, rfl⟩ ?_
 ·simp only [WkE, WkH, go_sem, simprocAttr]
  repeat' refine and_of ?_ ?_
  all_goals first | exact wku | skip
 ·refine .cons rfl (.same (by simp only [go_sem, simprocAttr] <;> rfl) rfl (by decide) (fun i j h hj => by cases Nat.lt_one_iff.1 hj; rw [if_neg (by omega)]; rfl) (fun i j _ hj => by split <;> rfl)) (.cons rfl (.ls) .nil)
 ·simp
 rintro mm e H ⟨k, rfl, hk, rfl, rfl⟩
 repeat (first | (with_reducible refine GA.go mixo rfl ?_) | simp only [go_sem, simprocAttr])
 refine ⟨fun h => ?_, fun h => ?_⟩
 ·have hkn : k < cs.length + 1 := by omega
  have h0 : (0 : Int) ≤ (k : Int) := by omega
  have hk1 : k + 1 ≤ cs.length + 1 := hkn
  have hk2 : (k : Int) < ((cs.length + 1 : Nat) : Int) := by omega
  repeat (first | (with_reducible refine GA.go mixo rfl ?_) | simp only [h0, h, hkn, hk1, hk2, hb1, hb2, hb3.1, hb3.2.1, hb3.2.2, Int.le_refl, decide_true, go_sem, simprocAttr])
  refine ⟨_, _, _, ?_, Wk.mk [1, 0] [2] ?_ ?_ ?_, k + 1, rfl, by omega, rfl, rfl⟩
  ·omega
  ·simp only [WkE, WkH, go_sem, simprocAttr]
   repeat' refine and_of ?_ ?_
   all_goals first | exact wku | skip
  ·refine .cons rfl (.putw (q := k) (by simp only [go_sem, simprocAttr] <;> rfl) (by simp) (by rfl) hkn rfl (by decide) (by omega) (fun i j hi hne hj => ?_) (fun i j _ _ => by split <;> rfl) (fun j hj => ?_)) (.cons rfl (.ls) .nil)
   ·by_cases h9 : i < k
    ·rw [if_pos h9, if_pos (by omega)]
    ·rw [if_neg h9, if_neg (by omega)]
   ·cases Nat.lt_one_iff.1 hj
    rw [if_pos (by omega)]
    refine Wv.cv (Cv.os (x := _) (by simp) (by simp only [go_sem, simprocAttr] <;> rfl) (by simp only [go_sem, simprocAttr] <;> exact Nat.le_refl _) (fun i j hi hj => ?_) (fun _ _ _ _ => rfl))
    cases Nat.lt_one_iff.1 hj
    rw [Nat.mul_one, Nat.add_zero, row_get1]
    rfl
  ·simp
 have hkn : k = cs.length + 1 := by omega
 subst hkn
 repeat (first | (with_reducible refine GA.go mixo rfl ?_) | simp only [go_sem, simprocAttr])
 refine GA.loop (I := fun mm e H => ∃ (f : Nat) (L : Lv) (ch : Bool), mm = f ∧ (ch = true → rrounds cs pt regs f L = some Lf) ∧ (ch = false → L = Lf) ∧ e = envOf [(1, .p 0 0), (3, .fs 1 pt.length (iC .i64 pt)), (6, .n .i64 cs.length), (7, .os 1 (cs.length + 1)), (9, .b ch)] ∧
   H = heapOf [rowB 47 1 (cs.length + 1) 0 (lC regs L), lstB 0 25 [.fs 2 na ra, .n .i64 regs, .n .i64 par, .fs 5 cs.length (cC cs)]]) (Wk.mk [1, 0] [] ?_ ?_ ?_) ⟨fuel, fun _ _ => false, true, rfl, fun _ => hL, fun h => (by cases h), rfl, rfl⟩ ?_
 ·simp only [WkE, WkH, go_sem, simprocAttr]
  repeat' refine and_of ?_ ?_
  all_goals first | exact wku | skip
 ·refine .cons rfl (.same (by simp only [go_sem, simprocAttr] <;> rfl) rfl (by decide) (fun i j h hj => by rw [if_pos h]; rfl) (fun i j _ hj => rfl)) (.cons rfl (.ls) .nil)
 ·simp
 rintro mm e H ⟨f, L, ch, rfl, hch1, hch2, rfl, rfl⟩
 cases ch
 ·repeat (first | (with_reducible refine GA.go mixo rfl ?_) | simp only [go_sem, simprocAttr])
  have := hch2 rfl
  subst this
  refine ⟨[_], rfl, .o (x := _) (by simp only [go_sem, simprocAttr]; rfl) (by rfl) (by rfl) (by rfl) (by decide) (Nat.le_refl _) (Nat.le_refl _) (fun i j _ hj => row_get i j hj) (fun i j _ hj => rfl) rfl .nil⟩
 have hro := hch1 rfl
 cases mm with
 |zero => cases hro
 |succ f =>
 rw [rrounds] at hro
 generalize hsw : rsweep cs pt regs cs.length (L, false) = S at hro
 have hw2 : IntKind.wrap .i64 ((cs.length : Int) - 1) = (cs.length : Int) - 1 := wrap64 (by omega)
 repeat (first | (with_reducible refine GA.go mixo rfl ?_) | simp only [hw2, go_sem, simprocAttr])
 refine GA.loop (I := fun mm e H => ∃ (j : Nat) (L : Lv) (ch : Bool), mm = j ∧ j ≤ cs.length ∧ rsweep cs pt regs j (L, ch) = S ∧ e = envOf [(1, .p 0 0), (3, .fs 1 pt.length (iC .i64 pt)), (6, .n .i64 cs.length), (7, .os 1 (cs.length + 1)), (9, .b ch), (10, .n .i64 ((j : Int) - 1))] ∧ H = heapOf [rowB 47 1 (cs.length + 1) 0 (lC regs L), lstB 0 25 [.fs 2 na ra, .n .i64 regs, .n .i64 par, .fs 5 cs.length (cC cs)]]) (Wk.mk [1, 0] [] ?_ ?_ ?_) ⟨cs.length, L, false, rfl, Nat.le_refl _, hsw, rfl, rfl⟩ ?_
 ·simp only [WkE, WkH, go_sem, simprocAttr]
  repeat' refine and_of ?_ ?_
  all_goals first | exact wku | skip
 ·exact (.cons rfl (.k1) (.cons rfl (.ls) .nil))
 ·simp
 rintro mm e H ⟨j, L, ch, rfl, hj, hS, rfl, rfl⟩
 repeat (first | (with_reducible refine GA.go mixo rfl ?_) | simp only [go_sem, simprocAttr])
 refine ⟨fun h => ?_, fun h => ?_⟩
 rotate_left
 ·have hj0 : mm = 0 := by omega
  subst hj0
  rw [rsweep] at hS
  subst hS
  repeat (first | (with_reducible refine GA.go mixo rfl ?_) | simp only [go_sem, simprocAttr])
  refine ⟨_, _, _, ?_, Wk.mk [1, 0] [] ?_ ?_ ?_, f, L, ch, rfl, fun hc => ?_, fun hc => ?_, rfl, rfl⟩
  ·omega
  ·simp only [WkE, WkH, go_sem, simprocAttr]
   repeat' refine and_of ?_ ?_
   all_goals first | exact wku | skip
  ·exact (.cons rfl (.k1) (.cons rfl (.ls) .nil))
  ·simp
  ·rw [hc] at hro; simpa using hro
  ·rw [hc] at hro; simpa using hro
 obtain ⟨i, rfl⟩ : ∃ i, mm = i + 1 := ⟨mm - 1, by omega⟩
 have hii : ((i + 1 : Nat) : Int) - 1 = (i : Int) := by omega
 rw [rsweep] at hS
 refine GA.wk (Wk.mk (L := [(1, .p 0 0), (3, .fs 1 pt.length (iC .i64 pt)), (6, .n .i64 cs.length), (7, .os 1 (cs.length + 1)), (9, .b ch), (10, .n .i64 i)]) (bl := [rowB 47 1 (cs.length + 1) 0 (lC regs L), lstB 0 25 [.fs 2 na ra, .n .i64 regs, .n .i64 par, .fs 5 cs.length (cC cs)]]) [1, 0] [] ?_ ?_ ?_) ?_
 ·simp only [WkE, WkH, go_sem, simprocAttr]
  repeat' refine and_of ?_ ?_
  all_goals first | exact wku | skip
 ·exact (.cons rfl (.k1) (.cons rfl (.ls) .nil))
 ·simp
 have hin0 : i < cs.length := by omega
 have hi0 : (0 : Int) ≤ (i : Int) := by omega
 have hi1 : (i : Int) < (cs.length : Int) := by omega
 have hi2 : (i : Int) < ((cs.length + 1 : Nat) : Int) := by omega
 have hi3 : i < cs.length + 1 := by omega
 have hm : cs.getD i (0, 0, 0, 0, 0) ∈ cs := by rw [List.getD_eq_getElem?_getD, List.getElem?_eq_getElem hin0]; exact List.getElem_mem _
 have hx := hin _ hm
 have hgl : ∀ (L : Lv) (q : Nat), (rowB 47 1 (cs.length + 1) 0 (lC regs L)).get q = .fs 1 regs (bF (L q)) := fun L q => by rw [row_get1]; rfl
 have hfw := successors_has cs pt i hin0 (by omega) (by omega) (hp i hin0).1 (hp i hin0).2
 have hF := hfo i hin0
 have hsA : rsweepAt cs pt regs i (L, ch) = if eqB regs (rnow cs pt L i) (L i) = true then (L, ch) else (upd L i (rnow cs pt L i), true) := rfl
 rw [hsA] at hS
 clear hsA
 unfold rnow at hS
 have hcc0 := cC0 cs i
 have hcc1 := cC1 cs i
 have hcc2 := cC2 cs i
 have hcc3 := cC3 cs i
 have hcc4 := cC4 cs i
 generalize cs.getD i (0, 0, 0, 0, 0) = x at hS hx hcc0 hcc1 hcc2 hcc3 hcc4
 have hrq := reads_in hx
 obtain ⟨op, uto, a, b, arg⟩ := x
 generalize hFe : follP cs pt i = F at hS hfw hF
 have hFl : F.length ≤ 2 := by
  rw [← hFe]; unfold follP
  split
  ·simp
  split <;> simp
 have hus := ruses_has op uto a b arg hx.op
 have hrl := reads_le op a b
 simp only at hS hrq
 generalize readsI op a b = rd at hS hus hrq hrl
 generalize writesI op uto = to at hS hus
 repeat (first | (with_reducible refine GA.go mixo rfl ?_) | simp only [hi0, hi1, hcc0, hcc1, hcc2, hcc3, hcc4, go_sem, simprocAttr])
 refine gcall_has [] (.cons (.rfl (by rfl)) .nil) hus (by simp only [go_sem, simprocAttr]) ?_
 repeat (first | (with_reducible refine GA.go mixo rfl ?_) | simp only [hb1, hb2, hb3.1, hb3.2.1, hb3.2.2, Int.le_refl, decide_true, go_sem, simprocAttr])
 refine gcall_has [] (.cons (.rfl (by rfl)) (.cons (.rfl (by rfl)) (.cons (.rfl (by rfl)) .nil))) hfw (by simp only [go_sem, simprocAttr]) ?_
 repeat (first | (with_reducible refine GA.go mixo rfl ?_) | simp only [go_sem, simprocAttr])
 refine GA.loop (I := fun mm e H => ∃ k : Nat, mm = F.length - k ∧ k ≤ F.length ∧ e = envOf [(1, .p 0 0), (3, .fs 1 pt.length (iC .i64 pt)), (6, .n .i64 cs.length), (7, .os 1 (cs.length + 1)), (9, .b ch), (10, .n .i64 i), (11, .os 2 rd.length), (12, .n .i64 to), (13, .os 3 regs), (14, .fs 1 F.length (iC .i64 F)), (15, .n .i64 k)] ∧ H = heapOf [rowB 4 1 regs 0 (bF (nowA L to (fun _ => false) (F.take k))), rowB 3 1 rd.length 0 (iC .i64 rd), rowB 47 1 (cs.length + 1) 0 (lC regs L), lstB 0 25 [.fs 2 na ra, .n .i64 regs, .n .i64 par, .fs 5 cs.length (cC cs)]]) (Wk.mk [3, 2, 1, 0] [] ?_ ?_ ?_) ⟨0, rfl, by omega, rfl, rfl⟩ ?_
 ·simp only [WkE, WkH, go_sem, simprocAttr]
  repeat' refine and_of ?_ ?_
  all_goals first | exact wku | skip
 ·refine (.cons rfl (.same (by simp only [go_sem, simprocAttr] <;> rfl) rfl (by decide) (fun z j h hj => ?_) (fun i j _ hj => rfl)) (.cons rfl (.k1) (.cons rfl (.k1) (.cons rfl (.ls) .nil))))
  cases Nat.lt_one_iff.1 hj
  show AV.b false = AV.b (nowA L to (fun _ => false) (F.take 0) z)
  unfold nowA; simp
 ·simp
 rintro mm e H ⟨k, rfl, hk, rfl, rfl⟩
 repeat (first | (with_reducible refine GA.go mixo rfl ?_) | simp only [go_sem, simprocAttr])
 refine ⟨fun h => ?_, fun h => ?_⟩
 ·have hkn : k < F.length := by omega
  have h0 : (0 : Int) ≤ (k : Int) := by omega
  have hmF : F.getD k 0 ∈ F := by rw [List.getD_eq_getElem?_getD, List.getElem?_eq_getElem hkn]; exact List.getElem_mem _
  have hFq := hF _ hmF
  have htk : F.take (k + 1) = F.take k ++ [F.getD k 0] := take_nx hkn
  have hic : iC .i64 F k 0 = .n .i64 (F.getD k 0) := rfl
  generalize F.getD k 0 = nx at hFq htk hic
  obtain ⟨q, rfl⟩ : ∃ q : Nat, nx = (q : Int) := ⟨nx.toNat, by omega⟩
  have hq0 : (0 : Int) ≤ (q : Int) := hFq.1
  have hq1 : (q : Int) < ((cs.length + 1 : Nat) : Int) := by omega
  have hq2 : q < cs.length + 1 := by omega
  generalize hbase : nowA L to (fun _ => false) (F.take k) = base
  repeat (first | (with_reducible refine GA.go mixo rfl ?_) | simp only [h0, h, hic, hq0, hq1, hq2, hgl, go_sem, simprocAttr])
  refine GA.loop (I := fun mm e H => ∃ r : Nat, mm = regs - r ∧ r ≤ regs ∧ e = envOf [(1, .p 0 0), (3, .fs 1 pt.length (iC .i64 pt)), (6, .n .i64 cs.length), (7, .os 1 (cs.length + 1)), (9, .b ch), (10, .n .i64 i), (11, .os 2 rd.length), (12, .n .i64 to), (13, .os 3 regs), (14, .fs 1 F.length (iC .i64 F)), (15, .n .i64 k), (16, .n .i64 r)] ∧ H = heapOf [rowB 4 1 regs 0 (bF fun z => if z < r then (base z || (L q z && !decide ((z : Int) = to))) else base z), rowB 3 1 rd.length 0 (iC .i64 rd), rowB 47 1 (cs.length + 1) 0 (lC regs L), lstB 0 25 [.fs 2 na ra, .n .i64 regs, .n .i64 par, .fs 5 cs.length (cC cs)]]) (Wk.mk [3, 2, 1, 0] [] ?_ ?_ ?_) ⟨0, rfl, by omega, rfl, rfl⟩ ?_
  ·simp only [WkE, WkH, go_sem, simprocAttr]
   repeat' refine and_of ?_ ?_
   all_goals first | exact wku | skip
  ·refine (.cons rfl (.same (by simp only [go_sem, simprocAttr] <;> rfl) rfl (by decide) (fun z j h hj => ?_) (fun i j _ hj => rfl)) (.cons rfl (.k1) (.cons rfl (.k1) (.cons rfl (.ls) .nil))))
   cases Nat.lt_one_iff.1 hj
   show AV.b (base z) = AV.b (if z < 0 then _ else _)
   rw [if_neg (by omega)]
  ·simp
  rintro mm e H ⟨r, rfl, hrr, rfl, rfl⟩
  repeat (first | (with_reducible refine GA.go mixo rfl ?_) | simp only [go_sem, simprocAttr])
  refine ⟨fun hlr => ?_, fun hlr => ?_⟩
  ·have hrn : r < regs := by omega
   have hr0 : (0 : Int) ≤ (r : Int) := by omega
   have hr1 : r + 1 ≤ regs := hrn
   have e1 : (rowB 4 1 regs 0 (bF fun z => if z < r then (base z || (L q z && !decide ((z : Int) = to))) else base z)).get r = .b (base r) := by
    rw [row_get1]
    show AV.b (if r < r then _ else _) = _
    rw [if_neg (by omega)]
   have e2 : bF (L q) r 0 = .b (L q r) := rfl
   have hfin : ∀ (val : Bool), val = (base r || (L q r && !decide ((r : Int) = to))) → ∀ z, (if z = r then AV.b val else AV.b (if z < r then (base z || (L q z && !decide ((z : Int) = to))) else base z)) = AV.b (if z < r + 1 then (base z || (L q z && !decide ((z : Int) = to))) else base z) := by
    intro val hval z
    by_cases e : z = r
    ·subst e; rw [if_pos rfl, if_pos (by omega), hval]
    ·rw [if_neg e]
     by_cases h9 : z < r
     ·rw [if_pos h9, if_pos (by omega)]
     ·rw [if_neg h9, if_neg (by omega)]
   cases hbr : base r <;> cases hto : decide ((r : Int) = to) <;> cases hLr : L q r
   all_goals
    rw [hbr] at e1 hfin
    rw [hLr] at e2 hfin
    rw [hto] at hfin
    repeat (first | (with_reducible refine GA.go mixo rfl ?_) | simp only [hr0, hlr, hrn, hr1, e1, e2, hto, h0, h, hic, hq0, hq1, hq2, hgl, go_sem, simprocAttr])
    refine ⟨_, _, _, ?_, Wk.mk [3, 2, 1, 0] [] ?_ ?_ ?_, r + 1, rfl, by omega, rfl, rfl⟩
    ·omega
    ·simp only [WkE, WkH, go_sem, simprocAttr]
     repeat' refine and_of ?_ ?_
     all_goals first | exact wku | skip
    ·refine (.cons rfl (.put (q := r) (by simp only [go_sem, simprocAttr] <;> rfl) (by simp) (by rfl) hrn rfl (by decide) (by omega) (fun z j h hj => ?_) (fun i j _ hj => rfl)) (.cons rfl (.k1) (.cons rfl (.k1) (.cons rfl (.ls) .nil))))
     cases Nat.lt_one_iff.1 hj
     exact hfin _ (by simp) _
    ·simp
  ·have hrn : r = regs := by omega
   subst hrn
   repeat (first | (with_reducible refine GA.go mixo rfl ?_) | simp only [go_sem, simprocAttr])
   refine ⟨_, _, _, ?_, Wk.mk [3, 2, 1, 0] [] ?_ ?_ ?_, k + 1, rfl, by omega, rfl, rfl⟩
   ·omega
   ·simp only [WkE, WkH, go_sem, simprocAttr]
    repeat' refine and_of ?_ ?_
    all_goals first | exact wku | skip
   ·refine (.cons rfl (.same (by simp only [go_sem, simprocAttr] <;> rfl) rfl (by decide) (fun z j h hj => ?_) (fun i j _ hj => rfl)) (.cons rfl (.k1) (.cons rfl (.k1) (.cons rfl (.ls) .nil))))
    cases Nat.lt_one_iff.1 hj
    show AV.b (if z < r then _ else _) = AV.b (nowA L to (fun _ => false) (F.take (k + 1)) z)
    rw [if_pos h, htk, nowA_snoc, hbase]
    rfl
   ·simp
 have hkn : k = F.length := by omega
 subst hkn
 rw [List.take_length]
 generalize hA : nowA L to (fun _ => false) F = NA at hS ⊢
 repeat (first | (with_reducible refine GA.go mixo rfl ?_) | simp only [go_sem, simprocAttr])
 refine GA.loop (I := fun mm e H => ∃ k : Nat, mm = rd.length - k ∧ k ≤ rd.length ∧ e = envOf [(1, .p 0 0), (3, .fs 1 pt.length (iC .i64 pt)), (6, .n .i64 cs.length), (7, .os 1 (cs.length + 1)), (9, .b ch), (10, .n .i64 i), (11, .os 2 rd.length), (13, .os 3 regs), (17, .n .i64 k)] ∧ H = heapOf [rowB 4 1 regs 0 (bF (nowB NA (rd.take k))), rowB 3 1 rd.length 0 (iC .i64 rd), rowB 47 1 (cs.length + 1) 0 (lC regs L), lstB 0 25 [.fs 2 na ra, .n .i64 regs, .n .i64 par, .fs 5 cs.length (cC cs)]]) (Wk.mk [3, 2, 1, 0] [] ?_ ?_ ?_) ⟨0, rfl, by omega, rfl, rfl⟩ ?_
 ·simp only [WkE, WkH, go_sem, simprocAttr]
  repeat' refine and_of ?_ ?_
  all_goals first | exact wku | skip
 ·refine (.cons rfl (.same (by simp only [go_sem, simprocAttr] <;> rfl) rfl (by decide) (fun z j h hj => ?_) (fun i j _ hj => rfl)) (.cons rfl (.k1) (.cons rfl (.k1) (.cons rfl (.ls) .nil))))
  cases Nat.lt_one_iff.1 hj
  show AV.b (NA z) = AV.b (nowB NA (rd.take 0) z)
  unfold nowB; simp
 ·simp
 rintro mm e H ⟨k, rfl, hk, rfl, rfl⟩
 repeat (first | (with_reducible refine GA.go mixo rfl ?_) | simp only [go_sem, simprocAttr])
 refine ⟨fun h => ?_, fun h => ?_⟩
 ·have hkn : k < rd.length := by omega
  have h0 : (0 : Int) ≤ (k : Int) := by omega
  have hmR : rd.getD k 0 ∈ rd := by rw [List.getD_eq_getElem?_getD, List.getElem?_eq_getElem hkn]; exact List.getElem_mem _
  have hRq := hrq _ hmR
  have htk : rd.take (k + 1) = rd.take k ++ [rd.getD k 0] := take_nx hkn
  have hic : (rowB 3 1 rd.length 0 (iC .i64 rd)).get k = .n .i64 (rd.getD k 0) := by rw [row_get1]; rfl
  generalize rd.getD k 0 = nx at hRq htk hic
  obtain ⟨q, rfl⟩ : ∃ q : Nat, nx = (q : Int) := ⟨nx.toNat, by omega⟩
  have hq0 : (0 : Int) ≤ (q : Int) := hRq.1
  have hq1 : (q : Int) < (regs : Int) := hRq.2
  have hq2 : q < regs := by omega
  have hq3 : q + 1 ≤ regs := hq2
  repeat (first | (with_reducible refine GA.go mixo rfl ?_) | simp only [h0, h, hkn, hic, hq0, hq1, hq2, hq3, go_sem, simprocAttr])
  refine ⟨_, _, _, ?_, Wk.mk [3, 2, 1, 0] [] ?_ ?_ ?_, k + 1, rfl, by omega, rfl, rfl⟩
  ·omega
  ·simp only [WkE, WkH, go_sem, simprocAttr]
   repeat' refine and_of ?_ ?_
   all_goals first | exact wku | skip
  ·refine (.cons rfl (.put (q := q) (by simp only [go_sem, simprocAttr] <;> rfl) (by simp) (by rfl) hq2 rfl (by decide) (by omega) (fun z j h hj => ?_) (fun i j _ hj => rfl)) (.cons rfl (.k1) (.cons rfl (.k1) (.cons rfl (.ls) .nil))))
   cases Nat.lt_one_iff.1 hj
   show (if z = q then AV.b true else AV.b (nowB NA (rd.take k) z)) = AV.b (nowB NA (rd.take (k + 1)) z)
   rw [htk, nowB_snoc]
   by_cases e : z = q
   ·subst e; rw [if_pos rfl]; simp
   ·have : decide ((q : Int) = (z : Int)) = false := by simp; omega
    rw [if_neg e, this, Bool.or_false]
  ·simp
 have hkn : k = rd.length := by omega
 subst hkn
 rw [List.take_length]
 generalize nowB NA rd = N at hS ⊢
 repeat (first | (with_reducible refine GA.go mixo rfl ?_) | simp only [go_sem, simprocAttr])
 refine GA.loop (I := fun mm e H => ∃ k : Nat, mm = regs - k ∧ k ≤ regs ∧ e = envOf [(1, .p 0 0), (3, .fs 1 pt.length (iC .i64 pt)), (6, .n .i64 cs.length), (7, .os 1 (cs.length + 1)), (9, .b (ch || !eqB k N (L i))), (10, .n .i64 i), (13, .os 2 regs), (18, .n .i64 k)] ∧ H = heapOf [rowB 4 1 regs 0 (bF N), rowB 47 1 (cs.length + 1) 0 (lC regs L), lstB 0 25 [.fs 2 na ra, .n .i64 regs, .n .i64 par, .fs 5 cs.length (cC cs)]]) (Wk.mk [3, 1, 0] [] ?_ ?_ ?_) ⟨0, rfl, by omega, rfl, rfl⟩ ?_
 ·simp only [WkE, WkH, go_sem, simprocAttr]
  repeat' refine and_of ?_ ?_
  all_goals first | exact wku | skip
  rw [show (ch || !eqB 0 N (L i)) = ch by simp [eqB]]
  exact Wv.same rfl
 ·exact (.cons rfl (.k1) (.cons rfl (.k1) (.cons rfl (.ls) .nil)))
 ·simp
 rintro mm e H ⟨k, rfl, hk, rfl, rfl⟩
 repeat (first | (with_reducible refine GA.go mixo rfl ?_) | simp only [go_sem, simprocAttr])
 refine ⟨fun h => ?_, fun h => ?_⟩
 ·have hkn : k < regs := by omega
  have h0 : (0 : Int) ≤ (k : Int) := by omega
  have e1 : (rowB 4 1 regs 0 (bF N)).get k = .b (N k) := by rw [row_get1]; rfl
  have e2 : bF (L i) k 0 = .b (L i k) := rfl
  have he : (ch || !eqB (k + 1) N (L i)) = ((ch || !eqB k N (L i)) || !(N k == L i k)) := by
   rw [eqB_snoc]; cases ch <;> cases eqB k N (L i) <;> cases (N k == L i k) <;> rfl
  generalize (ch || !eqB k N (L i)) = c1 at he ⊢
  cases c1 <;> cases hN : N k <;> cases hLk : L i k
  all_goals
   rw [hN, hLk] at he
   rw [hN] at e1
   rw [hLk] at e2
   repeat (first | (with_reducible refine GA.go mixo rfl ?_) | simp only [h0, h, hkn, e1, e2, hi0, hi2, hi3, hgl, eqS, go_sem, simprocAttr])
   refine ⟨_, _, _, ?_, Wk.mk [2, 1, 0] [] ?_ ?_ ?_, k + 1, rfl, by omega, rfl, rfl⟩
   ·omega
   ·simp only [WkE, WkH, go_sem, simprocAttr]
    repeat' refine and_of ?_ ?_
    all_goals first | exact wku | skip
    all_goals (rw [he]; exact Wv.same rfl)
   ·exact (.cons rfl (.k1) (.cons rfl (.k1) (.cons rfl (.ls) .nil)))
   ·simp
 have hkn : k = regs := by omega
 subst hkn
 have hi4 : i ≤ cs.length := by omega
 repeat (first | (with_reducible refine GA.go mixo rfl ?_) | simp only [hi0, hi2, hi3, hi4, hgl, Nat.le_refl, go_sem, simprocAttr])
 cases heq : eqB k N (L i)
 ·rw [heq, if_neg (by simp)] at hS
  refine ⟨_, _, _, ?_, Wk.mk [1, 0] [2] ?_ ?_ ?_, i, upd L i N, true, rfl, by omega, hS, rfl, rfl⟩
  ·omega
  ·simp only [Bool.not_false, Bool.or_true]
   simp only [WkE, WkH, go_sem, simprocAttr]
   repeat' refine and_of ?_ ?_
   all_goals first | exact wku | skip
  ·refine .cons rfl (.putw (q := i) (by simp only [go_sem, simprocAttr] <;> rfl) (by simp) (by rfl) hi3 rfl (by decide) (by omega) (fun z j hz hne hj => ?_) (fun _ _ _ _ => rfl) (fun j hj => ?_)) (.cons rfl (.ls) .nil)
   ·unfold lC upd; rw [if_neg hne]
   ·cases Nat.lt_one_iff.1 hj
    unfold lC upd; rw [if_pos rfl]
    refine Wv.cv (Cv.os (x := _) (by simp) (by simp only [go_sem, simprocAttr] <;> rfl) (by simp only [go_sem, simprocAttr] <;> exact Nat.le_refl _) (fun z j hi hj => ?_) (fun _ _ _ _ => rfl))
    cases Nat.lt_one_iff.1 hj
    rw [Nat.mul_one, Nat.add_zero, row_get1]
  ·simp
 ·rw [heq, if_pos rfl] at hS
  refine ⟨_, _, _, ?_, Wk.mk [1, 0] [2] ?_ ?_ ?_, i, L, ch, rfl, by omega, hS, rfl, rfl⟩
  ·omega
  ·simp only [Bool.not_true, Bool.or_false]
   simp only [WkE, WkH, go_sem, simprocAttr]
   repeat' refine and_of ?_ ?_
   all_goals first | exact wku | skip
  ·refine .cons rfl (.putw (q := i) (by simp only [go_sem, simprocAttr] <;> rfl) (by simp) (by rfl) hi3 rfl (by decide) (by omega) (fun z j hz hne hj => rfl) (fun _ _ _ _ => rfl) (fun j hj => ?_)) (.cons rfl (.ls) .nil)
   cases Nat.lt_one_iff.1 hj
   refine Wv.cv (Cv.os (x := _) (by simp) (by simp only [go_sem, simprocAttr] <;> rfl) (by simp only [go_sem, simprocAttr] <;> exact Nat.le_refl _) (fun z j hi hj => ?_) (fun _ _ _ _ => rfl))
   cases Nat.lt_one_iff.1 hj
   rw [Nat.mul_one, Nat.add_zero, row_get1]
   show AV.b (N z) = AV.b (L i z)
   rw [eqB_iff.1 heq z hi]
  ·simp
end Go.Proofs.YtidhfimbnjaceaaGreat

namespace Go.Proofs.YtidhfimbnjaceaaGreat
open Go.RowKit
set_option linter.unusedVariables false
set_option linter.unusedSimpArgs false
theorem rPrune_has {na : Nat} {ra : Nat → Nat → AV} {regs : Nat} {par : Int} {cs : List In} {xc : AV} {Lf : Lv} (hna : na < 1000000) (hra : ∀ i j, i < na → j < 2 → (ra i j).cell = true) (hcs : cs.length < 100000) (hr : regs < 1000000)
  (hck : Has Tryz.prog 26 [codeV na ra regs par cs] [.v xc, .v (.n .i64 0)])
  (hlv : Has Tryz.prog 48 [codeV na ra regs par cs] [.o 47 1 (cs.length + 1) 0 (lC regs Lf)])
  (hto : ∀ x ∈ cs, idleB x.1 = true → 0 ≤ x.2.1 ∧ x.2.1 < regs) :
  Has Tryz.prog 18 [codeV na ra regs par cs] [.v (codeV na ra regs par (dels (prGo Lf cs 0).length (prGo Lf cs 0))), .v (.n .i64 0)] := by
 have hcp := rcopy_has (na := na) (ra := ra) (regs := regs) (par := par) (cs := cs) hna hra (by omega)
 refine hasQ_of' mixo x51ok ⟨by simp, by decide⟩ ?_
 simp only [argE, codeV] at hck hlv hcp ⊢
 repeat (first | (with_reducible refine GA.go mixo rfl ?_) | simp only [go_sem, simprocAttr])
 refine gcall_has [] (.cons (.rfl (by rfl)) .nil) hck (by simp only [go_sem, simprocAttr]) ?_
 repeat (first | (with_reducible refine GA.go mixo rfl ?_) | simp only [decide_true, go_sem, simprocAttr])
 refine gcall_has [] (.cons (.rfl (by rfl)) .nil) hlv (by simp only [go_sem, simprocAttr]) ?_
 repeat (first | (with_reducible refine GA.go mixo rfl ?_) | simp only [go_sem, simprocAttr])
 refine gcall_has [] (.cons (.rfl (by rfl)) .nil) hcp (by simp only [go_sem, simprocAttr]) ?_
 repeat (first | (with_reducible refine GA.go mixo rfl ?_) | simp only [go_sem, simprocAttr])
 refine GA.wk (Wk.mk (L := [(1, .p 0 0), (2, .p 1 0), (3, .n .i64 0), (6, .fs 1 (cs.length + 1) (lC regs Lf)), (7, .p 2 0), (8, .n .i64 0)]) (bl := [lstB 0 25 [.fs 2 na ra, .n .i64 regs, .n .i64 par, .sl0], lstB 0 25 [.sl0, .n .i64 0, .n .i64 0, .sl0], lstB 0 25 [.fs 2 na ra, .n .i64 regs, .n .i64 par, .fs 5 cs.length (cC cs)]]) [5, 1, 0] [2, 3] ?_ ?_ ?_) ?_
 ·simp only [WkE, WkH, go_sem, simprocAttr]
  repeat' refine and_of ?_ ?_
  all_goals first | exact wkt | skip
  exact .cv (Cv.own (ty := 47) (z := 0) (by simp) (by simp only [go_sem, simprocAttr]) (fun i j _ _ => rfl))
 ·exact (.cons rfl (.lstw (x := _) (by simp only [go_sem, simprocAttr] <;> rfl) (by rfl) (by rfl) (by rfl) (by rfl) (by rfl) (by rfl) (by simp) (fun i hi => (by rcases lt4 hi with rfl | rfl | rfl | rfl <;> (simp only [go_sem, simprocAttr]; first | exact Wv.same rfl | exact Wv.os rfl | exact Wv.cv (Cv.own (ty := 93) (z := 0) (by simp) (by simp only [go_sem, simprocAttr]) hra))))) (.cons rfl (.ls) (.cons rfl (.ls) .nil)))
 ·simp
 refine GA.wk (Wk.nilb 2 3 5 37 (x := lstB 0 25 [.fs 2 na ra, .n .i64 regs, .n .i64 par, .sl0]) (by simp only [go_sem, simprocAttr]) (by simp only [go_sem, simprocAttr]) (by decide) (by decide) (by simp only [go_sem, simprocAttr]) rfl (by simp only [go_sem, simprocAttr])) ?_
 simp only [env_put, go_sem, simprocAttr]
 refine GA.loop (I := fun mm e H => ∃ (k : Nat) (out : List In), mm = cs.length - k ∧ k ≤ cs.length ∧ out.length ≤ k ∧ prGo Lf cs 0 = out ++ prGo Lf (cs.drop k) k ∧ e = envOf [(1, .p 0 0), (2, .p 1 0), (3, .n .i64 0), (6, .fs 1 (cs.length + 1) (lC regs Lf)), (7, .p 2 0), (8, .n .i64 k)] ∧ H = heapOf [rowB 37 5 out.length 0 (cC out), lstB 0 25 [.fs 2 na ra, .n .i64 regs, .n .i64 par, .os 3 out.length], lstB 0 25 [.sl0, .n .i64 0, .n .i64 0, .sl0], lstB 0 25 [.fs 2 na ra, .n .i64 regs, .n .i64 par, .fs 5 cs.length (cC cs)]]) (Wk.mk [3, 2, 1, 0] [] ?_ ?_ ?_) ⟨0, [], rfl, by omega, by simp, by simp, rfl, rfl⟩ ?_
 ·simp only [WkE, WkH, go_sem, simprocAttr]
  repeat' refine and_of ?_ ?_
  all_goals first | exact wkt | skip
 ·exact (.cons rfl (.rows (by simp only [go_sem, simprocAttr]; rfl) rfl rfl rfl (by simp) (by decide) (by decide) (fun i j h => by simp at h) (fun i j h => by simp at h)) (.cons rfl (.w4) (.cons rfl (.ls) (.cons rfl (.ls) .nil))))
 ·simp
 rintro mm e H ⟨k, out, rfl, hk, hol, hs, rfl, rfl⟩
 repeat (first | (with_reducible refine GA.go mixo rfl ?_) | simp only [go_sem, simprocAttr])
 refine ⟨fun h => ?_, fun h => ?_⟩
 ·have hkn : k < cs.length := by omega
  have h0 : (0 : Int) ≤ (k : Int) := by omega
  have hm : cs.getD k (0, 0, 0, 0, 0) ∈ cs := by rw [List.getD_eq_getElem?_getD, List.getElem?_eq_getElem hkn]; exact List.getElem_mem _
  rw [drop_nx (d := (0, 0, 0, 0, 0)) hkn, prGo] at hs
  have hcc0 := cC0 cs k
  have hcc1 := cC1 cs k
  have hcc2 := cC2 cs k
  have hcc3 := cC3 cs k
  have hcc4 := cC4 cs k
  have hxt := hto _ hm
  generalize cs.getD k (0, 0, 0, 0, 0) = x at hs hm hxt hcc0 hcc1 hcc2 hcc3 hcc4
  obtain ⟨op, to, a, b, arg⟩ := x
  simp only at hs hxt hcc0 hcc1 hcc2 hcc3 hcc4
  have hlim : (out.length + 1) * 5 < 1099511627776 ∧ (out.length + 1) * 40 ≤ 140737488355328 ∧ out.length + 1 ≤ 9223372036854775807 ∧ out.length * 5 + 5 < 1099511627776 := by omega
  have hkeep : keepI Lf k (op, to, a, b, arg) = (!idleB op || Lf (k + 1) to.toNat) := rfl
  have hw : IntKind.wrap .i64 ((k : Int) + 1) = ((k + 1 : Nat) : Int) := by rw [wrap64 (by omega)]; omega
  have fin1 : ∀ (hk1 : keepI Lf k (op, to, a, b, arg) = true), prGo Lf cs 0 = (out ++ [(op, to, a, b, arg)]) ++ prGo Lf (cs.drop (k + 1)) (k + 1) := fun hk1 => by
   rw [hs, if_pos hk1, List.append_assoc]
  have fin0 : ∀ (hk1 : keepI Lf k (op, to, a, b, arg) = false), prGo Lf cs 0 = out ++ prGo Lf (cs.drop (k + 1)) (k + 1) := fun hk1 => by
   rw [hs, if_neg (by rw [hk1]; simp), List.nil_append]
  have hgo : (out ++ [(op, to, a, b, arg)]).length = out.length + 1 := by simp
  (try simp only [h0, h, hcc0, hcc1, hcc2, hcc3, hcc4, go_sem, simprocAttr])
  iterate 5 (with_reducible refine GA.go mixo rfl ?_; try simp only [h0, h, hcc0, hcc1, hcc2, hcc3, hcc4, go_sem, simprocAttr])
  with_reducible refine GA.seq ?_
  with_reducible refine GA.mixv mixo ?_ ?_
  ·rfl
  try simp only [gMixV_nil, gdV_true, gdV_false, kMixV_app, ldV_some, puK_some, puV_none, puV_u, puV_n, puV_b, puV_p, puV_fp, puV_fs, puV_tup, puV_agg, aprun_ap, erV_ld, h0, go_sem, simprocAttr]
  repeat (rw [gMixV_cons]; simp only [gMixV_nil, gdV_true, gdV_false, kMixV_app, ldV_some, puK_some, puV_none, puV_u, puV_n, puV_b, puV_p, puV_fp, puV_fs, puV_tup, puV_agg, aprun_ap, erV_ld, h0, go_sem, simprocAttr])
  refine gcall_has [] (.cons (.rfl (by rfl)) .nil) (ridle_has op) (by simp only [go_sem, simprocAttr]) ?_
  cases hi : idleB op
  ·rw [hi] at hkeep
   simp only [Bool.not_false, Bool.true_or] at hkeep
   try simp only [gMixV_nil, gdV_true, gdV_false, kMixV_app, ldV_some, puK_some, puV_none, puV_u, puV_n, puV_b, puV_p, puV_fp, puV_fs, puV_tup, puV_agg, aprun_ap, erV_ld, h0, go_sem, simprocAttr]
   repeat (rw [gMixV_cons]; simp only [gMixV_nil, gdV_true, gdV_false, kMixV_app, ldV_some, puK_some, puV_none, puV_u, puV_n, puV_b, puV_p, puV_fp, puV_fs, puV_tup, puV_agg, aprun_ap, erV_ld, h0, go_sem, simprocAttr])
   repeat (first | (with_reducible refine GA.go mixo rfl ?_) | simp only [hlim.1, hlim.2.1, hlim.2.2.1, hlim.2.2.2, decide_true, go_sem, simprocAttr])
   refine ⟨_, _, _, ?_, Wk.mk [6, 2, 1, 0] [] ?_ ?_ ?_, k + 1, out ++ [(op, to, a, b, arg)], rfl, by omega, by simp; omega, fin1 hkeep, rfl, rfl⟩
   ·omega
   ·simp only [WkE, WkH, go_sem, simprocAttr]
    repeat' refine and_of ?_ ?_
    all_goals first | exact wkt | skip
   ·rw [hgo]
    exact (.cons rfl (.snoc (by simp only [go_sem, simprocAttr] <;> rfl) (by simp) (by rfl) rfl (by decide) (by omega) (fun i j hi _ => by unfold cC; rw [getD_app_lt hi]) (fun j hj => by unfold cC; rw [getD_app_eq]; rcases lt5 hj with rfl | rfl | rfl | rfl | rfl <;> rfl) (fun i j _ hj => by rcases lt5 hj with rfl | rfl | rfl | rfl | rfl <;> rfl)) (.cons rfl (.w4) (.cons rfl (.ls) (.cons rfl (.ls) .nil))))
   ·simp
  ·rw [hi] at hkeep
   obtain ⟨ht0, ht1⟩ := hxt hi
   obtain ⟨q, rfl⟩ : ∃ q : Nat, to = (q : Int) := ⟨to.toNat, by omega⟩
   simp only [Bool.not_true, Bool.false_or, Int.toNat_natCast] at hkeep
   have e1 : lC regs Lf (k + 1) 0 = .fs 1 regs (bF (Lf (k + 1))) := rfl
   have e2 : bF (Lf (k + 1)) q 0 = .b (Lf (k + 1) q) := rfl
   have hq0 : (0 : Int) ≤ ((k + 1 : Nat) : Int) := by omega
   have hq1 : ((k + 1 : Nat) : Int) < ((cs.length + 1 : Nat) : Int) := by omega
   have hq2 : (0 : Int) ≤ (q : Int) := ht0
   have hq3 : (q : Int) < (regs : Int) := ht1
   cases hv : Lf (k + 1) q
   ·rw [hv] at hkeep e2
    try simp only [gMixV_nil, gdV_true, gdV_false, kMixV_app, ldV_some, puK_some, puV_none, puV_u, puV_n, puV_b, puV_p, puV_fp, puV_fs, puV_tup, puV_agg, aprun_ap, erV_ld, hq0, hq1, hq2, hq3, e1, e2, hw, go_sem, simprocAttr]
    repeat (rw [gMixV_cons]; simp only [gMixV_nil, gdV_true, gdV_false, kMixV_app, ldV_some, puK_some, puV_none, puV_u, puV_n, puV_b, puV_p, puV_fp, puV_fs, puV_tup, puV_agg, aprun_ap, erV_ld, hq0, hq1, hq2, hq3, e1, e2, hw, go_sem, simprocAttr])
    repeat (first | (with_reducible refine GA.go mixo rfl ?_) | simp only [hw, go_sem, simprocAttr])
    refine ⟨_, _, _, ?_, Wk.mk [3, 2, 1, 0] [] ?_ ?_ ?_, k + 1, out, rfl, by omega, by omega, fin0 hkeep, rfl, rfl⟩
    ·omega
    ·simp only [WkE, WkH, go_sem, simprocAttr]
     repeat' refine and_of ?_ ?_
     all_goals first | exact wkt | skip
    ·exact (.cons rfl (.k5) (.cons rfl (.w4) (.cons rfl (.ls) (.cons rfl (.ls) .nil))))
    ·simp
   ·rw [hv] at hkeep e2
    try simp only [gMixV_nil, gdV_true, gdV_false, kMixV_app, ldV_some, puK_some, puV_none, puV_u, puV_n, puV_b, puV_p, puV_fp, puV_fs, puV_tup, puV_agg, aprun_ap, erV_ld, hq0, hq1, hq2, hq3, e1, e2, hw, go_sem, simprocAttr]
    repeat (rw [gMixV_cons]; simp only [gMixV_nil, gdV_true, gdV_false, kMixV_app, ldV_some, puK_some, puV_none, puV_u, puV_n, puV_b, puV_p, puV_fp, puV_fs, puV_tup, puV_agg, aprun_ap, erV_ld, hq0, hq1, hq2, hq3, e1, e2, hw, go_sem, simprocAttr])
    repeat (first | (with_reducible refine GA.go mixo rfl ?_) | simp only [hw, hlim.1, hlim.2.1, hlim.2.2.1, hlim.2.2.2, decide_true, go_sem, simprocAttr])
    refine ⟨_, _, _, ?_, Wk.mk [6, 2, 1, 0] [] ?_ ?_ ?_, k + 1, out ++ [(op, (q : Int), a, b, arg)], rfl, by omega, by simp; omega, fin1 hkeep, rfl, rfl⟩
    ·omega
    ·simp only [WkE, WkH, go_sem, simprocAttr]
     repeat' refine and_of ?_ ?_
     all_goals first | exact wkt | skip
    ·rw [hgo]
     exact (.cons rfl (.snoc (by simp only [go_sem, simprocAttr] <;> rfl) (by simp) (by rfl) rfl (by decide) (by omega) (fun i j hi _ => by unfold cC; rw [getD_app_lt hi]) (fun j hj => by unfold cC; rw [getD_app_eq]; rcases lt5 hj with rfl | rfl | rfl | rfl | rfl <;> rfl) (fun i j _ hj => by rcases lt5 hj with rfl | rfl | rfl | rfl | rfl <;> rfl)) (.cons rfl (.w4) (.cons rfl (.ls) (.cons rfl (.ls) .nil))))
    ·simp
 have hkn : k = cs.length := by omega
 subst hkn
 rw [List.drop_length, prGo, List.append_nil] at hs
 rw [hs]
 generalize hR : dels out.length out = R
 repeat (first | (with_reducible refine GA.go mixo rfl ?_) | simp only [go_sem, simprocAttr])
 refine GA.loop (I := fun mm e H => ∃ (f : Nat) (l : List In) (more : Bool), mm = 2 * f + (if more = true then 1 else 0) ∧ l.length ≤ f ∧ l.length < 100000 ∧ dels f l = R ∧ (more = false → l = R) ∧ e = envOf [(2, .p 1 0), (3, .n .i64 0), (7, .p 2 0), (10, .b more)] ∧ H = heapOf [lstB 0 25 [.fs 2 na ra, .n .i64 regs, .n .i64 par, .fs 5 l.length (cC l)], lstB 0 25 [.sl0, .n .i64 0, .n .i64 0, .sl0], lstB 0 25 [.fs 2 na ra, .n .i64 regs, .n .i64 par, .fs 5 cs.length (cC cs)]]) (Wk.mk [2, 1, 0] [3] ?_ ?_ ?_) ⟨out.length, out, true, rfl, Nat.le_refl _, by omega, hR, (fun h => by cases h), rfl, rfl⟩ ?_
 ·simp only [WkE, WkH, go_sem, simprocAttr]
  repeat' refine and_of ?_ ?_
  all_goals first | exact wkt | skip
 ·exact (.cons rfl (.lstw (x := _) (by simp only [go_sem, simprocAttr] <;> rfl) (by rfl) (by rfl) (by rfl) (by rfl) (by rfl) (by rfl) (by simp) (fun i hi => (by rcases lt4 hi with rfl | rfl | rfl | rfl <;> (simp only [go_sem, simprocAttr]; first | exact Wv.same rfl | exact Wv.cv (Cv.own (ty := 37) (z := 0) (by simp) (by simp only [go_sem, simprocAttr] <;> rfl) (fun i j _ hj => cC_cell i hj)))))) (.cons rfl (.ls) (.cons rfl (.ls) .nil)))
 ·simp
 rintro mm e H ⟨f, l, more, rfl, hlf, hll, hd, hmo, rfl, rfl⟩
 cases more
 ·have := hmo rfl
  subst this
  repeat (first | (with_reducible refine GA.go mixo rfl ?_) | simp only [go_sem, simprocAttr])
  refine ⟨[_, _], rfl, .v rfl rfl (.v rfl rfl .nil)⟩
 repeat (first | (with_reducible refine GA.go mixo rfl ?_) | simp only [go_sem, simprocAttr])
 have hem := rempty_has l hll
 unfold emR at hem
 cases hh : holP l with
 |none =>
  rw [hh] at hem
  simp only at hem
  refine gcall_has [] (.cons (.rfl (by rfl)) .nil) hem (by simp only [go_sem, simprocAttr]) ?_
  have hRl : l = R := by
   rw [← hd]
   cases f with
   |zero => rfl
   |succ f => rw [dels, hh]
  repeat (first | (with_reducible refine GA.go mixo rfl ?_) | simp only [go_sem, simprocAttr])
  refine ⟨_, _, _, ?_, Wk.mk [2, 1, 0] [] ?_ ?_ ?_, f, l, false, rfl, hlf, hll, hd, fun _ => hRl, rfl, rfl⟩
  ·simp
  ·simp only [WkE, WkH, go_sem, simprocAttr]
   repeat' refine and_of ?_ ?_
   all_goals first | exact wkt | skip
  ·exact (.cons rfl (.lstw (x := _) (by simp only [go_sem, simprocAttr] <;> rfl) (by rfl) (by rfl) (by rfl) (by rfl) (by rfl) (by rfl) (by simp) (fun i hi => (by rcases lt4 hi with rfl | rfl | rfl | rfl <;> (simp only [go_sem, simprocAttr]; exact Wv.same rfl)))) (.cons rfl (.ls) (.cons rfl (.ls) .nil)))
  ·simp
 |some i =>
  rw [hh] at hem
  simp only at hem
  refine gcall_has [] (.cons (.rfl (by rfl)) .nil) hem (by simp only [go_sem, simprocAttr]) ?_
  have hil := holGo_lt hh
  obtain ⟨f, rfl⟩ : ∃ g, f = g + 1 := ⟨f - 1, by omega⟩
  rw [dels, hh] at hd
  simp only at hd
  have hdn : 0 < delN l i ∧ i + delN l i ≤ l.length := by unfold delN; split <;> omega
  have hdl := delP_len hdn.2
  repeat (first | (with_reducible refine GA.go mixo rfl ?_) | simp only [go_sem, simprocAttr])
  refine ⟨_, _, _, ?_, Wk.mk [2, 1, 0] [3] ?_ ?_ ?_, f, delP l i (delN l i), true, rfl, by omega, by omega, hd, (fun h => by cases h), rfl, rfl⟩
  ·simp
  ·simp only [WkE, WkH, go_sem, simprocAttr]
   repeat' refine and_of ?_ ?_
   all_goals first | exact wkt | skip
  ·exact (.cons rfl (.lstw (x := _) (by simp only [go_sem, simprocAttr] <;> rfl) (by rfl) (by rfl) (by rfl) (by rfl) (by rfl) (by rfl) (by simp) (fun i hi => (by rcases lt4 hi with rfl | rfl | rfl | rfl <;> (simp only [go_sem, simprocAttr]; first | exact Wv.same rfl | exact Wv.cv (Cv.own (ty := 37) (z := 0) (by simp) (by simp only [go_sem, simprocAttr] <;> rfl) (fun i j _ hj => cC_cell i hj)))))) (.cons rfl (.ls) (.cons rfl (.ls) .nil)))
  ·simp
end Go.Proofs.YtidhfimbnjaceaaGreat
