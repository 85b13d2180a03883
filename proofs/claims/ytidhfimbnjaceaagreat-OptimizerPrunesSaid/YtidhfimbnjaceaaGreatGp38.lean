/- A part of the proof of OptimizerPrunes: PrB PrC OpA OpB. No condition. -/
import Derived.Test.YtidhfimbnjaceaaGreatGp37
import Derived.Test.YtidhfimbnjaceaaGreatGp19
import Derived.Test.YtidhfimbnjaceaaGreatGp15
import Derived.Test.YtidhfimbnjaceaaGreatGp11
set_option linter.unusedSimpArgs false
set_option linter.unusedVariables false
set_option linter.constructorNameAsVariable false
set_option maxRecDepth 100000
set_option maxHeartbeats 4000000
namespace Go.Proofs.YtidhfimbnjaceaaGreat
open Go.RowKit
set_option linter.unusedVariables false
set_option linter.unusedSimpArgs false
abbrev Lv := Nat → Nat → Bool
def lC (regs : Nat) (L : Lv) (i _j : Nat) : AV := .fs 1 regs (bF (L i))
def nowA (L : Lv) (to : Int) (base : Nat → Bool) (l : List Int) (r : Nat) : Bool := base r || l.any fun nx => L nx.toNat r && !decide ((r : Int) = to)
def nowB (base : Nat → Bool) (l : List Int) (r : Nat) : Bool := base r || l.any fun q => decide (q = (r : Int))
def nowP (cs : List In) (pt : List Int) (L : Lv) (i : Nat) : Nat → Bool :=
 nowB (nowA L (writesI (cs.getD i (0, 0, 0, 0, 0)).1 (cs.getD i (0, 0, 0, 0, 0)).2.1) (L i) (follP cs pt i)) (readsI (cs.getD i (0, 0, 0, 0, 0)).1 (cs.getD i (0, 0, 0, 0, 0)).2.2.1 (cs.getD i (0, 0, 0, 0, 0)).2.2.2.1)
def sweepAt (cs : List In) (pt : List Int) (regs i : Nat) (s : Lv × Bool) : Lv × Bool :=
 if eqB regs (nowP cs pt s.1 i) (s.1 i) = true then s else (upd s.1 i (nowP cs pt s.1 i), true)
def sweep (cs : List In) (pt : List Int) (regs : Nat) : Nat → Lv × Bool → Lv × Bool
 |0, s => s
 |i + 1, s => sweep cs pt regs i (sweepAt cs pt regs i s)
def rounds (cs : List In) (pt : List Int) (regs : Nat) : Nat → Lv → Option Lv
 |0, _ => none
 |f + 1, L => if (sweep cs pt regs cs.length (L, false)).2 = true then rounds cs pt regs f (sweep cs pt regs cs.length (L, false)).1 else some (sweep cs pt regs cs.length (L, false)).1
theorem nowA_snoc (L : Lv) (to : Int) (base : Nat → Bool) (l : List Int) (x : Int) (r : Nat) : nowA L to base (l ++ [x]) r = (nowA L to base l r || (L x.toNat r && !decide ((r : Int) = to))) := by
 unfold nowA
 rw [List.any_append]
 simp [Bool.or_assoc]
theorem nowB_snoc (base : Nat → Bool) (l : List Int) (x : Int) (r : Nat) : nowB base (l ++ [x]) r = (nowB base l r || decide (x = (r : Int))) := by
 unfold nowB
 rw [List.any_append]
 simp [Bool.or_assoc]
theorem live_has {na : Nat} {ra : Nat → Nat → AV} {regs : Nat} {par : Int} {cs : List In} {pt : List Int} {fuel : Nat} {Lf : Lv} (hcs : cs.length < 100000) (hr : regs < 1000000) (hpt : pairsP cs = some pt) (hptl : pt.length = cs.length)
  (hin : ∀ x ∈ cs, InOk regs x) (hp : ∀ i, i < cs.length → (-1 ≤ pt.getD i 0 ∧ pt.getD i 0 < cs.length) ∧ ((cs.getD i (0, 0, 0, 0, 0)).1 = 31 → 0 ≤ pt.getD i 0)) (hfo : ∀ i, i < cs.length → ∀ nx ∈ follP cs pt i, 0 ≤ nx ∧ nx ≤ cs.length)
  (hL : rounds cs pt regs fuel (fun _ _ => false) = some Lf) :
  Has Tryz.prog 75 [codeV na ra regs par cs] [.o 47 1 (cs.length + 1) 0 (lC regs Lf)] := by
 have hpa := pairs_has cs (by omega) pt hpt
 have hw1 : IntKind.wrap .i64 ((cs.length : Int) + 1) = ((cs.length + 1 : Nat) : Int) := by rw [wrap64 (by omega)]; omega
 have hg1 : (0 : Int) ≤ ((cs.length + 1 : Nat) : Int) := by omega
 have hg2 : ((cs.length + 1 : Nat) : Int) ≤ 16777216 := by omega
 have hg3 : 24 * (cs.length + 1) ≤ 140737488355328 ∧ (cs.length + 1) < 1099511627776 := by omega
 have hb1 : (0 : Int) ≤ (regs : Int) := by omega
 have hb2 : (regs : Int) ≤ 16777216 := by omega
 have hb3 : 1 * regs ≤ 140737488355328 ∧ regs ≤ 140737488355328 ∧ regs < 1099511627776 := by omega
 refine hasQ_of' mixo x46ok ⟨by simp, by decide⟩ ?_
 simp only [argE, codeV]
 repeat (first | (with_reducible refine GA.go mixo rfl ?_) | simp only [go_sem, simprocAttr])
 refine gcall_has [] (.cons (.rfl (by rfl)) .nil) hpa (by simp only [go_sem, simprocAttr]) ?_
 simp only [go_sem, simprocAttr]
 refine GA.wk (Wk.mk (L := [(1, .p 0 0), (3, .fs 1 pt.length (iC .i64 pt))]) (bl := [lstB 0 25 [.fs 2 na ra, .n .i64 regs, .n .i64 par, .fs 5 cs.length (cC cs)]]) [0] [1] ?_ ?_ ?_) ?_
 ·simp only [WkE, WkH, go_sem, simprocAttr]
  repeat' refine and_of ?_ ?_
  all_goals first | exact True.intro | exact Wv.same rfl | exact Wv.p rfl | skip
  refine Wv.cv (Cv.own (ty := 3) (z := 0) (by simp) (by simp only [go_sem, simprocAttr]) (fun i j _ _ => rfl))
 ·refine .cons rfl (.ls) .nil
 ·simp
 repeat (first | (with_reducible refine GA.go mixo rfl ?_) | simp only [hw1, hg1, hg2, hg3.1, hg3.2, Int.le_refl, decide_true, go_sem, simprocAttr])
 refine GA.loop (I := fun mm e H => ∃ k : Nat, mm = cs.length + 1 - k ∧ k ≤ cs.length + 1 ∧ e = envOf [(1, .p 0 0), (3, .fs 1 pt.length (iC .i64 pt)), (4, .os 1 (cs.length + 1)), (26, .n .i64 ((cs.length + 1 : Nat) : Int)), (27, .n .i64 k)] ∧
   H = heapOf [rowB 47 1 (cs.length + 1) 0 (fun i _ => if i < k then .fs 1 regs (bF fun _ => false) else .sl0), lstB 0 25 [.fs 2 na ra, .n .i64 regs, .n .i64 par, .fs 5 cs.length (cC cs)]]) (Wk.mk [1, 0] [] ?_ ?_ ?_) ⟨0, rfl, by omega, rfl, rfl⟩ ?_
 ·simp only [WkE, WkH, go_sem, simprocAttr]
  repeat' refine and_of ?_ ?_
  all_goals first | exact wku | skip
 ·refine .cons rfl (.same (by simp only [go_sem, simprocAttr] <;> rfl) rfl (by decide) (fun i j h hj => by cases Nat.lt_one_iff.1 hj; rw [if_neg (by omega)]; rfl) (fun i j _ hj => by split <;> rfl)) (.cons rfl (.ls) .nil)
 ·simp
 rintro mm e H ⟨k, rfl, hk, rfl, rfl⟩
 repeat (first | (with_reducible refine GA.go mixo rfl ?_) | simp only [go_sem, simprocAttr])
 refine ⟨fun h => ?_, fun h => ?_⟩
 ·have hkn : k < cs.length + 1 := by omega
  have h0 : (0 : Int) ≤ (k : Int) := by omega
  have hk1 : k + 1 ≤ cs.length + 1 := hkn
  repeat (first | (with_reducible refine GA.go mixo rfl ?_) | simp only [h0, h, hkn, hk1, hb1, hb2, hb3.1, hb3.2.1, hb3.2.2, Int.le_refl, decide_true, go_sem, simprocAttr])
  refine ⟨_, _, _, ?_, Wk.mk [1, 0] [2] ?_ ?_ ?_, k + 1, rfl, by omega, rfl, rfl⟩
  ·omega
  ·simp only [WkE, WkH, go_sem, simprocAttr]
   repeat' refine and_of ?_ ?_
   all_goals first | exact wku | skip
  ·refine .cons rfl (.putw (q := k) (by simp only [go_sem, simprocAttr] <;> rfl) (by simp) (by rfl) hkn rfl (by decide) (by omega) (fun i j hi hne hj => ?_) (fun i j _ _ => by split <;> rfl) (fun j hj => ?_)) (.cons rfl (.ls) .nil)
   ·by_cases h9 : i < k
    ·rw [if_pos h9, if_pos (by omega)]
    ·rw [if_neg h9, if_neg (by omega)]
   ·cases Nat.lt_one_iff.1 hj
    rw [if_pos (by omega)]
    refine Wv.cv (Cv.os (x := _) (by simp) (by simp only [go_sem, simprocAttr] <;> rfl) (by simp only [go_sem, simprocAttr] <;> exact Nat.le_refl _) (fun i j hi hj => ?_) (fun _ _ _ _ => rfl))
    cases Nat.lt_one_iff.1 hj
    rw [Nat.mul_one, Nat.add_zero, row_get1]
    rfl
  ·simp
 have hkn : k = cs.length + 1 := by omega
 subst hkn
 repeat (first | (with_reducible refine GA.go mixo rfl ?_) | simp only [go_sem, simprocAttr])
 refine GA.loop (I := fun mm e H => ∃ (f : Nat) (L : Lv) (ch : Bool), mm = f ∧ (ch = true → rounds cs pt regs f L = some Lf) ∧ (ch = false → L = Lf) ∧ e = envOf [(1, .p 0 0), (3, .fs 1 pt.length (iC .i64 pt)), (4, .os 1 (cs.length + 1)), (6, .b ch)] ∧
   H = heapOf [rowB 47 1 (cs.length + 1) 0 (lC regs L), lstB 0 25 [.fs 2 na ra, .n .i64 regs, .n .i64 par, .fs 5 cs.length (cC cs)]]) (Wk.mk [1, 0] [] ?_ ?_ ?_) ⟨fuel, fun _ _ => false, true, rfl, fun _ => hL, fun h => (by cases h), rfl, rfl⟩ ?_
 ·simp only [WkE, WkH, go_sem, simprocAttr]
  repeat' refine and_of ?_ ?_
  all_goals first | exact wku | skip
 ·refine .cons rfl (.same (by simp only [go_sem, simprocAttr] <;> rfl) rfl (by decide) (fun i j h hj => by rw [if_pos h]; rfl) (fun i j _ hj => rfl)) (.cons rfl (.ls) .nil)
 ·simp
 rintro mm e H ⟨f, L, ch, rfl, hch1, hch2, rfl, rfl⟩
 cases ch
 ·repeat (first | (with_reducible refine GA.go mixo rfl ?_) | simp only [go_sem, simprocAttr])
  have := hch2 rfl
  subst this
  refine ⟨[_], rfl, .o (x := _) (by simp only [go_sem, simprocAttr]; rfl) (by rfl) (by rfl) (by rfl) (by decide) (Nat.le_refl _) (Nat.le_refl _) (fun i j _ hj => row_get i j hj) (fun i j _ hj => rfl) rfl .nil⟩
 have hro := hch1 rfl
 cases mm with
 |zero => cases hro
 |succ f =>
 rw [rounds] at hro
 generalize hsw : sweep cs pt regs cs.length (L, false) = S at hro
 have hw2 : IntKind.wrap .i64 ((cs.length : Int) - 1) = (cs.length : Int) - 1 := wrap64 (by omega)
 repeat (first | (with_reducible refine GA.go mixo rfl ?_) | simp only [hw2, go_sem, simprocAttr])
 refine GA.loop (I := fun mm e H => ∃ (j : Nat) (L : Lv) (ch : Bool), mm = j ∧ j ≤ cs.length ∧ sweep cs pt regs j (L, ch) = S ∧ e = envOf [(1, .p 0 0), (3, .fs 1 pt.length (iC .i64 pt)), (4, .os 1 (cs.length + 1)), (6, .b ch), (7, .n .i64 ((j : Int) - 1))] ∧
   H = heapOf [rowB 47 1 (cs.length + 1) 0 (lC regs L), lstB 0 25 [.fs 2 na ra, .n .i64 regs, .n .i64 par, .fs 5 cs.length (cC cs)]]) (Wk.mk [1, 0] [] ?_ ?_ ?_) ⟨cs.length, L, false, rfl, Nat.le_refl _, hsw, rfl, rfl⟩ ?_
 ·simp only [WkE, WkH, go_sem, simprocAttr]
  repeat' refine and_of ?_ ?_
  all_goals first | exact wku | skip
 ·refine .cons rfl (.k1) (.cons rfl (.ls) .nil)
 ·simp
 rintro mm e H ⟨j, L, ch, rfl, hj, hS, rfl, rfl⟩
 repeat (first | (with_reducible refine GA.go mixo rfl ?_) | simp only [go_sem, simprocAttr])
 refine ⟨fun h => ?_, fun h => ?_⟩
 rotate_left
 ·have hj0 : mm = 0 := by omega
  subst hj0
  rw [sweep] at hS
  subst hS
  repeat (first | (with_reducible refine GA.go mixo rfl ?_) | simp only [go_sem, simprocAttr])
  refine ⟨_, _, _, ?_, Wk.mk [1, 0] [] ?_ ?_ ?_, f, L, ch, rfl, fun hc => ?_, fun hc => ?_, rfl, rfl⟩
  ·omega
  ·simp only [WkE, WkH, go_sem, simprocAttr]
   repeat' refine and_of ?_ ?_
   all_goals first | exact wku | skip
  ·refine .cons rfl (.k1) (.cons rfl (.ls) .nil)
  ·simp
  ·rw [hc] at hro; simpa using hro
  ·rw [hc] at hro; simpa using hro
 obtain ⟨i, rfl⟩ : ∃ i, mm = i + 1 := ⟨mm - 1, by omega⟩
 have hii : ((i + 1 : Nat) : Int) - 1 = (i : Int) := by omega
 rw [sweep] at hS
 refine GA.wk (Wk.mk (L := [(1, .p 0 0), (3, .fs 1 pt.length (iC .i64 pt)), (4, .os 1 (cs.length + 1)), (6, .b ch), (7, .n .i64 i)]) (bl := [rowB 47 1 (cs.length + 1) 0 (lC regs L), lstB 0 25 [.fs 2 na ra, .n .i64 regs, .n .i64 par, .fs 5 cs.length (cC cs)]]) [1, 0] [] ?_ ?_ ?_) ?_
 ·simp only [WkE, WkH, go_sem, simprocAttr]
  repeat' refine and_of ?_ ?_
  all_goals first | exact wku | skip
 ·exact (.cons rfl (.k1) (.cons rfl (.ls) .nil))
 ·simp
 have hin0 : i < cs.length := by omega
 have hi0 : (0 : Int) ≤ (i : Int) := by omega
 have hi1 : (i : Int) < (cs.length : Int) := by omega
 have hi2 : (i : Int) < ((cs.length + 1 : Nat) : Int) := by omega
 have hi3 : i < cs.length + 1 := by omega
 have hm : cs.getD i (0, 0, 0, 0, 0) ∈ cs := by rw [List.getD_eq_getElem?_getD, List.getElem?_eq_getElem hin0]; exact List.getElem_mem _
 have hx := hin _ hm
 have hgl : ∀ (L : Lv) (q : Nat), (rowB 47 1 (cs.length + 1) 0 (lC regs L)).get q = .fs 1 regs (bF (L q)) := fun L q => by rw [row_get1]; rfl
 have hfw := following_has cs pt i hin0 (by omega) (by omega) (hp i hin0).1 (hp i hin0).2
 have hF := hfo i hin0
 have hsA : sweepAt cs pt regs i (L, ch) = if eqB regs (nowP cs pt L i) (L i) = true then (L, ch) else (upd L i (nowP cs pt L i), true) := rfl
 rw [hsA] at hS
 clear hsA
 unfold nowP at hS
 have hcc0 := cC0 cs i
 have hcc1 := cC1 cs i
 have hcc2 := cC2 cs i
 have hcc3 := cC3 cs i
 have hcc4 := cC4 cs i
 generalize cs.getD i (0, 0, 0, 0, 0) = x at hS hx hcc0 hcc1 hcc2 hcc3 hcc4
 obtain ⟨op, uto, a, b, arg⟩ := x
 generalize hFe : follP cs pt i = F at hS hfw hF
 have hFl : F.length ≤ 2 := by
  rw [← hFe]; unfold follP
  split
  ·simp
  split <;> simp
 have hrq : ∀ q ∈ readsI op a b, 0 ≤ q ∧ q < regs := by
  intro q hq
  unfold readsI at hq
  rcases List.mem_append.1 hq with hq | hq
  ·split at hq
   ·rename_i hu
    rw [List.mem_singleton.1 hq]; exact hx.a hu
   ·cases hq
  ·split at hq
   ·rename_i hu
    rw [List.mem_singleton.1 hq]; exact hx.b hu
   ·cases hq
 have hus := uses_has op uto a b arg hx.op
 have hrl := reads_le op a b
 simp only at hS
 generalize readsI op a b = rd at hS hus hrq hrl
 generalize writesI op uto = to at hS hus
 repeat (first | (with_reducible refine GA.go mixo rfl ?_) | simp only [hi0, hi1, hcc0, hcc1, hcc2, hcc3, hcc4, go_sem, simprocAttr])
 refine gcall_has [] (.cons (.rfl (by rfl)) .nil) hus (by simp only [go_sem, simprocAttr]) ?_
 repeat (first | (with_reducible refine GA.go mixo rfl ?_) | simp only [hi0, hi2, hi3, hgl, go_sem, simprocAttr])
 refine gcall_has [] (.cons (.rfl (by rfl)) .nil) (cloneB_has (row := bF (L i)) hr (fun _ _ _ _ => rfl)) (by simp only [go_sem, simprocAttr]) ?_
 repeat (first | (with_reducible refine GA.go mixo rfl ?_) | simp only [go_sem, simprocAttr])
 refine gcall_has [] (.cons (.rfl (by rfl)) (.cons (.rfl (by rfl)) (.cons (.rfl (by rfl)) .nil))) hfw (by simp only [go_sem, simprocAttr]) ?_
 repeat (first | (with_reducible refine GA.go mixo rfl ?_) | simp only [go_sem, simprocAttr])
 refine GA.loop (I := fun mm e H => ∃ k : Nat, mm = F.length - k ∧ k ≤ F.length ∧ e = envOf [(1, .p 0 0), (3, .fs 1 pt.length (iC .i64 pt)), (4, .os 1 (cs.length + 1)), (6, .b ch), (7, .n .i64 i), (8, .os 2 rd.length), (9, .n .i64 to), (10, .os 3 regs), (64, .fs 1 F.length (iC .i64 F)), (65, .n .i64 F.length), (66, .n .i64 k)] ∧ H = heapOf [rowB 4 1 regs 0 (bF (nowA L to (L i) (F.take k))), rowB 3 1 rd.length 0 (iC .i64 rd), rowB 47 1 (cs.length + 1) 0 (lC regs L), lstB 0 25 [.fs 2 na ra, .n .i64 regs, .n .i64 par, .fs 5 cs.length (cC cs)]]) (Wk.mk [3, 2, 1, 0] [] ?_ ?_ ?_) ⟨0, rfl, by omega, rfl, rfl⟩ ?_
 ·simp only [WkE, WkH, go_sem, simprocAttr]
  repeat' refine and_of ?_ ?_
  all_goals first | exact wku | skip
 ·refine (.cons rfl (.same (by simp only [go_sem, simprocAttr] <;> rfl) rfl (by decide) (fun z j h hj => ?_) (fun i j _ hj => rfl)) (.cons rfl (.k1) (.cons rfl (.k1) (.cons rfl (.ls) .nil))))
  cases Nat.lt_one_iff.1 hj
  show AV.b (L i z) = AV.b (nowA L to (L i) (F.take 0) z)
  unfold nowA; simp
 ·simp
 rintro mm e H ⟨k, rfl, hk, rfl, rfl⟩
 repeat (first | (with_reducible refine GA.go mixo rfl ?_) | simp only [go_sem, simprocAttr])
 refine ⟨fun h => ?_, fun h => ?_⟩
 ·have hkn : k < F.length := by omega
  have h0 : (0 : Int) ≤ (k : Int) := by omega
  have hmF : F.getD k 0 ∈ F := by rw [List.getD_eq_getElem?_getD, List.getElem?_eq_getElem hkn]; exact List.getElem_mem _
  have hFq := hF _ hmF
  have htk : F.take (k + 1) = F.take k ++ [F.getD k 0] := take_nx hkn
  have hic : iC .i64 F k 0 = .n .i64 (F.getD k 0) := rfl
  generalize F.getD k 0 = nx at hFq htk hic
  obtain ⟨q, rfl⟩ : ∃ q : Nat, nx = (q : Int) := ⟨nx.toNat, by omega⟩
  have hq0 : (0 : Int) ≤ (q : Int) := hFq.1
  have hq1 : (q : Int) < ((cs.length + 1 : Nat) : Int) := by omega
  have hq2 : q < cs.length + 1 := by omega
  generalize hbase : nowA L to (L i) (F.take k) = base
  repeat (first | (with_reducible refine GA.go mixo rfl ?_) | simp only [h0, h, hic, hq0, hq1, hq2, hgl, go_sem, simprocAttr])
  refine GA.loop (I := fun mm e H => ∃ r : Nat, mm = regs - r ∧ r ≤ regs ∧ e = envOf [(1, .p 0 0), (3, .fs 1 pt.length (iC .i64 pt)), (4, .os 1 (cs.length + 1)), (6, .b ch), (7, .n .i64 i), (8, .os 2 rd.length), (9, .n .i64 to), (10, .os 3 regs), (64, .fs 1 F.length (iC .i64 F)), (65, .n .i64 F.length), (66, .n .i64 k), (73, .fs 1 regs (bF (L q))), (74, .n .i64 regs), (75, .n .i64 r)] ∧ H = heapOf [rowB 4 1 regs 0 (bF fun z => if z < r then (base z || (L q z && !decide ((z : Int) = to))) else base z), rowB 3 1 rd.length 0 (iC .i64 rd), rowB 47 1 (cs.length + 1) 0 (lC regs L), lstB 0 25 [.fs 2 na ra, .n .i64 regs, .n .i64 par, .fs 5 cs.length (cC cs)]]) (Wk.mk [3, 2, 1, 0] [] ?_ ?_ ?_) ⟨0, rfl, by omega, rfl, rfl⟩ ?_
  ·simp only [WkE, WkH, go_sem, simprocAttr]
   repeat' refine and_of ?_ ?_
   all_goals first | exact wku | skip
  ·refine (.cons rfl (.same (by simp only [go_sem, simprocAttr] <;> rfl) rfl (by decide) (fun z j h hj => ?_) (fun i j _ hj => rfl)) (.cons rfl (.k1) (.cons rfl (.k1) (.cons rfl (.ls) .nil))))
   cases Nat.lt_one_iff.1 hj
   show AV.b (base z) = AV.b (if z < 0 then _ else _)
   rw [if_neg (by omega)]
  ·simp
  rintro mm e H ⟨r, rfl, hrr, rfl, rfl⟩
  repeat (first | (with_reducible refine GA.go mixo rfl ?_) | simp only [go_sem, simprocAttr])
  refine ⟨fun hlr => ?_, fun hlr => ?_⟩
  ·have hrn : r < regs := by omega
   have hr0 : (0 : Int) ≤ (r : Int) := by omega
   have hr1 : r + 1 ≤ regs := hrn
   have e1 : (rowB 4 1 regs 0 (bF fun z => if z < r then (base z || (L q z && !decide ((z : Int) = to))) else base z)).get r = .b (base r) := by
    rw [row_get1]
    show AV.b (if r < r then _ else _) = _
    rw [if_neg (by omega)]
   have e2 : bF (L q) r 0 = .b (L q r) := rfl
   have hfin : ∀ (val : Bool), val = (base r || (L q r && !decide ((r : Int) = to))) → ∀ z, (if z = r then AV.b val else AV.b (if z < r then (base z || (L q z && !decide ((z : Int) = to))) else base z)) = AV.b (if z < r + 1 then (base z || (L q z && !decide ((z : Int) = to))) else base z) := by
    intro val hval z
    by_cases e : z = r
    ·subst e; rw [if_pos rfl, if_pos (by omega), hval]
    ·rw [if_neg e]
     by_cases h9 : z < r
     ·rw [if_pos h9, if_pos (by omega)]
     ·rw [if_neg h9, if_neg (by omega)]
   cases hbr : base r <;> cases hLr : L q r
   all_goals
    rw [hbr] at e1 hfin
    rw [hLr] at e2 hfin
    repeat (first | (with_reducible refine GA.go mixo rfl ?_) | simp only [hr0, hlr, hrn, hr1, e1, e2, go_sem, simprocAttr])
    refine ⟨_, _, _, ?_, Wk.mk [3, 2, 1, 0] [] ?_ ?_ ?_, r + 1, rfl, by omega, rfl, rfl⟩
    ·omega
    ·simp only [WkE, WkH, go_sem, simprocAttr]
     repeat' refine and_of ?_ ?_
     all_goals first | exact wku | skip
    ·refine (.cons rfl (.put (q := r) (by simp only [go_sem, simprocAttr] <;> rfl) (by simp) (by rfl) hrn rfl (by decide) (by omega) (fun z j h hj => ?_) (fun i j _ hj => rfl)) (.cons rfl (.k1) (.cons rfl (.k1) (.cons rfl (.ls) .nil))))
     cases Nat.lt_one_iff.1 hj
     exact hfin _ (by simp) _
    ·simp
  ·have hrn : r = regs := by omega
   subst hrn
   repeat (first | (with_reducible refine GA.go mixo rfl ?_) | simp only [go_sem, simprocAttr])
   refine ⟨_, _, _, ?_, Wk.mk [3, 2, 1, 0] [] ?_ ?_ ?_, k + 1, rfl, by omega, rfl, rfl⟩
   ·omega
   ·simp only [WkE, WkH, go_sem, simprocAttr]
    repeat' refine and_of ?_ ?_
    all_goals first | exact wku | skip
   ·refine (.cons rfl (.same (by simp only [go_sem, simprocAttr] <;> rfl) rfl (by decide) (fun z j h hj => ?_) (fun i j _ hj => rfl)) (.cons rfl (.k1) (.cons rfl (.k1) (.cons rfl (.ls) .nil))))
    cases Nat.lt_one_iff.1 hj
    show AV.b (if z < r then _ else _) = AV.b (nowA L to (L i) (F.take (k + 1)) z)
    rw [if_pos h, htk, nowA_snoc, hbase]
    rfl
   ·simp
 have hkn : k = F.length := by omega
 subst hkn
 rw [List.take_length]
 generalize hA : nowA L to (L i) F = NA at hS ⊢
 repeat (first | (with_reducible refine GA.go mixo rfl ?_) | simp only [go_sem, simprocAttr])
 refine GA.loop (I := fun mm e H => ∃ k : Nat, mm = rd.length - k ∧ k ≤ rd.length ∧ e = envOf [(1, .p 0 0), (3, .fs 1 pt.length (iC .i64 pt)), (4, .os 1 (cs.length + 1)), (6, .b ch), (7, .n .i64 i), (10, .os 3 regs), (97, .os 2 rd.length), (98, .n .i64 rd.length), (99, .n .i64 k)] ∧ H = heapOf [rowB 4 1 regs 0 (bF (nowB NA (rd.take k))), rowB 3 1 rd.length 0 (iC .i64 rd), rowB 47 1 (cs.length + 1) 0 (lC regs L), lstB 0 25 [.fs 2 na ra, .n .i64 regs, .n .i64 par, .fs 5 cs.length (cC cs)]]) (Wk.mk [3, 2, 1, 0] [] ?_ ?_ ?_) ⟨0, rfl, by omega, rfl, rfl⟩ ?_
 ·simp only [WkE, WkH, go_sem, simprocAttr]
  repeat' refine and_of ?_ ?_
  all_goals first | exact wku | skip
 ·refine (.cons rfl (.same (by simp only [go_sem, simprocAttr] <;> rfl) rfl (by decide) (fun z j h hj => ?_) (fun i j _ hj => rfl)) (.cons rfl (.k1) (.cons rfl (.k1) (.cons rfl (.ls) .nil))))
  cases Nat.lt_one_iff.1 hj
  show AV.b (NA z) = AV.b (nowB NA (rd.take 0) z)
  unfold nowB; simp
 ·simp
 rintro mm e H ⟨k, rfl, hk, rfl, rfl⟩
 repeat (first | (with_reducible refine GA.go mixo rfl ?_) | simp only [go_sem, simprocAttr])
 refine ⟨fun h => ?_, fun h => ?_⟩
 ·have hkn : k < rd.length := by omega
  have h0 : (0 : Int) ≤ (k : Int) := by omega
  have hmR : rd.getD k 0 ∈ rd := by rw [List.getD_eq_getElem?_getD, List.getElem?_eq_getElem hkn]; exact List.getElem_mem _
  have hRq := hrq _ hmR
  have htk : rd.take (k + 1) = rd.take k ++ [rd.getD k 0] := take_nx hkn
  have hic : (rowB 3 1 rd.length 0 (iC .i64 rd)).get k = .n .i64 (rd.getD k 0) := by rw [row_get1]; rfl
  generalize rd.getD k 0 = nx at hRq htk hic
  obtain ⟨q, rfl⟩ : ∃ q : Nat, nx = (q : Int) := ⟨nx.toNat, by omega⟩
  have hq0 : (0 : Int) ≤ (q : Int) := hRq.1
  have hq1 : (q : Int) < (regs : Int) := hRq.2
  have hq2 : q < regs := by omega
  have hq3 : q + 1 ≤ regs := hq2
  repeat (first | (with_reducible refine GA.go mixo rfl ?_) | simp only [h0, h, hkn, hic, hq0, hq1, hq2, hq3, go_sem, simprocAttr])
  refine ⟨_, _, _, ?_, Wk.mk [3, 2, 1, 0] [] ?_ ?_ ?_, k + 1, rfl, by omega, rfl, rfl⟩
  ·omega
  ·simp only [WkE, WkH, go_sem, simprocAttr]
   repeat' refine and_of ?_ ?_
   all_goals first | exact wku | skip
  ·refine (.cons rfl (.put (q := q) (by simp only [go_sem, simprocAttr] <;> rfl) (by simp) (by rfl) hq2 rfl (by decide) (by omega) (fun z j h hj => ?_) (fun i j _ hj => rfl)) (.cons rfl (.k1) (.cons rfl (.k1) (.cons rfl (.ls) .nil))))
   cases Nat.lt_one_iff.1 hj
   show (if z = q then AV.b true else AV.b (nowB NA (rd.take k) z)) = AV.b (nowB NA (rd.take (k + 1)) z)
   rw [htk, nowB_snoc]
   by_cases e : z = q
   ·subst e; rw [if_pos rfl]; simp
   ·have : decide ((q : Int) = (z : Int)) = false := by simp; omega
    rw [if_neg e, this, Bool.or_false]
  ·simp
 have hkn : k = rd.length := by omega
 subst hkn
 rw [List.take_length]
 generalize nowB NA rd = N at hS ⊢
 repeat (first | (with_reducible refine GA.go mixo rfl ?_) | simp only [hi0, hi2, hi3, hgl, go_sem, simprocAttr])
 refine gcall_has [3] (fargs := [.fs 1 regs (bF N), .fs 1 regs (bF (L i))]) (.cons (Cv.own (ty := 4) (z := 0) (by simp) (by simp only [go_sem, simprocAttr] <;> rfl) (fun _ _ _ _ => rfl)) (.cons (.rfl (by rfl)) .nil)) (equalB_has N (L i) hr) (by simp only [go_sem, simprocAttr]) ?_
 cases heq : eqB regs N (L i)
 ·rw [heq, if_neg (by simp)] at hS
  have hi4 : i ≤ cs.length := by omega
  repeat (first | (with_reducible refine GA.go mixo rfl ?_) | simp only [hi0, hi2, hi3, hi4, Nat.le_refl, go_sem, simprocAttr])
  refine ⟨_, _, _, ?_, Wk.mk [1, 0] [3] ?_ ?_ ?_, i, upd L i N, true, rfl, by omega, hS, rfl, rfl⟩
  ·omega
  ·simp only [WkE, WkH, go_sem, simprocAttr]
   repeat' refine and_of ?_ ?_
   all_goals first | exact wku | skip
  ·refine .cons rfl (.putw (q := i) (by simp only [go_sem, simprocAttr] <;> rfl) (by simp) (by rfl) hi3 rfl (by decide) (by omega) (fun z j hz hne hj => ?_) (fun _ _ _ _ => rfl) (fun j hj => ?_)) (.cons rfl (.ls) .nil)
   ·unfold lC upd; rw [if_neg hne]
   ·cases Nat.lt_one_iff.1 hj
    unfold lC upd; rw [if_pos rfl]
    refine Wv.cv (Cv.os (x := _) (by simp) (by simp only [go_sem, simprocAttr] <;> rfl) (by simp only [go_sem, simprocAttr] <;> exact Nat.le_refl _) (fun z j hi hj => ?_) (fun _ _ _ _ => rfl))
    cases Nat.lt_one_iff.1 hj
    rw [Nat.mul_one, Nat.add_zero, fr_get, row_get1]
  ·simp
 ·rw [heq, if_pos rfl] at hS
  repeat (first | (with_reducible refine GA.go mixo rfl ?_) | simp only [go_sem, simprocAttr])
  refine ⟨_, _, _, ?_, Wk.mk [1, 0] [] ?_ ?_ ?_, i, L, ch, rfl, by omega, hS, rfl, rfl⟩
  ·omega
  ·simp only [WkE, WkH, go_sem, simprocAttr]
   repeat' refine and_of ?_ ?_
   all_goals first | exact wku | skip
  ·exact (.cons rfl (.k1) (.cons rfl (.ls) .nil))
  ·simp
end Go.Proofs.YtidhfimbnjaceaaGreat

namespace Go.Proofs.YtidhfimbnjaceaaGreat
open Go.RowKit
set_option linter.unusedVariables false
set_option linter.unusedSimpArgs false
def idleB (op : Int) : Bool := expB op || decide (op = 0) || decide (op = 36) || decide (op = 38)
def keepI (L : Lv) (i : Nat) (x : In) : Bool := !idleB x.1 || L (i + 1) x.2.1.toNat
def prGo (L : Lv) : List In → Nat → List In
 |[], _ => []
 |x :: l, i => (if keepI L i x = true then [x] else []) ++ prGo L l (i + 1)
def delP (cs : List In) (i d : Nat) : List In := cs.take i ++ cs.drop (i + d)
def delN (cs : List In) (i : Nat) : Nat := if (cs.getD i (0, 0, 0, 0, 0)).1 = 28 then 1 else 2
def dels : Nat → List In → List In
 |0, l => l
 |f + 1, l => match holP l with
  |none => l
  |some i => dels f (delP l i (delN l i))
theorem prGo_len (L : Lv) : ∀ (l : List In) (i : Nat), (prGo L l i).length ≤ l.length
 |[], _ => Nat.le_refl _
 |x :: l, i => by
  unfold prGo
  rw [List.length_append, List.length_cons]
  have := prGo_len L l (i + 1)
  split <;> simp <;> omega
theorem holGo_lt {cs : List In} : ∀ {f k i : Nat}, holGo cs f k = some i → i + 1 < cs.length
 |0, k, i, h => by cases h
 |f + 1, k, i, h => by
  rw [holGo] at h
  split at h
  ·rename_i hk
   split at h
   ·cases h; exact hk
   ·exact holGo_lt h
  ·cases h
theorem delP_len {cs : List In} {i d : Nat} (h : i + d ≤ cs.length) : (delP cs i d).length = cs.length - d := by
 unfold delP
 rw [List.length_append, List.length_take, List.length_drop]
 omega
def DelOK (P : Program) (g : FuncId) (ty : TypeId) : Prop := ∀ (cs : List In) (i d b : Nat) (H : AH) (Q : AV → AH → Prop), cs.length < 1000000 → H.at b = some (rowB ty 5 cs.length 0 (cC cs)) → b < 1000000 → 0 < d → i + d ≤ cs.length →
 (∀ x2 : AB, x2.ty = ty → x2.esz = 5 → x2.opn = true → x2.live = true → x2.fzn = 0 → (cs.length - d) * 5 ≤ x2.size → (∀ q j, q < cs.length - d → j < 5 → x2.get (q * 5 + j) = cC (delP cs i d) q j) → Q (.os b (cs.length - d)) (H.upd b x2)) → GCall P g [.os b cs.length, .n .i64 i, .n .i64 ((i + d : Nat) : Int)] H Q
theorem prune_has {na : Nat} {ra : Nat → Nat → AV} {regs : Nat} {par : Int} {cs : List In} {Lf : Lv} (hcs : cs.length < 100000) (hr : regs < 1000000) (hin : ∀ x ∈ cs, InOk regs x) (hto : ∀ x ∈ cs, idleB x.1 = true → 0 ≤ x.2.1 ∧ x.2.1 < regs)
  (hlv : Has Tryz.prog 75 [codeV na ra regs par cs] [.o 47 1 (cs.length + 1) 0 (lC regs Lf)])
  (hdel : holP (prGo Lf cs 0) ≠ none → DelOK Tryz.prog 77 37) :
  Has Tryz.prog 47 [codeV na ra regs par cs] [.o 37 5 (dels (prGo Lf cs 0).length (prGo Lf cs 0)).length 0 (cC (dels (prGo Lf cs 0).length (prGo Lf cs 0)))] := by
 refine hasQ_of' mixo x45ok ⟨by simp, by decide⟩ ?_
 simp only [argE, codeV] at hlv ⊢
 repeat (first | (with_reducible refine GA.go mixo rfl ?_) | simp only [go_sem, simprocAttr])
 refine gcall_has [] (.cons (.rfl (by rfl)) .nil) hlv (by simp only [go_sem, simprocAttr]) ?_
 simp only [go_sem, simprocAttr]
 refine GA.wk (Wk.mk (L := [(1, .p 0 0), (3, .fs 1 (cs.length + 1) (lC regs Lf))]) (bl := [lstB 0 25 [.fs 2 na ra, .n .i64 regs, .n .i64 par, .fs 5 cs.length (cC cs)]]) [0] [1] ?_ ?_ ?_) ?_
 ·simp only [WkE, WkH, go_sem, simprocAttr]
  repeat' refine and_of ?_ ?_
  all_goals first | exact True.intro | exact Wv.same rfl | exact Wv.p rfl | skip
  refine Wv.cv (Cv.own (ty := 47) (z := 0) (by simp) (by simp only [go_sem, simprocAttr]) (fun i j _ _ => rfl))
 ·refine .cons rfl (.ls) .nil
 ·simp
 with_reducible refine GA.seq ?_
 with_reducible refine GA.reg ?_
 simp only [go_sem, simprocAttr]
 refine GA.wk (Wk.nil 4 5 37 (by simp only [go_sem, simprocAttr]) (by decide) (by simp only [go_sem, simprocAttr])) ?_
 simp only [env_put]
 repeat (first | (with_reducible refine GA.go mixo rfl ?_) | simp only [go_sem, simprocAttr])
 refine GA.loop (I := fun mm e H => ∃ (k : Nat) (out : List In), mm = cs.length - k ∧ k ≤ cs.length ∧ out.length ≤ k ∧ prGo Lf cs 0 = out ++ prGo Lf (cs.drop k) k ∧ e = envOf [(1, .p 0 0), (3, .fs 1 (cs.length + 1) (lC regs Lf)), (4, .os 1 out.length), (14, .fs 5 cs.length (cC cs)), (15, .n .i64 cs.length), (16, .n .i64 k)] ∧
   H = heapOf [rowB 37 5 out.length 0 (cC out), lstB 0 25 [.fs 2 na ra, .n .i64 regs, .n .i64 par, .fs 5 cs.length (cC cs)]]) (Wk.mk [1, 0] [] ?_ ?_ ?_) ⟨0, [], rfl, by omega, by simp, by simp, rfl, rfl⟩ ?_
 ·simp only [WkE, WkH, go_sem, simprocAttr]
  repeat' refine and_of ?_ ?_
  all_goals first | exact wku | skip
 ·refine .cons rfl (.rows (by simp only [go_sem, simprocAttr]; rfl) rfl rfl rfl (by simp) (by decide) (by decide) (fun i j h => by simp at h) (fun i j h => by simp at h)) (.cons rfl (.ls) .nil)
 ·simp
 rintro mm e H ⟨k, out, rfl, hk, hol, hs, rfl, rfl⟩
 repeat (first | (with_reducible refine GA.go mixo rfl ?_) | simp only [go_sem, simprocAttr])
 refine ⟨fun h => ?_, fun h => ?_⟩
 ·have hkn : k < cs.length := by omega
  have h0 : (0 : Int) ≤ (k : Int) := by omega
  have hm : cs.getD k (0, 0, 0, 0, 0) ∈ cs := by rw [List.getD_eq_getElem?_getD, List.getElem?_eq_getElem hkn]; exact List.getElem_mem _
  rw [drop_nx (d := (0, 0, 0, 0, 0)) hkn, prGo] at hs
  have hcc0 := cC0 cs k
  have hcc1 := cC1 cs k
  have hcc2 := cC2 cs k
  have hcc3 := cC3 cs k
  have hcc4 := cC4 cs k
  have hxt := hto _ hm
  generalize cs.getD k (0, 0, 0, 0, 0) = x at hs hm hxt hcc0 hcc1 hcc2 hcc3 hcc4
  obtain ⟨op, to, a, b, arg⟩ := x
  simp only at hs hxt hcc0 hcc1 hcc2 hcc3 hcc4
  have hlim : (out.length + 1) * 5 < 1099511627776 ∧ (out.length + 1) * 40 ≤ 140737488355328 ∧ out.length + 1 ≤ 9223372036854775807 := by omega
  have hkeep : keepI Lf k (op, to, a, b, arg) = (!idleB op || Lf (k + 1) to.toNat) := rfl
  have hid : idleB op = (expB op || decide (op = 0) || decide (op = 36) || decide (op = 38)) := rfl
  have hw : IntKind.wrap .i64 ((k : Int) + 1) = ((k + 1 : Nat) : Int) := by rw [wrap64 (by omega)]; omega
  repeat (first | (with_reducible refine GA.go mixo rfl ?_) | simp only [h0, h, hcc0, hcc1, hcc2, hcc3, hcc4, go_sem, simprocAttr])
  refine gcall_has [] (.cons (.rfl (by rfl)) .nil) (expression_has op) (by simp only [go_sem, simprocAttr]) ?_
  have fin1 : ∀ (hk1 : keepI Lf k (op, to, a, b, arg) = true), prGo Lf cs 0 = (out ++ [(op, to, a, b, arg)]) ++ prGo Lf (cs.drop (k + 1)) (k + 1) := fun hk1 => by
   rw [hs, if_pos hk1, List.append_assoc]
  have fin0 : ∀ (hk1 : keepI Lf k (op, to, a, b, arg) = false), prGo Lf cs 0 = out ++ prGo Lf (cs.drop (k + 1)) (k + 1) := fun hk1 => by
   rw [hs, if_neg (by rw [hk1]; simp), List.nil_append]
  generalize hkv : keepI Lf k (op, to, a, b, arg) = kv at hkeep fin1 fin0
  cases hi : idleB op
  ·rw [hi] at hid hkeep
   simp only [Bool.not_false, Bool.true_or] at hkeep
   have d : expB op = false ∧ decide (op = 0) = false ∧ decide (op = 36) = false ∧ decide (op = 38) = false := by
    cases h1 : expB op <;> cases h2 : decide (op = 0) <;> cases h3 : decide (op = 36) <;> cases h4 : decide (op = 38) <;> simp [h1, h2, h3, h4] at hid ⊢
   rw [d.1]
   repeat (first | (with_reducible refine GA.go mixo rfl ?_) | simp only [d.2.1, d.2.2.1, d.2.2.2, hlim.1, hlim.2.1, hlim.2.2, decide_true, go_sem, simprocAttr])
   refine ⟨_, _, _, ?_, Wk.mk [4, 0] [] ?_ ?_ ?_, k + 1, out ++ [(op, to, a, b, arg)], rfl, by omega, by simp; omega, fin1 hkeep, rfl, rfl⟩
   ·omega
   ·simp only [WkE, WkH, go_sem, simprocAttr]
    repeat' refine and_of ?_ ?_
    all_goals first | exact wku | skip
   ·rw [show (out ++ [(op, to, a, b, arg)]).length = out.length + 1 from by simp]
    refine .cons rfl (.snoc (by simp only [go_sem, simprocAttr] <;> rfl) (by simp) (by rfl) rfl (by decide) (by omega) (fun i j hi _ => by unfold cC; rw [getD_app_lt hi]) (fun j hj => by
     unfold cC
     rw [getD_app_eq]
     rcases lt5 hj with rfl | rfl | rfl | rfl | rfl <;> rfl) (fun i j _ hj => by rcases lt5 hj with rfl | rfl | rfl | rfl | rfl <;> rfl)) (.cons rfl (.ls) .nil)
   ·simp
  ·rw [hi] at hid hkeep
   obtain ⟨ht0, ht1⟩ := hxt hi
   obtain ⟨q, rfl⟩ : ∃ q : Nat, to = (q : Int) := ⟨to.toNat, by omega⟩
   simp only [Bool.not_true, Bool.false_or, Int.toNat_natCast] at hkeep
   have e1 : lC regs Lf (k + 1) 0 = .fs 1 regs (bF (Lf (k + 1))) := rfl
   have e2 : bF (Lf (k + 1)) q 0 = .b (Lf (k + 1) q) := rfl
   have hq0 : (0 : Int) ≤ ((k + 1 : Nat) : Int) := by omega
   have hq1 : ((k + 1 : Nat) : Int) < ((cs.length + 1 : Nat) : Int) := by omega
   have hq2 : (0 : Int) ≤ (q : Int) := ht0
   have hq3 : (q : Int) < (regs : Int) := ht1
   have alt : expB op = true ∨ (expB op = false ∧ decide (op = 0) = true) ∨ (expB op = false ∧ decide (op = 0) = false ∧ decide (op = 36) = true) ∨ (expB op = false ∧ decide (op = 0) = false ∧ decide (op = 36) = false ∧ decide (op = 38) = true) := by
    cases h1 : expB op <;> cases h2 : decide (op = 0) <;> cases h3 : decide (op = 36) <;> cases h4 : decide (op = 38) <;> simp [h1, h2, h3, h4] at hid ⊢
   rcases alt with h1 | ⟨h1, h2⟩ | ⟨h1, h2, h3⟩ | ⟨h1, h2, h3, h4⟩
   ·rw [h1]
    cases hv : Lf (k + 1) q
    ·have hkk : keepI Lf k (op, (q : Int), a, b, arg) = false := by rw [hkv, hkeep, hv]
     rw [hv] at e2
     repeat (first | (with_reducible refine GA.go mixo rfl ?_) | simp only [h1, hq0, hq1, hq2, hq3, e1, e2, hw, go_sem, simprocAttr])
     refine ⟨_, _, _, ?_, Wk.mk [1, 0] [] ?_ ?_ ?_, k + 1, out, rfl, by omega, by omega, fin0 (by rw [← hkv]; exact hkk), rfl, rfl⟩
     ·omega
     ·simp only [WkE, WkH, go_sem, simprocAttr]
      repeat' refine and_of ?_ ?_
      all_goals first | exact wku | skip
     ·refine .cons rfl (.k5) (.cons rfl (.ls) .nil)
     ·simp
    ·have hkk : keepI Lf k (op, (q : Int), a, b, arg) = true := by rw [hkv, hkeep, hv]
     rw [hv] at e2
     repeat (first | (with_reducible refine GA.go mixo rfl ?_) | simp only [h1, hq0, hq1, hq2, hq3, e1, e2, hw, hlim.1, hlim.2.1, hlim.2.2, decide_true, go_sem, simprocAttr])
     refine ⟨_, _, _, ?_, Wk.mk [4, 0] [] ?_ ?_ ?_, k + 1, out ++ [(op, (q : Int), a, b, arg)], rfl, by omega, by simp; omega, fin1 (by rw [← hkv]; exact hkk), rfl, rfl⟩
     ·omega
     ·simp only [WkE, WkH, go_sem, simprocAttr]
      repeat' refine and_of ?_ ?_
      all_goals first | exact wku | skip
     ·rw [show (out ++ [(op, (q : Int), a, b, arg)]).length = out.length + 1 from by simp]
      refine .cons rfl (.snoc (by simp only [go_sem, simprocAttr] <;> rfl) (by simp) (by rfl) rfl (by decide) (by omega) (fun i j hi _ => by unfold cC; rw [getD_app_lt hi]) (fun j hj => by
       unfold cC
       rw [getD_app_eq]
       rcases lt5 hj with rfl | rfl | rfl | rfl | rfl <;> rfl) (fun i j _ hj => by rcases lt5 hj with rfl | rfl | rfl | rfl | rfl <;> rfl)) (.cons rfl (.ls) .nil)
     ·simp
   ·rw [h1]
    cases hv : Lf (k + 1) q
    ·have hkk : keepI Lf k (op, (q : Int), a, b, arg) = false := by rw [hkv, hkeep, hv]
     rw [hv] at e2
     repeat (first | (with_reducible refine GA.go mixo rfl ?_) | simp only [h2, hq0, hq1, hq2, hq3, e1, e2, hw, go_sem, simprocAttr])
     refine ⟨_, _, _, ?_, Wk.mk [1, 0] [] ?_ ?_ ?_, k + 1, out, rfl, by omega, by omega, fin0 (by rw [← hkv]; exact hkk), rfl, rfl⟩
     ·omega
     ·simp only [WkE, WkH, go_sem, simprocAttr]
      repeat' refine and_of ?_ ?_
      all_goals first | exact wku | skip
     ·refine .cons rfl (.k5) (.cons rfl (.ls) .nil)
     ·simp
    ·have hkk : keepI Lf k (op, (q : Int), a, b, arg) = true := by rw [hkv, hkeep, hv]
     rw [hv] at e2
     repeat (first | (with_reducible refine GA.go mixo rfl ?_) | simp only [h2, hq0, hq1, hq2, hq3, e1, e2, hw, hlim.1, hlim.2.1, hlim.2.2, decide_true, go_sem, simprocAttr])
     refine ⟨_, _, _, ?_, Wk.mk [4, 0] [] ?_ ?_ ?_, k + 1, out ++ [(op, (q : Int), a, b, arg)], rfl, by omega, by simp; omega, fin1 (by rw [← hkv]; exact hkk), rfl, rfl⟩
     ·omega
     ·simp only [WkE, WkH, go_sem, simprocAttr]
      repeat' refine and_of ?_ ?_
      all_goals first | exact wku | skip
     ·rw [show (out ++ [(op, (q : Int), a, b, arg)]).length = out.length + 1 from by simp]
      refine .cons rfl (.snoc (by simp only [go_sem, simprocAttr] <;> rfl) (by simp) (by rfl) rfl (by decide) (by omega) (fun i j hi _ => by unfold cC; rw [getD_app_lt hi]) (fun j hj => by
       unfold cC
       rw [getD_app_eq]
       rcases lt5 hj with rfl | rfl | rfl | rfl | rfl <;> rfl) (fun i j _ hj => by rcases lt5 hj with rfl | rfl | rfl | rfl | rfl <;> rfl)) (.cons rfl (.ls) .nil)
     ·simp
   ·rw [h1]
    cases hv : Lf (k + 1) q
    ·have hkk : keepI Lf k (op, (q : Int), a, b, arg) = false := by rw [hkv, hkeep, hv]
     rw [hv] at e2
     repeat (first | (with_reducible refine GA.go mixo rfl ?_) | simp only [h2, h3, hq0, hq1, hq2, hq3, e1, e2, hw, go_sem, simprocAttr])
     refine ⟨_, _, _, ?_, Wk.mk [1, 0] [] ?_ ?_ ?_, k + 1, out, rfl, by omega, by omega, fin0 (by rw [← hkv]; exact hkk), rfl, rfl⟩
     ·omega
     ·simp only [WkE, WkH, go_sem, simprocAttr]
      repeat' refine and_of ?_ ?_
      all_goals first | exact wku | skip
     ·refine .cons rfl (.k5) (.cons rfl (.ls) .nil)
     ·simp
    ·have hkk : keepI Lf k (op, (q : Int), a, b, arg) = true := by rw [hkv, hkeep, hv]
     rw [hv] at e2
     repeat (first | (with_reducible refine GA.go mixo rfl ?_) | simp only [h2, h3, hq0, hq1, hq2, hq3, e1, e2, hw, hlim.1, hlim.2.1, hlim.2.2, decide_true, go_sem, simprocAttr])
     refine ⟨_, _, _, ?_, Wk.mk [4, 0] [] ?_ ?_ ?_, k + 1, out ++ [(op, (q : Int), a, b, arg)], rfl, by omega, by simp; omega, fin1 (by rw [← hkv]; exact hkk), rfl, rfl⟩
     ·omega
     ·simp only [WkE, WkH, go_sem, simprocAttr]
      repeat' refine and_of ?_ ?_
      all_goals first | exact wku | skip
     ·rw [show (out ++ [(op, (q : Int), a, b, arg)]).length = out.length + 1 from by simp]
      refine .cons rfl (.snoc (by simp only [go_sem, simprocAttr] <;> rfl) (by simp) (by rfl) rfl (by decide) (by omega) (fun i j hi _ => by unfold cC; rw [getD_app_lt hi]) (fun j hj => by
       unfold cC
       rw [getD_app_eq]
       rcases lt5 hj with rfl | rfl | rfl | rfl | rfl <;> rfl) (fun i j _ hj => by rcases lt5 hj with rfl | rfl | rfl | rfl | rfl <;> rfl)) (.cons rfl (.ls) .nil)
     ·simp
   ·rw [h1]
    cases hv : Lf (k + 1) q
    ·have hkk : keepI Lf k (op, (q : Int), a, b, arg) = false := by rw [hkv, hkeep, hv]
     rw [hv] at e2
     repeat (first | (with_reducible refine GA.go mixo rfl ?_) | simp only [h2, h3, h4, hq0, hq1, hq2, hq3, e1, e2, hw, go_sem, simprocAttr])
     refine ⟨_, _, _, ?_, Wk.mk [1, 0] [] ?_ ?_ ?_, k + 1, out, rfl, by omega, by omega, fin0 (by rw [← hkv]; exact hkk), rfl, rfl⟩
     ·omega
     ·simp only [WkE, WkH, go_sem, simprocAttr]
      repeat' refine and_of ?_ ?_
      all_goals first | exact wku | skip
     ·refine .cons rfl (.k5) (.cons rfl (.ls) .nil)
     ·simp
    ·have hkk : keepI Lf k (op, (q : Int), a, b, arg) = true := by rw [hkv, hkeep, hv]
     rw [hv] at e2
     repeat (first | (with_reducible refine GA.go mixo rfl ?_) | simp only [h2, h3, h4, hq0, hq1, hq2, hq3, e1, e2, hw, hlim.1, hlim.2.1, hlim.2.2, decide_true, go_sem, simprocAttr])
     refine ⟨_, _, _, ?_, Wk.mk [4, 0] [] ?_ ?_ ?_, k + 1, out ++ [(op, (q : Int), a, b, arg)], rfl, by omega, by simp; omega, fin1 (by rw [← hkv]; exact hkk), rfl, rfl⟩
     ·omega
     ·simp only [WkE, WkH, go_sem, simprocAttr]
      repeat' refine and_of ?_ ?_
      all_goals first | exact wku | skip
     ·rw [show (out ++ [(op, (q : Int), a, b, arg)]).length = out.length + 1 from by simp]
      refine .cons rfl (.snoc (by simp only [go_sem, simprocAttr] <;> rfl) (by simp) (by rfl) rfl (by decide) (by omega) (fun i j hi _ => by unfold cC; rw [getD_app_lt hi]) (fun j hj => by
       unfold cC
       rw [getD_app_eq]
       rcases lt5 hj with rfl | rfl | rfl | rfl | rfl <;> rfl) (fun i j _ hj => by rcases lt5 hj with rfl | rfl | rfl | rfl | rfl <;> rfl)) (.cons rfl (.ls) .nil)
     ·simp
 ·have hkn : k = cs.length := by omega
  subst hkn
  rw [List.drop_length, prGo, List.append_nil] at hs
  rw [hs] at hdel ⊢
  generalize hR : dels out.length out = R
  repeat (first | (with_reducible refine GA.go mixo rfl ?_) | simp only [go_sem, simprocAttr])
  refine GA.loop (I := fun mm e H => ∃ (f : Nat) (l : List In), mm = f ∧ l.length ≤ f ∧ l.length < 1000000 ∧ dels f l = R ∧ (holP l ≠ none → DelOK Tryz.prog 77 37) ∧ e = envOf [(4, .os 0 l.length)] ∧ H = heapOf [rowB 37 5 l.length 0 (cC l)]) (Wk.mk [1] [] ?_ ?_ ?_) ⟨out.length, out, rfl, Nat.le_refl _, by omega, hR, hdel, rfl, rfl⟩ ?_
  ·simp only [WkE, WkH, go_sem, simprocAttr]
   repeat' refine and_of ?_ ?_
   all_goals first | exact wku | skip
  ·refine .cons rfl (.k5) .nil
  ·simp
  rintro mm e H ⟨f, l, rfl, hlf, hll, hd, hdl, rfl, rfl⟩
  repeat (first | (with_reducible refine GA.go mixo rfl ?_) | simp only [go_sem, simprocAttr])
  refine gcall_tmp [0] (fargs := [.fs 5 l.length (cC l)]) (.cons (Cv.own (ty := 37) (z := 0) (by simp) (by simp only [go_sem, simprocAttr] <;> rfl) (fun _ _ _ hj => cC_cell _ hj)) .nil) (hollow_has l hll) (by simp only [go_sem, simprocAttr]) ?_ ?_
  ·intro r hr
   unfold holR at hr
   split at hr <;> (simp only [List.mem_cons, List.not_mem_nil, or_false] at hr; rcases hr with rfl | rfl <;> rfl)
  cases hh : holP l with
  |none =>
   have hRl : l = R := by
    rw [← hd]
    cases mm with
    |zero => rfl
    |succ f => rw [dels, hh]
   subst hRl
   simp only [holR]
   repeat (first | (with_reducible refine GA.go mixo rfl ?_) | simp only [go_sem, simprocAttr])
   refine ⟨[_], rfl, .o (x := _) (by simp only [go_sem, simprocAttr]; rfl) (by rfl) (by rfl) (by rfl) (by decide) (Nat.le_refl _) (Nat.le_refl _) (fun i j _ hj => row_get i j hj) (fun i j _ hj => cC_cell i hj) rfl .nil⟩
  |some i =>
   have hil := holGo_lt hh
   obtain ⟨f, rfl⟩ : ∃ f, mm = f + 1 := ⟨mm - 1, by omega⟩
   rw [dels, hh] at hd
   simp only at hd
   have hDel := hdl (by rw [hh]; simp)
   have hg : (rowB 37 5 l.length 0 (cC l)).get (i * 5) = .n .i64 (l.getD i (0, 0, 0, 0, 0)).1 := by
    have := row_get (ty := 37) (n := l.length) (z := 0) (row := cC l) i 0 (by decide : 0 < 5)
    exact this
   have hi0 : (0 : Int) ≤ (i : Int) := by omega
   have hi1 : (i : Int) < (l.length : Int) := by omega
   have hi2 : i * 5 < l.length * 5 := by omega
   have hw1 : IntKind.wrap .i64 ((i : Int) + 1) = ((i + 1 : Nat) : Int) := by rw [wrap64 (by omega)]; omega
   have hw2 : IntKind.wrap .i64 ((i : Int) + 2) = ((i + 2 : Nat) : Int) := by rw [wrap64 (by omega)]; omega
   unfold delN at hd
   generalize (l.getD i (0, 0, 0, 0, 0)).1 = op at hg hd
   simp only [holR]
   repeat (first | (with_reducible refine GA.go mixo rfl ?_) | simp only [hi0, hi1, hi2, hg, go_sem, simprocAttr])
   refine ⟨fun h1 => ?_, fun h1 => ?_⟩
   ·rw [if_pos h1] at hd
    repeat (first | (with_reducible refine GA.go mixo rfl ?_) | simp only [hw1, go_sem, simprocAttr])
    refine hDel l i 1 0 _ _ hll (by simp only [go_sem, simprocAttr]) (by decide) (by decide) (by omega) (fun x2 q1 q2 q3 q4 q5 q6 q7 => ?_)
    repeat (first | (with_reducible refine GA.go mixo rfl ?_) | simp only [go_sem, simprocAttr])
    refine ⟨_, _, _, ?_, Wk.mk [0] [] ?_ ?_ ?_, f, delP l i 1, rfl, by rw [delP_len (by omega)]; omega, by rw [delP_len (by omega)]; omega, hd, fun _ => hDel, rfl, rfl⟩
    ·omega
    ·rw [delP_len (by omega)]
     simp only [WkE, WkH, go_sem, simprocAttr]
     repeat' refine and_of ?_ ?_
     all_goals first | exact wku | skip
    ·rw [delP_len (by omega)]
     refine .cons rfl (.rows (x := x2) (by simp only [q4, go_sem, simprocAttr]) q1 q2 q3 q6 (by simp [q5]) (by decide) q7 (fun i j _ hj => by rcases lt5 hj with rfl | rfl | rfl | rfl | rfl <;> rfl)) .nil
    ·simp
   ·rw [if_neg h1] at hd
    repeat (first | (with_reducible refine GA.go mixo rfl ?_) | simp only [hw2, go_sem, simprocAttr])
    refine hDel l i 2 0 _ _ hll (by simp only [go_sem, simprocAttr]) (by decide) (by decide) (by omega) (fun x2 q1 q2 q3 q4 q5 q6 q7 => ?_)
    repeat (first | (with_reducible refine GA.go mixo rfl ?_) | simp only [go_sem, simprocAttr])
    refine ⟨_, _, _, ?_, Wk.mk [0] [] ?_ ?_ ?_, f, delP l i 2, rfl, by rw [delP_len (by omega)]; omega, by rw [delP_len (by omega)]; omega, hd, fun _ => hDel, rfl, rfl⟩
    ·omega
    ·rw [delP_len (by omega)]
     simp only [WkE, WkH, go_sem, simprocAttr]
     repeat' refine and_of ?_ ?_
     all_goals first | exact wku | skip
    ·rw [delP_len (by omega)]
     refine .cons rfl (.rows (x := x2) (by simp only [q4, go_sem, simprocAttr]) q1 q2 q3 q6 (by simp [q5]) (by decide) q7 (fun i j _ hj => by rcases lt5 hj with rfl | rfl | rfl | rfl | rfl <;> rfl)) .nil
    ·simp
end Go.Proofs.YtidhfimbnjaceaaGreat

namespace Go.Proofs.YtidhfimbnjaceaaGreat
open Go.RowKit
set_option linter.unusedVariables false
set_option linter.unusedSimpArgs false
def eqL : List In → List In → Bool
 |[], [] => true
 |x :: l, y :: m => eqIn x y && eqL l m
 |_, _ => false
theorem eqL_len : ∀ {l m : List In}, ¬ l.length = m.length → eqL l m = false
 |[], [], h => absurd rfl h
 |[], _ :: _, _ => rfl
 |_ :: _, [], _ => rfl
 |x :: l, y :: m, h => by
  rw [eqL, eqL_len (by simpa using h), Bool.and_false]
theorem equalI_has (l m : List In) (hl : l.length < 1000000) : Has Tryz.prog 53 [.fs 5 l.length (cC l), .fs 5 m.length (cC m)] [.v (.b (eqL l m))] := by
 by_cases hlm : l.length = m.length
 ·have hll : (l.length : Int) = (m.length : Int) := by omega
  refine hasQ_of' mixo x74ok ⟨by simp, by decide⟩ ?_
  simp only [argE]
  repeat (first | (with_reducible refine GA.go mixo rfl ?_) | simp only [hll, decide_true, go_sem, simprocAttr])
  refine GA.loop (I := fun mm e H => ∃ k : Nat, mm = l.length - k ∧ k ≤ l.length ∧ eqL l m = eqL (l.drop k) (m.drop k) ∧ e = envOf [(0, .fs 5 l.length (cC l)), (1, .fs 5 m.length (cC m)), (11, .fs 5 l.length (cC l)), (12, .n .i64 m.length), (13, .n .i64 k)] ∧ H = heapOf []) (Wk.mk [] [] ?_ ?_ ?_) ⟨0, rfl, by omega, rfl, rfl, rfl⟩ ?_
  ·simp only [WkE, WkH, go_sem, simprocAttr]
   repeat' refine and_of ?_ ?_
   all_goals first | exact wku | skip
  ·exact True.intro
  ·simp
  rintro mm e H ⟨k, rfl, hk, hs, rfl, rfl⟩
  repeat (first | (with_reducible refine GA.go mixo rfl ?_) | simp only [go_sem, simprocAttr])
  refine ⟨fun h => ?_, fun h => ?_⟩
  ·have hk' : k < l.length := by omega
   have hkm : k < m.length := by omega
   have h0 : (0 : Int) ≤ (k : Int) := by omega
   have h2 : (k : Int) < (m.length : Int) := by omega
   have h3 : (k : Int) < (l.length : Int) := by omega
   rw [drop_nx (d := (0, 0, 0, 0, 0)) hk', drop_nx (d := (0, 0, 0, 0, 0)) hkm, eqL] at hs
   have c0 := cC0 l k
   have c1 := cC1 l k
   have c2 := cC2 l k
   have c3 := cC3 l k
   have c4 := cC4 l k
   have e0 := cC0 m k
   have e1 := cC1 m k
   have e2 := cC2 m k
   have e3 := cC3 m k
   have e4 := cC4 m k
   generalize l.getD k (0, 0, 0, 0, 0) = x at hs c0 c1 c2 c3 c4
   generalize m.getD k (0, 0, 0, 0, 0) = y at hs e0 e1 e2 e3 e4
   have hxy := eqIn_eq x y
   repeat (first | (with_reducible refine GA.go mixo rfl ?_) | simp only [h0, h, h2, h3, hll, c0, c1, c2, c3, c4, e0, e1, e2, e3, e4, eqS, eqFs, partA, andO, SH.row, go_sem, simprocAttr])
   refine ⟨fun h1 => ?_, fun h1 => ?_⟩
   ·have he : eqIn x y = false := by
     rw [hxy]
     first
      |exact h1
      |simpa using h1
    rw [he, Bool.false_and] at hs
    repeat (first | (with_reducible refine GA.go mixo rfl ?_) | simp only [go_sem, simprocAttr])
    exact has_end1 (by rw [hs]) rfl
   ·have he : eqIn x y = true := by
     rw [hxy]
     first
      |exact h1
      |simpa using h1
    rw [he, Bool.true_and] at hs
    repeat (first | (with_reducible refine GA.go mixo rfl ?_) | simp only [go_sem, simprocAttr])
    refine ⟨_, _, _, ?_, Wk.mk [] [] ?_ ?_ ?_, k + 1, rfl, by omega, hs, rfl, rfl⟩
    ·omega
    ·simp only [WkE, WkH, go_sem, simprocAttr]
     repeat' refine and_of ?_ ?_
     all_goals first | exact wku | skip
    ·exact True.intro
    ·simp
  ·have : k = l.length := by omega
   rw [this, List.drop_length, hlm, List.drop_length] at hs
   repeat (first | (with_reducible refine GA.go mixo rfl ?_) | simp only [go_sem, simprocAttr])
   exact has_end1 (by rw [hs]; rfl) rfl
 ·have hll : ¬ ((l.length : Int) = (m.length : Int)) := by omega
  have hf : eqL l m = false := eqL_len hlm
  refine hasQ_of' mixo x74ok ⟨by simp, by decide⟩ ?_
  simp only [argE]
  repeat (first | (with_reducible refine GA.go mixo rfl ?_) | simp only [hll, decide_false, go_sem, simprocAttr])
  exact has_end1 (by rw [hf]) rfl
end Go.Proofs.YtidhfimbnjaceaaGreat

namespace Go.Proofs.YtidhfimbnjaceaaGreat
open Go.RowKit
set_option linter.unusedVariables false
set_option linter.unusedSimpArgs false
def optR (p : List In → List In) : Nat → List In → List In
 |0, c => c
 |f + 1, c => if eqL c (p c) = true then c else optR p f (p c)
def PassOK (na : Nat) (ra : Nat → Nat → AV) (regs : Nat) (par : Int) (Good : List In → Prop) (g : FuncId) (p : List In → List In) : Prop :=
 ∀ c, Good c → Has Tryz.prog g [codeV na ra regs par c] [.v (.fs 5 (p c).length (cC (p c)))] ∧ Good (p c)
def somep (p1 p2 p3 p4 : List In → List In) : Nat → List In → List In
 |0, c => c
 |1, c => p1 c
 |2, c => p2 (p1 c)
 |3, c => p3 (p2 (p1 c))
 |_, c => p4 (p3 (p2 (p1 c)))
theorem lt4' {i : Nat} (h : i < 4) : i = 0 ∨ i = 1 ∨ i = 2 ∨ i = 3 := by omega
theorem opt1_has {na : Nat} {ra : Nat → Nat → AV} {regs : Nat} {par : Int} {cs : List In} {Good : List In → Prop} {p1 p2 p3 p4 : List In → List In} (hna : na < 1000000) (hra : ∀ i j, i < na → j < 2 → (ra i j).cell = true)
  (hlen : ∀ c, Good c → c.length < 1000000) (h1 : PassOK na ra regs par Good 25 p1) (h2 : PassOK na ra regs par Good 36 p2) (h3 : PassOK na ra regs par Good 41 p3) (h4 : PassOK na ra regs par Good 47 p4) (hg : Good cs) :
  Has Tryz.prog 51 [codeV na ra regs par cs] [.v (.fs 5 (optR (fun c => p4 (p3 (p2 (p1 c)))) 8 cs).length (cC (optR (fun c => p4 (p3 (p2 (p1 c)))) 8 cs)))] := by
 generalize hR : optR (fun c => p4 (p3 (p2 (p1 c)))) 8 cs = R
 have hgood : ∀ k c, Good c → Good (somep p1 p2 p3 p4 k c) := fun k c hc => by
  match k with
  |0 => exact hc
  |1 => exact (h1 c hc).2
  |2 => exact (h2 _ (h1 c hc).2).2
  |3 => exact (h3 _ (h2 _ (h1 c hc).2).2).2
  |k + 4 => exact (h4 _ (h3 _ (h2 _ (h1 c hc).2).2).2).2
 refine hasQ_of' mixo x73ok ⟨by simp, by decide⟩ ?_
 simp only [argE, codeV]
 repeat (first | (with_reducible refine GA.go mixo rfl ?_) | simp only [go_sem, simprocAttr])
 refine GA.loop (I := fun mm e H => ∃ (f : Nat) (k : Nat) (c : List In), mm = f ∧ k + f = 8 ∧ Good c ∧ optR (fun c => p4 (p3 (p2 (p1 c)))) f c = R ∧ e = envOf [(1, .p 0 0), (6, .n .i64 k)] ∧ H = heapOf [lstB 0 25 [.fs 2 na ra, .n .i64 regs, .n .i64 par, .fs 5 c.length (cC c)]]) (Wk.mk [0] [] ?_ ?_ ?_) ⟨8, 0, cs, rfl, rfl, hg, hR, rfl, rfl⟩ ?_
 ·simp only [WkE, WkH, go_sem, simprocAttr]
  repeat' refine and_of ?_ ?_
  all_goals first | exact wku | skip
 ·exact .cons rfl (.ls) .nil
 ·simp
 rintro mm e H ⟨f, k, c, rfl, hkf, hc, hr, rfl, rfl⟩
 repeat (first | (with_reducible refine GA.go mixo rfl ?_) | simp only [go_sem, simprocAttr])
 refine ⟨fun h => ?_, fun h => ?_⟩
 rotate_left
 ·have hf0 : mm = 0 := by omega
  subst hf0
  rw [optR] at hr
  subst hr
  repeat (first | (with_reducible refine GA.go mixo rfl ?_) | simp only [go_sem, simprocAttr])
  exact has_end1 rfl rfl
 obtain ⟨f, rfl⟩ : ∃ f, mm = f + 1 := ⟨mm - 1, by omega⟩
 rw [optR] at hr
 repeat (first | (with_reducible refine GA.go mixo rfl ?_) | simp only [go_sem, simprocAttr])
 refine GA.loop (I := fun mm e H => ∃ q : Nat, mm = 4 - q ∧ q ≤ 4 ∧ e = envOf [(1, .p 0 0), (3, .p 1 0), (6, .n .i64 k), (9, .sl 2 0 4 4), (10, .n .i64 4), (11, .n .i64 q)] ∧ H = heapOf [lstB 1 40 [.f 25 [] [], .f 36 [] [], .f 41 [] [], .f 47 [] []],
   lstB 0 25 [.fs 2 na ra, .n .i64 regs, .n .i64 par, .fs 5 (somep p1 p2 p3 p4 q c).length (cC (somep p1 p2 p3 p4 q c))], lstB 0 25 [.fs 2 na ra, .n .i64 regs, .n .i64 par, .fs 5 c.length (cC c)]]) (Wk.mk [2, 1, 0] [] ?_ ?_ ?_) ⟨0, rfl, by omega, rfl, rfl⟩ ?_
 ·simp only [WkE, WkH, go_sem, simprocAttr]
  repeat' refine and_of ?_ ?_
  all_goals first | exact wku | skip
 ·refine .cons rfl (.lsti (x := _) (by simp only [go_sem, simprocAttr] <;> rfl) (by rfl) (by rfl) (by rfl) (by rfl) (by rfl) (by rfl) (by simp) (fun i hi => by rcases lt4' hi with rfl | rfl | rfl | rfl <;> simp only [go_sem, simprocAttr]) (by rfl)) (.cons rfl (.lsti (x := _) (by simp only [go_sem, simprocAttr] <;> rfl) (by rfl) (by rfl) (by rfl) (by rfl) (by rfl) (by rfl) (by simp) (fun i hi => by rcases lt4' hi with rfl | rfl | rfl | rfl <;> (simp only [go_sem, simprocAttr]; first | done | rfl)) (by rfl)) (.cons rfl (.ls) .nil))
 ·simp
 rintro mm e H ⟨q, rfl, hq, rfl, rfl⟩
 repeat (first | (with_reducible refine GA.go mixo rfl ?_) | simp only [go_sem, simprocAttr])
 refine ⟨fun hq4 => ?_, fun hq4 => ?_⟩
 ·have hq0 : (0 : Int) ≤ (q : Int) := by omega
  have hq5 : (q : Int) < ((4 : Nat) : Int) := by omega
  have hgq := hgood q c hc
  have hcases : q = 0 ∨ q = 1 ∨ q = 2 ∨ q = 3 := by omega
  rcases hcases with rfl | rfl | rfl | rfl
  ·have hpass := h1 _ hgq
   have hlp := hlen _ hpass.2
   have hnx : somep p1 p2 p3 p4 1 c = p1 (somep p1 p2 p3 p4 0 c) := rfl
   generalize somep p1 p2 p3 p4 0 c = d at hpass hlp hnx ⊢
   simp only [codeV] at hpass
   repeat (first | (with_reducible refine GA.go mixo rfl ?_) | simp only [hq0, hq5, go_sem, simprocAttr])
   refine gcall_has [] (.cons (.rfl (by rfl)) .nil) hpass.1 (by simp only [go_sem, simprocAttr]) ?_
   repeat (first | (with_reducible refine GA.go mixo rfl ?_) | simp only [go_sem, simprocAttr])
   refine gcall_has [] (.cons (.rfl (by rfl)) (.cons (.rfl (by rfl)) .nil)) (copied_v (regs := regs) (par := par) (cs := d) hna hra hlp) (by simp only [go_sem, simprocAttr]) ?_
   simp only [codeV]
   repeat (first | (with_reducible refine GA.go mixo rfl ?_) | simp only [go_sem, simprocAttr])
   refine ⟨_, _, _, ?_, Wk.mk [2, 1, 0] [] ?_ ?_ ?_, 1, rfl, by omega, rfl, rfl⟩
   ·omega
   ·simp only [WkE, WkH, go_sem, simprocAttr]
    repeat' refine and_of ?_ ?_
    all_goals first | exact wku | skip
   ·rw [hnx]
    refine .cons rfl (.ls) (.cons rfl (.lsti (x := _) (by simp only [go_sem, simprocAttr] <;> rfl) (by rfl) (by rfl) (by rfl) (by rfl) (by rfl) (by rfl) (by simp) (fun i hi => by rcases lt4' hi with rfl | rfl | rfl | rfl <;> simp only [go_sem, simprocAttr]) (by rfl)) (.cons rfl (.ls) .nil))
   ·simp
  ·have hpass := h2 _ hgq
   have hlp := hlen _ hpass.2
   have hnx : somep p1 p2 p3 p4 2 c = p2 (somep p1 p2 p3 p4 1 c) := rfl
   generalize somep p1 p2 p3 p4 1 c = d at hpass hlp hnx ⊢
   simp only [codeV] at hpass
   repeat (first | (with_reducible refine GA.go mixo rfl ?_) | simp only [hq0, hq5, go_sem, simprocAttr])
   refine gcall_has [] (.cons (.rfl (by rfl)) .nil) hpass.1 (by simp only [go_sem, simprocAttr]) ?_
   repeat (first | (with_reducible refine GA.go mixo rfl ?_) | simp only [go_sem, simprocAttr])
   refine gcall_has [] (.cons (.rfl (by rfl)) (.cons (.rfl (by rfl)) .nil)) (copied_v (regs := regs) (par := par) (cs := d) hna hra hlp) (by simp only [go_sem, simprocAttr]) ?_
   simp only [codeV]
   repeat (first | (with_reducible refine GA.go mixo rfl ?_) | simp only [go_sem, simprocAttr])
   refine ⟨_, _, _, ?_, Wk.mk [2, 1, 0] [] ?_ ?_ ?_, 2, rfl, by omega, rfl, rfl⟩
   ·omega
   ·simp only [WkE, WkH, go_sem, simprocAttr]
    repeat' refine and_of ?_ ?_
    all_goals first | exact wku | skip
   ·rw [hnx]
    refine .cons rfl (.ls) (.cons rfl (.lsti (x := _) (by simp only [go_sem, simprocAttr] <;> rfl) (by rfl) (by rfl) (by rfl) (by rfl) (by rfl) (by rfl) (by simp) (fun i hi => by rcases lt4' hi with rfl | rfl | rfl | rfl <;> simp only [go_sem, simprocAttr]) (by rfl)) (.cons rfl (.ls) .nil))
   ·simp
  ·have hpass := h3 _ hgq
   have hlp := hlen _ hpass.2
   have hnx : somep p1 p2 p3 p4 3 c = p3 (somep p1 p2 p3 p4 2 c) := rfl
   generalize somep p1 p2 p3 p4 2 c = d at hpass hlp hnx ⊢
   simp only [codeV] at hpass
   repeat (first | (with_reducible refine GA.go mixo rfl ?_) | simp only [hq0, hq5, go_sem, simprocAttr])
   refine gcall_has [] (.cons (.rfl (by rfl)) .nil) hpass.1 (by simp only [go_sem, simprocAttr]) ?_
   repeat (first | (with_reducible refine GA.go mixo rfl ?_) | simp only [go_sem, simprocAttr])
   refine gcall_has [] (.cons (.rfl (by rfl)) (.cons (.rfl (by rfl)) .nil)) (copied_v (regs := regs) (par := par) (cs := d) hna hra hlp) (by simp only [go_sem, simprocAttr]) ?_
   simp only [codeV]
   repeat (first | (with_reducible refine GA.go mixo rfl ?_) | simp only [go_sem, simprocAttr])
   refine ⟨_, _, _, ?_, Wk.mk [2, 1, 0] [] ?_ ?_ ?_, 3, rfl, by omega, rfl, rfl⟩
   ·omega
   ·simp only [WkE, WkH, go_sem, simprocAttr]
    repeat' refine and_of ?_ ?_
    all_goals first | exact wku | skip
   ·rw [hnx]
    refine .cons rfl (.ls) (.cons rfl (.lsti (x := _) (by simp only [go_sem, simprocAttr] <;> rfl) (by rfl) (by rfl) (by rfl) (by rfl) (by rfl) (by rfl) (by simp) (fun i hi => by rcases lt4' hi with rfl | rfl | rfl | rfl <;> simp only [go_sem, simprocAttr]) (by rfl)) (.cons rfl (.ls) .nil))
   ·simp
  ·have hpass := h4 _ hgq
   have hlp := hlen _ hpass.2
   have hnx : somep p1 p2 p3 p4 4 c = p4 (somep p1 p2 p3 p4 3 c) := rfl
   generalize somep p1 p2 p3 p4 3 c = d at hpass hlp hnx ⊢
   simp only [codeV] at hpass
   repeat (first | (with_reducible refine GA.go mixo rfl ?_) | simp only [hq0, hq5, go_sem, simprocAttr])
   refine gcall_has [] (.cons (.rfl (by rfl)) .nil) hpass.1 (by simp only [go_sem, simprocAttr]) ?_
   repeat (first | (with_reducible refine GA.go mixo rfl ?_) | simp only [go_sem, simprocAttr])
   refine gcall_has [] (.cons (.rfl (by rfl)) (.cons (.rfl (by rfl)) .nil)) (copied_v (regs := regs) (par := par) (cs := d) hna hra hlp) (by simp only [go_sem, simprocAttr]) ?_
   simp only [codeV]
   repeat (first | (with_reducible refine GA.go mixo rfl ?_) | simp only [go_sem, simprocAttr])
   refine ⟨_, _, _, ?_, Wk.mk [2, 1, 0] [] ?_ ?_ ?_, 4, rfl, by omega, rfl, rfl⟩
   ·omega
   ·simp only [WkE, WkH, go_sem, simprocAttr]
    repeat' refine and_of ?_ ?_
    all_goals first | exact wku | skip
   ·rw [hnx]
    refine .cons rfl (.ls) (.cons rfl (.lsti (x := _) (by simp only [go_sem, simprocAttr] <;> rfl) (by rfl) (by rfl) (by rfl) (by rfl) (by rfl) (by rfl) (by simp) (fun i hi => by rcases lt4' hi with rfl | rfl | rfl | rfl <;> simp only [go_sem, simprocAttr]) (by rfl)) (.cons rfl (.ls) .nil))
   ·simp
 ·have hq' : q = 4 := by omega
  subst hq'
  have hd : somep p1 p2 p3 p4 4 c = p4 (p3 (p2 (p1 c))) := rfl
  have hgd := hgood 4 c hc
  rw [hd] at hgd ⊢
  generalize p4 (p3 (p2 (p1 c))) = d at hgd hr ⊢
  repeat (first | (with_reducible refine GA.go mixo rfl ?_) | simp only [go_sem, simprocAttr])
  refine gcall_has [] (.cons (.rfl (by rfl)) (.cons (.rfl (by rfl)) .nil)) (equalI_has c d (hlen c hc)) (by simp only [go_sem, simprocAttr]) ?_
  cases hcd : eqL c d
  ·rw [hcd, if_neg (by simp)] at hr
   repeat (first | (with_reducible refine GA.go mixo rfl ?_) | simp only [go_sem, simprocAttr])
   refine ⟨_, _, _, ?_, Wk.mk [0] [] ?_ ?_ ?_, f, k + 1, d, rfl, by omega, hgd, hr, rfl, rfl⟩
   ·omega
   ·simp only [WkE, WkH, go_sem, simprocAttr]
    repeat' refine and_of ?_ ?_
    all_goals first | exact wku | skip
   ·refine .cons rfl (.lsti (x := _) (by simp only [go_sem, simprocAttr] <;> rfl) (by rfl) (by rfl) (by rfl) (by rfl) (by rfl) (by rfl) (by simp) (fun i hi => by rcases lt4' hi with rfl | rfl | rfl | rfl <;> simp only [go_sem, simprocAttr]) (by rfl)) .nil
   ·simp
  ·rw [hcd, if_pos rfl] at hr
   subst hr
   repeat (first | (with_reducible refine GA.go mixo rfl ?_) | simp only [go_sem, simprocAttr])
   exact has_end1 rfl rfl
theorem Copies_has {na na2 : Nat} {ra ra2 : Nat → Nat → AV} {regs par regs2 par2 er : Int} {cs cs2 : List In} (h : Has Tryz.prog 24 [codeV na ra regs par cs, .f 36 [] []] [.v (codeV na2 ra2 regs2 par2 cs2), .v (.n .i64 er)]) :
  Has Tryz.prog 13 [codeV na ra regs par cs] [.v (codeV na2 ra2 regs2 par2 cs2), .v (.n .i64 er)] := by
 refine hasQ_of' mixo x33ok ⟨by simp, by decide⟩ ?_
 simp only [argE, codeV]
 repeat (first | (with_reducible refine GA.go mixo rfl ?_) | simp only [go_sem, simprocAttr])
 refine gcall_has [] (.cons (.rfl (by rfl)) (.cons (.rfl (by rfl)) .nil)) h (by simp only [go_sem, simprocAttr]) ?_
 simp only [codeV]
 repeat (first | (with_reducible refine GA.go mixo rfl ?_) | simp only [go_sem, simprocAttr])
 exact has_tup (.v rfl rfl (.v rfl rfl .nil))
theorem Share_has {na na2 : Nat} {ra ra2 : Nat → Nat → AV} {regs par regs2 par2 er : Int} {cs cs2 : List In} (h : Has Tryz.prog 24 [codeV na ra regs par cs, .f 41 [] []] [.v (codeV na2 ra2 regs2 par2 cs2), .v (.n .i64 er)]) :
  Has Tryz.prog 15 [codeV na ra regs par cs] [.v (codeV na2 ra2 regs2 par2 cs2), .v (.n .i64 er)] := by
 refine hasQ_of' mixo x57ok ⟨by simp, by decide⟩ ?_
 simp only [argE, codeV]
 repeat (first | (with_reducible refine GA.go mixo rfl ?_) | simp only [go_sem, simprocAttr])
 refine gcall_has [] (.cons (.rfl (by rfl)) (.cons (.rfl (by rfl)) .nil)) h (by simp only [go_sem, simprocAttr]) ?_
 simp only [codeV]
 repeat (first | (with_reducible refine GA.go mixo rfl ?_) | simp only [go_sem, simprocAttr])
 exact has_tup (.v rfl rfl (.v rfl rfl .nil))
theorem Prune_has {na na2 : Nat} {ra ra2 : Nat → Nat → AV} {regs par regs2 par2 er : Int} {cs cs2 : List In} (h : Has Tryz.prog 24 [codeV na ra regs par cs, .f 47 [] []] [.v (codeV na2 ra2 regs2 par2 cs2), .v (.n .i64 er)]) :
  Has Tryz.prog 17 [codeV na ra regs par cs] [.v (codeV na2 ra2 regs2 par2 cs2), .v (.n .i64 er)] := by
 refine hasQ_of' mixo x44ok ⟨by simp, by decide⟩ ?_
 simp only [argE, codeV]
 repeat (first | (with_reducible refine GA.go mixo rfl ?_) | simp only [go_sem, simprocAttr])
 refine gcall_has [] (.cons (.rfl (by rfl)) (.cons (.rfl (by rfl)) .nil)) h (by simp only [go_sem, simprocAttr]) ?_
 simp only [codeV]
 repeat (first | (with_reducible refine GA.go mixo rfl ?_) | simp only [go_sem, simprocAttr])
 exact has_tup (.v rfl rfl (.v rfl rfl .nil))
theorem Optimize_has {na na2 : Nat} {ra ra2 : Nat → Nat → AV} {regs par regs2 par2 er : Int} {cs cs2 : List In} (h : Has Tryz.prog 24 [codeV na ra regs par cs, .f 51 [] []] [.v (codeV na2 ra2 regs2 par2 cs2), .v (.n .i64 er)]) :
  Has Tryz.prog 19 [codeV na ra regs par cs] [.v (codeV na2 ra2 regs2 par2 cs2), .v (.n .i64 er)] := by
 refine hasQ_of' mixo x72ok ⟨by simp, by decide⟩ ?_
 simp only [argE, codeV]
 repeat (first | (with_reducible refine GA.go mixo rfl ?_) | simp only [go_sem, simprocAttr])
 refine gcall_has [] (.cons (.rfl (by rfl)) (.cons (.rfl (by rfl)) .nil)) h (by simp only [go_sem, simprocAttr]) ?_
 simp only [codeV]
 repeat (first | (with_reducible refine GA.go mixo rfl ?_) | simp only [go_sem, simprocAttr])
 exact has_tup (.v rfl rfl (.v rfl rfl .nil))
def codeZ : AV := .agg [.sl0, .n .i64 0, .n .i64 0, .sl0]
theorem checked_err {na : Nat} {ra : Nat → Nat → AV} {regs par er : Int} {cs : List In} {x : AV} {g : FuncId} (he : ¬ er = 0) (hc : Has Tryz.prog 54 [codeV na ra regs par cs] [.v x, .v (.n .i64 er)]) :
  Has Tryz.prog 24 [codeV na ra regs par cs, .f g [] []] [.v codeZ, .v (.n .i64 er)] := by
 refine hasQ_of' mixo x21ok ⟨by simp, by decide⟩ ?_
 simp only [argE, codeV] at hc ⊢
 repeat (first | (with_reducible refine GA.go mixo rfl ?_) | simp only [go_sem, simprocAttr])
 refine gcall_has [] (.cons (.rfl (by rfl)) .nil) hc (by simp only [go_sem, simprocAttr]) ?_
 repeat (first | (with_reducible refine GA.go mixo rfl ?_) | simp only [he, decide_false, go_sem, simprocAttr])
 exact has_tup (.v rfl rfl (.v rfl rfl .nil))
theorem Fold_err {na : Nat} {ra : Nat → Nat → AV} {regs par er : Int} {cs : List In} (h : Has Tryz.prog 24 [codeV na ra regs par cs, .f 25 [] []] [.v codeZ, .v (.n .i64 er)]) :
  Has Tryz.prog 10 [codeV na ra regs par cs] [.v codeZ, .v (.n .i64 er)] := by
 refine hasQ_of' mixo x23ok ⟨by simp, by decide⟩ ?_
 simp only [argE, codeV, codeZ] at h ⊢
 repeat (first | (with_reducible refine GA.go mixo rfl ?_) | simp only [go_sem, simprocAttr])
 refine gcall_has [] (.cons (.rfl (by rfl)) (.cons (.rfl (by rfl)) .nil)) h (by simp only [go_sem, simprocAttr]) ?_
 repeat (first | (with_reducible refine GA.go mixo rfl ?_) | simp only [go_sem, simprocAttr])
 exact has_tup (.v rfl rfl (.v rfl rfl .nil))
theorem Prune_err {na : Nat} {ra : Nat → Nat → AV} {regs par er : Int} {cs : List In} (h : Has Tryz.prog 24 [codeV na ra regs par cs, .f 47 [] []] [.v codeZ, .v (.n .i64 er)]) :
  Has Tryz.prog 17 [codeV na ra regs par cs] [.v codeZ, .v (.n .i64 er)] := by
 refine hasQ_of' mixo x44ok ⟨by simp, by decide⟩ ?_
 simp only [argE, codeV, codeZ] at h ⊢
 repeat (first | (with_reducible refine GA.go mixo rfl ?_) | simp only [go_sem, simprocAttr])
 refine gcall_has [] (.cons (.rfl (by rfl)) (.cons (.rfl (by rfl)) .nil)) h (by simp only [go_sem, simprocAttr]) ?_
 repeat (first | (with_reducible refine GA.go mixo rfl ?_) | simp only [go_sem, simprocAttr])
 exact has_tup (.v rfl rfl (.v rfl rfl .nil))
end Go.Proofs.YtidhfimbnjaceaaGreat
