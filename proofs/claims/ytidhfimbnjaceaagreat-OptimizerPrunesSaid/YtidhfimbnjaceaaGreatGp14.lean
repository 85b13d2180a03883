/- A part of the proof of OptimizerPrunes: FoO Fw FrA FvA FwV FsA FsC. No condition. -/
import Derived.Test.YtidhfimbnjaceaaGreatGp13
import Derived.Test.YtidhfimbnjaceaaGreatGp11
set_option linter.unusedSimpArgs false
set_option linter.unusedVariables false
set_option linter.constructorNameAsVariable false
set_option maxRecDepth 100000
set_option maxHeartbeats 4000000
namespace Go.Proofs.YtidhfimbnjaceaaGreat
open Go.RowKit
set_option linter.unusedVariables false
set_option linter.unusedSimpArgs false
structure PSt where
 out : List Int
 op : List Nat
 lp : List Nat
def pairsStep (cs : List In) (i : Nat) (op : Int) (s : PSt) : Option PSt :=
 let out := s.out.set i (-1)
 if op = 27 then some ⟨out, i :: s.op, s.lp⟩
 else if op = 29 then some ⟨out, i :: s.op, i :: s.lp⟩
 else if op = 28 then match s.op with
  |b :: _ => some ⟨out.set b i, s.op, s.lp⟩
  |[] => none
 else if op = 31 then match s.op with
  |b :: rest =>
   let out := out.set i b
   let out := if 0 ≤ out.getD b 0 then out.set (out.getD b 0).toNat i else out.set b i
   if (cs.getD b (0, 0, 0, 0, 0)).1 = 29 then match s.lp with
    |_ :: lp => some ⟨out, rest, lp⟩
    |[] => none
   else some ⟨out, rest, s.lp⟩
  |[] => none
 else if op = 30 then match s.lp with
  |l :: _ => some ⟨out.set i l, s.op, s.lp⟩
  |[] => none
 else some ⟨out, s.op, s.lp⟩
def pairsGo (cs : List In) : List In → Nat → PSt → Option PSt
 |[], _, s => some s
 |x :: l, i, s => (pairsStep cs i x.1 s).bind (pairsGo cs l (i + 1))
def leavesGo : List In → Nat → List Int → Option (List Int)
 |[], _, o => some o
 |x :: l, i, o => if x.1 = 30 then (if 0 ≤ o.getD i 0 then leavesGo l (i + 1) (o.set i (o.getD (o.getD i 0).toNat 0)) else none) else leavesGo l (i + 1) o
def pairsP (cs : List In) : Option (List Int) := (pairsGo cs cs 0 ⟨List.replicate cs.length 0, [], []⟩).bind fun s => leavesGo cs 0 s.out
def nC (l : List Nat) (i _j : Nat) : AV := .n .i64 ((l.reverse.getD i 0 : Nat) : Int)
theorem WkB.pop {r : Nat → Option Nat} {M : List Nat} {H : AH} {b ty esz n m z : Nat} {row row2 : Nat → Nat → AV} (hx : H.at b = some (rowB ty esz n z row)) (hM : M.contains b = false) (h0 : 0 < esz) (hm : m ≤ n) (h2 : ∀ i j, i < m → j < esz → row i j = row2 i j) (hc : ∀ i j, i < m → j < esz → (row2 i j).pu 3 = true) : WkB r M H b (rowB ty esz m z row2) :=
 WkB.rows hx rfl rfl rfl (Nat.mul_le_mul_right esz hm) (by rw [if_neg (by simpa using hM)]; exact Nat.le_refl _) h0 (fun i j hi hj => (row_get i j hj).trans (h2 i j hi hj)) hc
theorem WkB.snoc {r : Nat → Option Nat} {M : List Nat} {H : AH} {b ty esz n z o : Nat} {row row2 : Nat → Nat → AV} {l : List AV} (hx : H.at b = some ((rowB ty esz n z row).app o (.li l))) (ho : o = n * esz) (hl : l.length = esz) (hM : M.contains b = false) (h0 : 0 < esz) (hn : (n + 1) * esz < 2 ^ 40)
  (h1 : ∀ i j, i < n → j < esz → row2 i j = row i j) (h2 : ∀ j, j < esz → row2 n j = l[j]?.getD .u) (hc : ∀ i j, i < n + 1 → j < esz → (row2 i j).pu 3 = true) : WkB r M H b (rowB ty esz (n + 1) z row2) := by
 subst ho
 refine WkB.rows hx (AB.app_rest _ _ _).2.1 (AB.app_rest _ _ _).1 (AB.app_rest _ _ _).2.2.1 ?_ ?_ h0 (snoc_get hl hn h1 h2) hc
 ·rw [AB.app_size]; simp only [ASrc.len, hl, Nat.succ_mul]; exact Nat.le_refl _
 ·rw [if_neg (by simpa using hM), (AB.app_rest _ _ _).2.2.2.2]; exact Nat.le_refl _
theorem nC_cons (l : List Nat) (b : Nat) (i j : Nat) (hi : i < l.length) : nC (b :: l) i j = nC l i j := by
 unfold nC; rw [List.reverse_cons, getD_app_lt (by simpa using hi)]
theorem nC_top (l : List Nat) (b : Nat) (j : Nat) : nC (b :: l) l.length j = .n .i64 (b : Int) := by
 unfold nC; rw [List.reverse_cons]
 have := getD_app_eq (l := l.reverse) (x := b) (d := 0)
 rw [List.length_reverse] at this
 rw [this]
theorem set_getD {l : List Int} {q : Nat} (hq : q < l.length) (v : Int) (i : Nat) : (l.set q v).getD i 0 = if i = q then v else l.getD i 0 := by
 simp only [List.getD_eq_getElem?_getD, List.getElem?_set]
 by_cases h : q = i
 ·subst h; simp [hq]
 ·simp [h, Ne.symm h]
theorem row_get1 {ty n z : Nat} {row : Nat → Nat → AV} (i : Nat) : (rowB ty 1 n z row).get i = row i 0 := by
 have := row_get (ty := ty) (n := n) (z := z) (row := row) i 0 (by decide : 0 < 1)
 simpa using this
theorem mem_set_lt {l : List Int} {i : Nat} {v w : Int} {n : Nat} (h : ∀ x ∈ l, x < (n : Int)) (hv : v < n) (hw : w ∈ l.set i v) : w < n := by
 rcases List.mem_or_eq_of_mem_set hw with h1 | rfl
 ·exact h w h1
 ·exact hv
structure PInv (n k : Nat) (s : PSt) : Prop where
 len : s.out.length = n
 op : ∀ b ∈ s.op, b < k
 lp : ∀ b ∈ s.lp, b < k
 out : ∀ v ∈ s.out, v < n
 nop : s.op.length ≤ k
 nlp : s.lp.length ≤ k
theorem pairsStep_inv {cs : List In} {k : Nat} {op : Int} {s s2 : PSt} (h : PInv cs.length k s) (hk : k < cs.length) (hst : pairsStep cs k op s = some s2) : PInv cs.length (k + 1) s2 := by
 obtain ⟨out, o, l⟩ := s
 obtain ⟨h1, h2, h3, h4, h5, h6⟩ := h
 simp only at h1 h2 h3 h4 h5 h6
 have hset : ∀ v ∈ out.set k (-1), v < (cs.length : Int) := fun v hv => mem_set_lt h4 (by omega) hv
 have o2 : ∀ b ∈ o, b < k + 1 := fun b hb => by have := h2 b hb; omega
 have l2 : ∀ b ∈ l, b < k + 1 := fun b hb => by have := h3 b hb; omega
 have ck : ∀ {q : List Nat}, (∀ b ∈ q, b < k + 1) → ∀ b ∈ k :: q, b < k + 1 := fun hq b hb => by
  rcases List.mem_cons.1 hb with rfl | hb
  ·omega
  ·exact hq b hb
 unfold pairsStep at hst
 simp only at hst
 split at hst
 ·cases hst; exact ⟨by simp [h1], ck o2, l2, hset, by simp; omega, by simp; omega⟩
 split at hst
 ·cases hst; exact ⟨by simp [h1], ck o2, ck l2, hset, by simp; omega, by simp; omega⟩
 split at hst
 ·split at hst
  ·rename_i b rest
   cases hst
   exact ⟨by simp [h1], o2, l2, fun v hv => mem_set_lt hset (by omega) hv, by simp only; omega, by simp only; omega⟩
  ·cases hst
 split at hst
 ·split at hst
  ·rename_i b rest
   have hb : b < cs.length := by have := h2 b (List.mem_cons_self ..); omega
   have hset2 : ∀ v ∈ (out.set k (-1)).set k (b : Int), v < (cs.length : Int) := fun v hv => mem_set_lt hset (by omega) hv
   have r2 : ∀ b ∈ rest, b < k + 1 := fun b hb => o2 b (List.mem_cons_of_mem _ hb)
   have hr : rest.length ≤ k := by simp at h5; omega
   have hql : ((out.set k (-1)).set k (b : Int)).length = cs.length := by simp [h1]
   generalize (out.set k (-1)).set k (b : Int) = q at hst hset2 hql
   have hq2 : (if 0 ≤ q.getD b 0 then q.set (q.getD b 0).toNat (k : Int) else q.set b (k : Int)).length = cs.length := by
    split <;> simp [hql]
   have hq : ∀ v ∈ (if 0 ≤ q.getD b 0 then q.set (q.getD b 0).toNat (k : Int) else q.set b (k : Int)), v < (cs.length : Int) := fun v hv => by
    split at hv <;> exact mem_set_lt hset2 (by omega) hv
   split at hst
   ·split at hst
    ·rename_i x lp
     cases hst
     exact ⟨hq2, r2, fun b hb => l2 b (List.mem_cons_of_mem _ hb), hq, by simp only; omega, by simp at h6 ⊢; omega⟩
    ·cases hst
   ·cases hst
    exact ⟨hq2, r2, l2, hq, by simp only; omega, by simp only; omega⟩
  ·cases hst
 split at hst
 ·split at hst
  ·rename_i b rest
   cases hst
   have hb : b < cs.length := by have := h3 b (List.mem_cons_self ..); omega
   exact ⟨by simp [h1], o2, l2, fun v hv => mem_set_lt hset (by omega) hv, by simp only; omega, by simp only; omega⟩
  ·cases hst
 ·cases hst; exact ⟨by simp [h1], o2, l2, hset, by simp only; omega, by simp only; omega⟩
theorem GA.cutQ {P : Program} {n : Nat} {hints : Hints} {e : Tr AV} {H : AH} {Q : AE → Tr AV → AH → Prop} {x : AC} (e2 : Tr AV) (H2 : AH) (h : GA P n hints x e H (thenA (fun e' H' => Wk n e' H' e2 H2) (fun _ _ _ => False))) (h' : ∀ e' H', Wk n e' H' e2 H2 → Q .normal e' H') : GA P n hints x e H Q :=
 h.mono fun a e' H' hq => by
  cases a with
  |normal => exact h' e' H' hq
  |exit i => exact hq.elim
  |ret => exact hq.elim
theorem pairs_has (cs : List In) (hcs : cs.length < 1000000) (pt : List Int) (hp : pairsP cs = some pt) : Has Tryz.prog 86 [.fs 5 cs.length (cC cs)] [.o 3 1 pt.length 0 (iC .i64 pt)] := by
 unfold pairsP at hp
 obtain ⟨fin, hp1, hp2⟩ := Option.bind_eq_some_iff.1 hp
 have hl1 : cs.length < 1099511627776 := by omega
 have hl2 : cs.length ≤ 140737488355328 := by omega
 have hl3 : (0 : Int) ≤ (cs.length : Int) := by omega
 have hl4 : (cs.length : Int) ≤ 16777216 := by omega
 have hl5 : 8 * cs.length ≤ 140737488355328 := by omega
 refine hasQ_of' mixo x18ok ⟨by simp, by decide⟩ ?_
 simp only [argE]
 with_reducible refine GA.seq ?_
 with_reducible refine GA.reg ?_
 simp only [go_sem, simprocAttr]
 with_reducible refine GA.seq ?_
 with_reducible refine GA.reg ?_
 simp only [hl1, hl2, hl3, hl4, hl5, Int.le_refl, go_sem, simprocAttr]
 with_reducible refine GA.seq ?_
 with_reducible refine GA.reg ?_
 simp only [go_sem, simprocAttr]
 refine GA.wk (Wk.nil 4 1 3 (by simp only [go_sem, simprocAttr]) (by decide) (by simp only [next_new, heap_next, List.length_nil]; decide)) ?_
 refine GA.wk (Wk.nil 5 1 3 (by simp only [go_sem, simprocAttr]) (by decide) (by simp only [next_new, heap_next, List.length_nil]; decide)) ?_
 simp only [env_put]
 repeat (first | (with_reducible refine GA.go mixo rfl ?_) | simp only [go_sem, simprocAttr])
 refine GA.loop (I := fun mm e H => ∃ (k : Nat) (s : PSt), mm = cs.length - k ∧ k ≤ cs.length ∧ PInv cs.length k s ∧ pairsGo cs (cs.drop k) k s = some fin ∧
   e = envOf [(0, .fs 5 cs.length (cC cs)), (3, .os 0 cs.length), (14, .fs 5 cs.length (cC cs)), (15, .n .i64 cs.length), (16, .n .i64 k), (4, .os 1 s.op.length), (5, .os 2 s.lp.length)] ∧
   H = heapOf [rowB 3 1 s.lp.length 0 (nC s.lp), rowB 3 1 s.op.length 0 (nC s.op), rowB 3 1 cs.length 0 (iC .i64 s.out)]) (Wk.mk [2, 1, 0] [] ?_ ?_ ?_) ⟨0, ⟨List.replicate cs.length 0, [], []⟩, rfl, by omega, ⟨by simp, by simp, by simp, ?_, by simp, by simp⟩, hp1, rfl, rfl⟩ ?_
 ·simp only [WkE, WkH, go_sem, simprocAttr]
  repeat' refine and_of ?_ ?_
  all_goals first | exact wkt | skip
 ·refine .cons rfl (.rows (by simp only [go_sem, simprocAttr]; rfl) rfl rfl rfl (by simp) (by decide) (by decide) (fun i j h => by simp at h) (fun i j h => by simp at h)) (.cons rfl (.rows (by simp only [go_sem, simprocAttr]; rfl) rfl rfl rfl (by simp) (by decide) (by decide) (fun i j h => by simp at h) (fun i j h => by simp at h)) (.cons rfl (.same (by simp only [go_sem, simprocAttr] <;> rfl) rfl (by decide) (fun i j h hj => ?_) (fun i j h hj => rfl)) .nil))
  obtain rfl : j = 0 := by omega
  unfold iC
  rw [List.getD_eq_getElem?_getD, List.getElem?_replicate]
  split <;> rfl
 ·simp
 ·intro v hv
  rw [List.eq_of_mem_replicate hv]
  have := List.length_pos_of_mem hv
  rw [List.length_replicate] at this
  omega
 rintro mm e H ⟨k, ⟨out, op, lp⟩, rfl, hk, hinv, hs, rfl, rfl⟩
 have ⟨ho, hop, hlp, hv, hol, hll⟩ := hinv
 simp only at ho hop hlp hv hol hll
 repeat (first | (with_reducible refine GA.go mixo rfl ?_) | simp only [go_sem, simprocAttr])
 refine ⟨fun h => ?_, fun h => ?_⟩
 ·have hkn : k < cs.length := by omega
  have h0 : (0 : Int) ≤ (k : Int) := by omega
  have hk1 : k + 1 ≤ cs.length := hkn
  rw [drop_nx (d := (0, 0, 0, 0, 0)) hkn, pairsGo] at hs
  obtain ⟨s2, hst, hs⟩ := Option.bind_eq_some_iff.1 hs
  have hcc0 := cC0 cs k
  have hcc1 := cC1 cs k
  have hcc2 := cC2 cs k
  have hcc3 := cC3 cs k
  have hcc4 := cC4 cs k
  generalize cs.getD k (0, 0, 0, 0, 0) = x at hst hcc0 hcc1 hcc2 hcc3 hcc4
  obtain ⟨opc, to, a, b, arg⟩ := x
  have key := pairsStep_inv hinv hkn hst
  unfold pairsStep at hst
  simp only at hst
  (try simp only [h0, h, hkn, hk1, hcc0, hcc1, hcc2, hcc3, hcc4, go_sem, simprocAttr])
  iterate 9 (with_reducible refine GA.go mixo rfl ?_; try simp only [h0, h, hkn, hk1, hcc0, hcc1, hcc2, hcc3, hcc4, go_sem, simprocAttr])
  have hx1 : (op.length + 1) < 1099511627776 ∧ (op.length + 1) * 8 ≤ 140737488355328 ∧ op.length + 1 ≤ 9223372036854775807 := by omega
  have hy1 : (lp.length + 1) < 1099511627776 ∧ (lp.length + 1) * 8 ≤ 140737488355328 ∧ lp.length + 1 ≤ 9223372036854775807 := by omega
  generalize ho1 : out.set k (-1) = out1 at hst
  have hl1' : out1.length = cs.length := by rw [← ho1, List.length_set]; exact ho
  have hv1 : ∀ v ∈ out1, v < cs.length := by
   rw [← ho1]
   intro v hv'
   rcases List.mem_or_eq_of_mem_set hv' with h1 | rfl
   ·exact hv v h1
   ·omega
  refine GA.wk (Wk.mk (L := [(0, .fs 5 cs.length (cC cs)), (3, .os 0 cs.length), (14, .fs 5 cs.length (cC cs)), (15, .n .i64 cs.length), (16, .n .i64 k), (4, .os 1 op.length), (5, .os 2 lp.length), (6, .n .i64 k), (25, .n .i64 opc)]) (bl := [rowB 3 1 lp.length 0 (nC lp), rowB 3 1 op.length 0 (nC op), rowB 3 1 cs.length 0 (iC .i64 out1)]) [2, 1, 0] [] ?_ ?_ ?_) ?_
  ·simp only [WkE, WkH, go_sem, simprocAttr]
   repeat' refine and_of ?_ ?_
   all_goals first | exact wkt | skip
  ·refine .cons rfl (.k1) (.cons rfl (.k1) (.cons rfl (.put (q := k) (by simp only [go_sem, simprocAttr] <;> rfl) (by simp) rfl hkn rfl (by decide) (by omega) (fun i j h hj => ?_) (fun i j h hj => rfl)) .nil))
   obtain rfl : j = 0 := by omega
   rw [← ho1]
   unfold iC
   rw [set_getD (by omega)]
   split <;> rfl
  ·simp
  refine GA.cutQ (envOf [(0, .fs 5 cs.length (cC cs)), (3, .os 0 cs.length), (14, .fs 5 cs.length (cC cs)), (15, .n .i64 cs.length), (16, .n .i64 k), (4, .os 1 s2.op.length), (5, .os 2 s2.lp.length)]) (heapOf [rowB 3 1 s2.lp.length 0 (nC s2.lp), rowB 3 1 s2.op.length 0 (nC s2.op), rowB 3 1 cs.length 0 (iC .i64 s2.out)]) ?_ ?_
  rotate_left
  ·intro e' H' hw
   refine GA.wk hw ?_
   repeat (first | (with_reducible refine GA.go mixo rfl ?_) | simp only [go_sem, simprocAttr])
   refine ⟨_, _, _, ?_, Wk.mk [2, 1, 0] [] ?_ ?_ ?_, k + 1, s2, rfl, by omega, key, hs, rfl, rfl⟩
   ·omega
   ·simp only [WkE, WkH, go_sem, simprocAttr]
    repeat' refine and_of ?_ ?_
    all_goals first | exact wkt | skip
   ·exact .cons rfl (.k1) (.cons rfl (.k1) (.cons rfl (.k1) .nil))
   ·simp
  repeat (first | (with_reducible refine GA.go mixo rfl ?_) | simp only [go_sem, simprocAttr])
  refine ⟨fun h1 => ?_, fun h1 => ?_⟩
  ·rw [if_pos h1] at hst
   cases hst
   repeat (first | (with_reducible refine GA.go mixo rfl ?_) | simp only [hx1.1, hx1.2.1, hx1.2.2, decide_true, go_sem, simprocAttr])
   refine Wk.mk [2, 4, 0] [] ?_ ?_ ?_
   ·simp only [WkE, WkH, go_sem, simprocAttr]
    repeat' refine and_of ?_ ?_
    all_goals first | exact wkt | skip
   ·refine .cons rfl (.k1) (.cons rfl (.snoc (by simp only [go_sem, simprocAttr] <;> rfl) (by simp) rfl rfl (by decide) (by omega) (fun i j hi hj => nC_cons _ _ _ _ hi) (fun j hj => by cases Nat.lt_one_iff.1 hj; exact nC_top _ _ _) (fun i j _ hj => rfl)) (.cons rfl (.k1) .nil))
   ·simp
  rw [if_neg h1] at hst
  repeat (first | (with_reducible refine GA.go mixo rfl ?_) | simp only [go_sem, simprocAttr])
  refine ⟨fun h2 => ?_, fun h2 => ?_⟩
  ·rw [if_pos h2] at hst
   cases hst
   repeat (first | (with_reducible refine GA.go mixo rfl ?_) | simp only [hx1.1, hx1.2.1, hx1.2.2, hy1.1, hy1.2.1, hy1.2.2, decide_true, go_sem, simprocAttr])
   refine Wk.mk [6, 4, 0] [] ?_ ?_ ?_
   ·simp only [WkE, WkH, go_sem, simprocAttr]
    repeat' refine and_of ?_ ?_
    all_goals first | exact wkt | skip
   ·refine .cons rfl (.snoc (by simp only [go_sem, simprocAttr] <;> rfl) (by simp) rfl rfl (by decide) (by omega) (fun i j hi hj => nC_cons _ _ _ _ hi) (fun j hj => by cases Nat.lt_one_iff.1 hj; exact nC_top _ _ _) (fun i j _ hj => rfl)) (.cons rfl (.snoc (by simp only [go_sem, simprocAttr] <;> rfl) (by simp) rfl rfl (by decide) (by omega) (fun i j hi hj => nC_cons _ _ _ _ hi) (fun j hj => by cases Nat.lt_one_iff.1 hj; exact nC_top _ _ _) (fun i j _ hj => rfl)) (.cons rfl (.k1) .nil))
   ·simp
  rw [if_neg h2] at hst
  repeat (first | (with_reducible refine GA.go mixo rfl ?_) | simp only [go_sem, simprocAttr])
  refine ⟨fun h3 => ?_, fun h3 => ?_⟩
  ·rw [if_pos h3] at hst
   cases op with
   |nil => cases hst
   |cons b rest =>
   simp only at hst
   cases hst
   have hbk := hop b (List.mem_cons_self ..)
   have hsub : IntKind.wrap .i64 (((rest.length + 1 : Nat) : Int) - 1) = (rest.length : Int) := by rw [wrap64 (by simp only [List.length_cons] at hol; omega)]; omega
   have hz0 : (0 : Int) ≤ (rest.length : Int) := by omega
   have hz1 : (rest.length : Int) < ((rest.length + 1 : Nat) : Int) := by omega
   have hz2 : rest.length < rest.length + 1 := by omega
   have hg : (rowB 3 1 (rest.length + 1) 0 (nC (b :: rest))).get rest.length = .n .i64 (b : Int) := by
    rw [row_get1]; exact nC_top _ _ _
   have hb0 : (0 : Int) ≤ (b : Int) := by omega
   have hb1 : (b : Int) < (cs.length : Int) := by omega
   have hb2 : b + 1 ≤ cs.length := by omega
   repeat (first | (with_reducible refine GA.go mixo rfl ?_) | simp only [hsub, hz0, hz1, hz2, hg, hb0, hb1, hb2, go_sem, simprocAttr])
   refine Wk.mk [2, 1, 0] [] ?_ ?_ ?_
   ·simp only [WkE, WkH, go_sem, simprocAttr]
    repeat' refine and_of ?_ ?_
    all_goals first | exact wkt | skip
   ·refine .cons rfl (.k1) (.cons rfl (.k1) (.cons rfl (.put (q := b) (by simp only [go_sem, simprocAttr] <;> rfl) (by simp) rfl hb2 rfl (by decide) (by omega) (fun i j h hj => ?_) (fun i j h hj => rfl)) .nil))
    obtain rfl : j = 0 := by omega
    unfold iC
    rw [set_getD (by omega)]
    split <;> rfl
   ·simp
  rw [if_neg h3] at hst
  repeat (first | (with_reducible refine GA.go mixo rfl ?_) | simp only [go_sem, simprocAttr])
  refine ⟨fun h4 => ?_, fun h4 => ?_⟩
  ·rw [if_pos h4] at hst
   cases op with
   |nil => cases hst
   |cons b rest =>
   simp only at hst
   have hbk := hop b (List.mem_cons_self ..)
   have hrl : rest.length ≤ k := by simp only [List.length_cons] at hol; omega
   have hsub : IntKind.wrap .i64 (((rest.length + 1 : Nat) : Int) - 1) = (rest.length : Int) := by rw [wrap64 (by omega)]; omega
   have hz0 : (0 : Int) ≤ (rest.length : Int) := by omega
   have hz1 : (rest.length : Int) < ((rest.length + 1 : Nat) : Int) := by omega
   have hz3 : (rest.length : Int) ≤ ((rest.length + 1 : Nat) : Int) := by omega
   have hz2 : rest.length < rest.length + 1 := by omega
   have hg : (rowB 3 1 (rest.length + 1) 0 (nC (b :: rest))).get rest.length = .n .i64 (b : Int) := by
    rw [row_get1]; exact nC_top _ _ _
   have hb0 : (0 : Int) ≤ (b : Int) := by omega
   have hb1 : (b : Int) < (cs.length : Int) := by omega
   have hb2 : b + 1 ≤ cs.length := by omega
   have hb3 : b < cs.length := by omega
   have hso : ∀ v : Int, ((rowB 3 1 cs.length 0 (iC .i64 out1)).putN k [.n .i64 v]).get b = .n .i64 ((out1.set k v).getD b 0) := fun v => by
    rw [putN_get (by simp; omega), set_getD (by omega)]
    by_cases e : b = k
    ·omega
    ·rw [if_neg (by simp; omega), if_neg e, row_get1]; rfl
   have hbc0 := cC0 cs b
   (try simp only [hsub, hz0, hz1, hz2, hz3, hg, hb0, hb1, hb2, hb3, h0, h, hkn, hk1, Int.le_refl, Nat.sub_zero, go_sem, simprocAttr])
   iterate 6 (with_reducible refine GA.go mixo rfl ?_; try simp only [hsub, hz0, hz1, hz2, hz3, hg, hb0, hb1, hb2, hb3, h0, h, hkn, hk1, Int.le_refl, Nat.sub_zero, go_sem, simprocAttr])
   generalize hq : out1.set k (b : Int) = out2 at hst hso
   have hql : out2.length = cs.length := by rw [← hq, List.length_set]; exact hl1'
   have hv2 : ∀ v ∈ out2, v < (cs.length : Int) := fun v hv' => by rw [← hq] at hv'; exact mem_set_lt hv1 hb1 hv'
   generalize hq3 : (if 0 ≤ out2.getD b 0 then out2.set (out2.getD b 0).toNat (k : Int) else out2.set b (k : Int)) = out3 at hst
   refine GA.wk (Wk.mk (L := [(0, .fs 5 cs.length (cC cs)), (3, .os 0 cs.length), (14, .fs 5 cs.length (cC cs)), (15, .n .i64 cs.length), (16, .n .i64 k), (4, .os 1 rest.length), (5, .os 2 lp.length), (6, .n .i64 k), (8, .n .i64 b)]) (bl := [rowB 3 1 lp.length 0 (nC lp), rowB 3 1 rest.length 0 (nC rest), rowB 3 1 cs.length 0 (iC .i64 out2)]) [2, 1, 0] [] ?_ ?_ ?_) ?_
   ·simp only [WkE, WkH, go_sem, simprocAttr]
    repeat' refine and_of ?_ ?_
    all_goals first | exact wkt | skip
   ·refine .cons rfl (.k1) (.cons rfl (.pop (n := rest.length + 1) (by simp only [go_sem, simprocAttr] <;> rfl) rfl (by decide) (by omega) (fun i j hi _ => nC_cons _ _ _ _ hi) (fun i j _ hj => rfl)) (.cons rfl (.put (q := k) (by simp only [go_sem, simprocAttr] <;> rfl) (by simp) rfl hkn rfl (by decide) (by omega) (fun i j h hj => ?_) (fun i j h hj => rfl)) .nil))
    obtain rfl : j = 0 := by omega
    rw [← hq]
    unfold iC
    rw [set_getD (by omega)]
    split <;> rfl
   ·simp
   refine GA.cut (envOf [(0, .fs 5 cs.length (cC cs)), (3, .os 0 cs.length), (14, .fs 5 cs.length (cC cs)), (15, .n .i64 cs.length), (16, .n .i64 k), (4, .os 1 rest.length), (5, .os 2 lp.length), (8, .n .i64 b)]) (heapOf [rowB 3 1 lp.length 0 (nC lp), rowB 3 1 rest.length 0 (nC rest), rowB 3 1 cs.length 0 (iC .i64 out3)]) ?_ ?_
   ·have hg4 : (rowB 3 1 cs.length 0 (iC .i64 out2)).get b = .n .i64 (out2.getD b 0) := by rw [row_get1]; rfl
    have hvb : out2.getD b 0 < (cs.length : Int) := by
     rcases getD_mem_or (d := (0 : Int)) out2 b with h7 | h7
     ·omega
     ·exact hv2 _ h7
    repeat (first | (with_reducible refine GA.go mixo rfl ?_) | simp only [hb0, hb1, hb2, hb3, hg4, Nat.sub_zero, go_sem, simprocAttr])
    refine ⟨fun h6 => ?_, fun h6 => ?_⟩
    ·rw [if_pos h6] at hq3
     have hvv : (out2.getD b 0).toNat + 1 ≤ cs.length := by omega
     repeat (first | (with_reducible refine GA.go mixo rfl ?_) | simp only [hb0, hb1, hb2, hb3, hg4, h6, hvb, hvv, Nat.sub_zero, go_sem, simprocAttr])
     refine Wk.mk [2, 1, 0] [] ?_ ?_ ?_
     ·simp only [WkE, WkH, go_sem, simprocAttr]
      repeat' refine and_of ?_ ?_
      all_goals first | exact wkt | skip
     ·refine .cons rfl (.k1) (.cons rfl (.k1) (.cons rfl (.put (q := (out2.getD b 0).toNat) (by simp only [go_sem, simprocAttr] <;> rfl) (by simp) rfl (by omega) rfl (by decide) (by omega) (fun i j h hj => ?_) (fun i j h hj => rfl)) .nil))
      obtain rfl : j = 0 := by omega
      rw [← hq3]
      unfold iC
      rw [set_getD (by omega)]
      split <;> rfl
     ·simp
    ·rw [if_neg (by omega)] at hq3
     repeat (first | (with_reducible refine GA.go mixo rfl ?_) | simp only [hb0, hb1, hb2, hb3, hg4, Nat.sub_zero, go_sem, simprocAttr])
     refine Wk.mk [2, 1, 0] [] ?_ ?_ ?_
     ·simp only [WkE, WkH, go_sem, simprocAttr]
      repeat' refine and_of ?_ ?_
      all_goals first | exact wkt | skip
     ·refine .cons rfl (.k1) (.cons rfl (.k1) (.cons rfl (.put (q := b) (by simp only [go_sem, simprocAttr] <;> rfl) (by simp) rfl (by omega) rfl (by decide) (by omega) (fun i j h hj => ?_) (fun i j h hj => rfl)) .nil))
      obtain rfl : j = 0 := by omega
      rw [← hq3]
      unfold iC
      rw [set_getD (by omega)]
      split <;> rfl
     ·simp
   repeat (first | (with_reducible refine GA.go mixo rfl ?_) | simp only [hb0, hb1, hb2, hb3, hbc0, go_sem, simprocAttr])
   refine ⟨fun h6 => ?_, fun h6 => ?_⟩
   ·rw [if_pos h6] at hst
    cases lp with
    |nil => cases hst
    |cons l lrest =>
    simp only at hst
    cases hst
    have hll2 : lrest.length ≤ k := by simp only [List.length_cons] at hll; omega
    have hsub2 : IntKind.wrap .i64 (((lrest.length + 1 : Nat) : Int) - 1) = (lrest.length : Int) := by rw [wrap64 (by omega)]; omega
    have hw0 : (0 : Int) ≤ (lrest.length : Int) := by omega
    have hw1 : (lrest.length : Int) ≤ ((lrest.length + 1 : Nat) : Int) := by omega
    repeat (first | (with_reducible refine GA.go mixo rfl ?_) | simp only [hsub2, hw0, hw1, Int.le_refl, go_sem, simprocAttr])
    refine Wk.mk [2, 1, 0] [] ?_ ?_ ?_
    ·simp only [WkE, WkH, go_sem, simprocAttr]
     repeat' refine and_of ?_ ?_
     all_goals first | exact wkt | skip
    ·exact .cons rfl (.pop (n := lrest.length + 1) (by simp only [go_sem, simprocAttr] <;> rfl) rfl (by decide) (by omega) (fun i j hi _ => nC_cons _ _ _ _ hi) (fun i j _ hj => rfl)) (.cons rfl (.k1) (.cons rfl (.k1) .nil))
    ·simp
   ·rw [if_neg h6] at hst
    cases hst
    repeat (first | (with_reducible refine GA.go mixo rfl ?_) | simp only [go_sem, simprocAttr])
    refine Wk.mk [2, 1, 0] [] ?_ ?_ ?_
    ·simp only [WkE, WkH, go_sem, simprocAttr]
     repeat' refine and_of ?_ ?_
     all_goals first | exact wkt | skip
    ·exact .cons rfl (.k1) (.cons rfl (.k1) (.cons rfl (.k1) .nil))
    ·simp
  rw [if_neg h4] at hst
  repeat (first | (with_reducible refine GA.go mixo rfl ?_) | simp only [go_sem, simprocAttr])
  refine ⟨fun h5 => ?_, fun h5 => ?_⟩
  ·rw [if_pos h5] at hst
   cases lp with
   |nil => cases hst
   |cons b rest =>
   simp only at hst
   cases hst
   have hbk := hlp b (List.mem_cons_self ..)
   have hrl : rest.length ≤ k := by simp only [List.length_cons] at hll; omega
   have hsub : IntKind.wrap .i64 (((rest.length + 1 : Nat) : Int) - 1) = (rest.length : Int) := by rw [wrap64 (by omega)]; omega
   have hz0 : (0 : Int) ≤ (rest.length : Int) := by omega
   have hz1 : (rest.length : Int) < ((rest.length + 1 : Nat) : Int) := by omega
   have hz2 : rest.length < rest.length + 1 := by omega
   have hg : (rowB 3 1 (rest.length + 1) 0 (nC (b :: rest))).get rest.length = .n .i64 (b : Int) := by
    rw [row_get1]; exact nC_top _ _ _
   repeat (first | (with_reducible refine GA.go mixo rfl ?_) | simp only [hsub, hz0, hz1, hz2, hg, h0, h, hkn, hk1, go_sem, simprocAttr])
   refine Wk.mk [2, 1, 0] [] ?_ ?_ ?_
   ·simp only [WkE, WkH, go_sem, simprocAttr]
    repeat' refine and_of ?_ ?_
    all_goals first | exact wkt | skip
   ·refine .cons rfl (.k1) (.cons rfl (.k1) (.cons rfl (.put (q := k) (by simp only [go_sem, simprocAttr] <;> rfl) (by simp) rfl hkn rfl (by decide) (by omega) (fun i j h hj => ?_) (fun i j h hj => rfl)) .nil))
    obtain rfl : j = 0 := by omega
    unfold iC
    rw [set_getD (by omega)]
    split <;> rfl
   ·simp
  ·rw [if_neg h5] at hst
   cases hst
   repeat (first | (with_reducible refine GA.go mixo rfl ?_) | simp only [go_sem, simprocAttr])
   refine Wk.mk [2, 1, 0] [] ?_ ?_ ?_
   ·simp only [WkE, WkH, go_sem, simprocAttr]
    repeat' refine and_of ?_ ?_
    all_goals first | exact wkt | skip
   ·exact .cons rfl (.k1) (.cons rfl (.k1) (.cons rfl (.k1) .nil))
   ·simp
 ·have hkn : k = cs.length := by omega
  subst hkn
  rw [List.drop_length, pairsGo] at hs
  cases hs
  have hg : ∀ (o : List Int) (i : Nat), (rowB 3 1 cs.length 0 (iC .i64 o)).get i = .n .i64 (o.getD i 0) := fun o i => by rw [row_get1]; rfl
  repeat (first | (with_reducible refine GA.go mixo rfl ?_) | simp only [go_sem, simprocAttr])
  refine GA.loop (I := fun mm e H => ∃ (k : Nat) (o : List Int), mm = cs.length - k ∧ k ≤ cs.length ∧ o.length = cs.length ∧ (∀ v ∈ o, v < cs.length) ∧ leavesGo (cs.drop k) k o = some pt ∧ e = envOf [(3, .os 0 cs.length), (109, .fs 5 cs.length (cC cs)), (110, .n .i64 cs.length), (111, .n .i64 k)] ∧ H = heapOf [rowB 3 1 cs.length 0 (iC .i64 o)]) (Wk.mk [0] [] ?_ ?_ ?_) ⟨0, out, rfl, by omega, ho, hv, hp2, rfl, rfl⟩ ?_
  ·simp only [WkE, WkH, go_sem, simprocAttr]
   repeat' refine and_of ?_ ?_
   all_goals first | exact wkt | skip
  ·exact .cons rfl (.k1) .nil
  ·simp
  rintro mm e H ⟨k, o, rfl, hk, ho, hv, hs, rfl, rfl⟩
  repeat (first | (with_reducible refine GA.go mixo rfl ?_) | simp only [go_sem, simprocAttr])
  refine ⟨fun h => ?_, fun h => ?_⟩
  ·have hkn : k < cs.length := by omega
   have h0 : (0 : Int) ≤ (k : Int) := by omega
   have hk1 : k + 1 ≤ cs.length := hkn
   rw [drop_nx (d := (0, 0, 0, 0, 0)) hkn, leavesGo] at hs
   have hcc0 := cC0 cs k
   have hcc1 := cC1 cs k
   have hcc2 := cC2 cs k
   have hcc3 := cC3 cs k
   have hcc4 := cC4 cs k
   generalize cs.getD k (0, 0, 0, 0, 0) = x at hs hcc0 hcc1 hcc2 hcc3 hcc4
   obtain ⟨opc, to, a, b, arg⟩ := x
   simp only at hs
   repeat (first | (with_reducible refine GA.go mixo rfl ?_) | simp only [h0, h, hcc0, hcc1, hcc2, hcc3, hcc4, go_sem, simprocAttr])
   refine ⟨fun h1 => ?_, fun h1 => ?_⟩
   ·rw [if_pos h1] at hs
    split at hs
    rotate_left
    ·cases hs
    rename_i hge
    have hlt : o.getD k 0 < (cs.length : Int) := by
     rcases getD_mem_or (d := (0 : Int)) o k with h7 | h7
     ·omega
     ·exact hv _ h7
    have hltn : (o.getD k 0).toNat < cs.length := by omega
    have hlt2 : o.getD (o.getD k 0).toNat 0 < (cs.length : Int) := by
     rcases getD_mem_or (d := (0 : Int)) o (o.getD k 0).toNat with h7 | h7
     ·omega
     ·exact hv _ h7
    repeat (first | (with_reducible refine GA.go mixo rfl ?_) | simp only [h0, h, hkn, hk1, hg, hge, hlt, hltn, go_sem, simprocAttr])
    refine ⟨_, _, _, ?_, Wk.mk [0] [] ?_ ?_ ?_, k + 1, o.set k (o.getD (o.getD k 0).toNat 0), rfl, by omega, by rw [List.length_set]; exact ho, fun v hv' => mem_set_lt hv hlt2 hv', hs, rfl, rfl⟩
    ·omega
    ·simp only [WkE, WkH, go_sem, simprocAttr]
     repeat' refine and_of ?_ ?_
     all_goals first | exact wkt | skip
    ·refine .cons rfl (.put (q := k) (by simp only [go_sem, simprocAttr] <;> rfl) (by simp) rfl hkn rfl (by decide) (by omega) (fun i j h hj => ?_) (fun i j h hj => rfl)) .nil
     obtain rfl : j = 0 := by omega
     unfold iC
     rw [set_getD (by omega)]
     split <;> rfl
    ·simp
   ·rw [if_neg h1] at hs
    repeat (first | (with_reducible refine GA.go mixo rfl ?_) | simp only [go_sem, simprocAttr])
    refine ⟨_, _, _, ?_, Wk.mk [0] [] ?_ ?_ ?_, k + 1, o, rfl, by omega, ho, hv, hs, rfl, rfl⟩
    ·omega
    ·simp only [WkE, WkH, go_sem, simprocAttr]
     repeat' refine and_of ?_ ?_
     all_goals first | exact wkt | skip
    ·exact .cons rfl (.k1) .nil
    ·simp
  ·have hkn : k = cs.length := by omega
   subst hkn
   rw [List.drop_length, leavesGo] at hs
   cases hs
   rw [ho]
   repeat (first | (with_reducible refine GA.go mixo rfl ?_) | simp only [go_sem, simprocAttr])
   refine ⟨[_], rfl, .o (x := _) (by simp only [go_sem, simprocAttr]; rfl) (by rfl) (by rfl) (by rfl) (by decide) (Nat.le_refl _) (Nat.le_refl _) (fun i j _ hj => row_get i j hj) (fun i j _ _ => rfl) rfl .nil⟩
end Go.Proofs.YtidhfimbnjaceaaGreat

namespace Go.Proofs.YtidhfimbnjaceaaGreat
open Go.RowKit
set_option linter.unusedVariables false
set_option linter.unusedSimpArgs false
structure WSt (F : Type) where
 out : List In
 fs : List F
 op : List (List F)
def dIn : In := (0, 0, 0, 0, 0)
def woF {F : Type} (D : In → F → Bool) (fs : List F) (xs : List In) : List F := fs.filter fun f => !xs.any fun x => D x f
def boF {F : Type} (E : F → F → Bool) (fs t : List F) : List F := fs.filter fun f => t.any fun g => E f g
def walkSw {F : Type} (D : In → F → Bool) (E : F → F → Bool) (cs : List In) (pt : List Int) (i : Nat) (op : Int) (fs : List F) (st : List (List F)) : Option (List F × List (List F)) :=
 if op = 27 then some (fs, fs :: st)
 else if op = 28 then match st with
  |t :: r => some (t, fs :: r)
  |[] => none
 else if op = 29 then (if (i : Int) ≤ pt.getD i 0 ∧ pt.getD i 0 ≤ cs.length then some (woF D fs ((cs.take (pt.getD i 0).toNat).drop i), st) else none)
 else if op = 31 then (if 0 ≤ pt.getD i 0 ∧ pt.getD i 0 ≤ i then
   (if (cs.getD (pt.getD i 0).toNat dIn).1 = 29 then some (woF D fs ((cs.take i).drop (pt.getD i 0).toNat), st)
   else match st with
    |t :: r => some (boF E fs t, r)
    |[] => none)
  else none)
 else some (fs, st)
def walkStep {F : Type} (D : In → F → Bool) (E : F → F → Bool) (V : In → List F → In × Bool × List F) (cs : List In) (pt : List Int) (i : Nat) (x : In) (s : WSt F) : Option (WSt F) :=
 if (V x s.fs).2.1 = true then (walkSw D E cs pt i x.1 s.fs s.op).map fun q => ⟨s.out ++ [(V x s.fs).1], woF D q.1 [(V x s.fs).1] ++ (V x s.fs).2.2, q.2⟩
 else some s
def walkGo {F : Type} (D : In → F → Bool) (E : F → F → Bool) (V : In → List F → In × Bool × List F) (cs : List In) (pt : List Int) : List In → Nat → WSt F → Option (WSt F)
 |[], _, s => some s
 |x :: l, i, s => (walkStep D E V cs pt i x s).bind (walkGo D E V cs pt l (i + 1))
def opOk (x : In) : Prop := 0 ≤ x.1 ∧ x.1 < 39
structure WInv {F : Type} (pf : F → Prop) (n k : Nat) (s : WSt F) : Prop where
 nout : s.out.length ≤ k
 nop : s.op.length ≤ k
 nfs : s.fs.length ≤ n + k
 fs : ∀ f ∈ s.fs, pf f
 nst : ∀ t ∈ s.op, t.length ≤ n + k
 st : ∀ t ∈ s.op, ∀ f ∈ t, pf f
theorem woF_mem {F : Type} {D : In → F → Bool} {fs : List F} {xs : List In} {f : F} (h : f ∈ woF D fs xs) : f ∈ fs := (List.mem_filter.1 h).1
theorem boF_mem {F : Type} {E : F → F → Bool} {fs t : List F} {f : F} (h : f ∈ boF E fs t) : f ∈ fs := (List.mem_filter.1 h).1
theorem woF_len {F : Type} (D : In → F → Bool) (fs : List F) (xs : List In) : (woF D fs xs).length ≤ fs.length := List.length_filter_le _ _
theorem boF_len {F : Type} (E : F → F → Bool) (fs t : List F) : (boF E fs t).length ≤ fs.length := List.length_filter_le _ _
theorem walkSw_inv {F : Type} {D : In → F → Bool} {E : F → F → Bool} {pf : F → Prop} {cs : List In} {pt : List Int} {i : Nat} {op : Int} {n k : Nat} {out : List In} {fs : List F} {st : List (List F)} (h : WInv pf n k ⟨out, fs, st⟩) {q : List F × List (List F)} (hq : walkSw D E cs pt i op fs st = some q) :
  q.1.length ≤ n + k ∧ (∀ f ∈ q.1, pf f) ∧ q.2.length ≤ k + 1 ∧ (∀ t ∈ q.2, t.length ≤ n + k) ∧ ∀ t ∈ q.2, ∀ f ∈ t, pf f := by
 obtain ⟨h1, h2, h3, h4, h5, h6⟩ := h
 simp only at h1 h2 h3 h4 h5 h6
 have keep : fs.length ≤ n + k ∧ (∀ f ∈ fs, pf f) ∧ st.length ≤ k + 1 ∧ (∀ t ∈ st, t.length ≤ n + k) ∧ ∀ t ∈ st, ∀ f ∈ t, pf f := ⟨h3, h4, by omega, h5, h6⟩
 have consL : ∀ {r : List (List F)}, (∀ t ∈ r, t.length ≤ n + k) → ∀ t ∈ fs :: r, t.length ≤ n + k := fun hr t ht => by
  rcases List.mem_cons.1 ht with rfl | ht
  ·exact h3
  ·exact hr t ht
 have consF : ∀ {r : List (List F)}, (∀ t ∈ r, ∀ f ∈ t, pf f) → ∀ t ∈ fs :: r, ∀ f ∈ t, pf f := fun hr t ht => by
  rcases List.mem_cons.1 ht with rfl | ht
  ·exact h4
  ·exact hr t ht
 have wo : ∀ xs, (woF D fs xs).length ≤ n + k ∧ ∀ f ∈ woF D fs xs, pf f := fun xs => ⟨Nat.le_trans (woF_len D fs xs) h3, fun f hf => h4 f (woF_mem hf)⟩
 unfold walkSw at hq
 split at hq
 ·cases hq; exact ⟨h3, h4, by simp; omega, consL h5, consF h6⟩
 split at hq
 ·split at hq
  ·rename_i t r
   cases hq
   refine ⟨h5 t (List.mem_cons_self ..), h6 t (List.mem_cons_self ..), by simp at h2 ⊢; omega, consL (fun t ht => h5 t (List.mem_cons_of_mem _ ht)), consF (fun t ht => h6 t (List.mem_cons_of_mem _ ht))⟩
  ·cases hq
 split at hq
 ·split at hq
  ·cases hq; exact ⟨(wo _).1, (wo _).2, keep.2.2⟩
  ·cases hq
 split at hq
 ·split at hq
  ·split at hq
   ·cases hq; exact ⟨(wo _).1, (wo _).2, keep.2.2⟩
   ·split at hq
    ·rename_i t r
     cases hq
     exact ⟨Nat.le_trans (boF_len E fs t) h3, fun f hf => h4 f (boF_mem hf), by simp at h2 ⊢; omega, fun t ht => h5 t (List.mem_cons_of_mem _ ht), fun t ht => h6 t (List.mem_cons_of_mem _ ht)⟩
    ·cases hq
  ·cases hq
 ·cases hq; exact keep
theorem walkStep_inv {F : Type} {D : In → F → Bool} {E : F → F → Bool} {V : In → List F → In × Bool × List F} {pf : F → Prop} {cs : List In} {pt : List Int} {i : Nat} {x : In} {n k : Nat} {s s2 : WSt F} (h : WInv pf n k s) (hV : ∀ fs : List F, (∀ f ∈ fs, pf f) → (V x fs).2.2.length ≤ 1 ∧ ∀ f ∈ (V x fs).2.2, pf f) (hst : walkStep D E V cs pt i x s = some s2) : WInv pf n (k + 1) s2 := by
 obtain ⟨out, fs, st⟩ := s
 unfold walkStep at hst
 simp only at hst
 split at hst
 ·obtain ⟨q, hq, rfl⟩ := Option.map_eq_some_iff.1 hst
  obtain ⟨q1, q2, q3, q4, q5⟩ := walkSw_inv h hq
  obtain ⟨v1, v2⟩ := hV fs h.fs
  have hl := woF_len D q.1 [(V x fs).1]
  have ho : out.length ≤ k := h.nout
  refine ⟨by simp only [List.length_append, List.length_cons, List.length_nil]; omega, q3, by simp only [List.length_append]; omega, fun f hf => ?_, fun t ht => by have := q4 t ht; omega, q5⟩
  rcases List.mem_append.1 hf with hf | hf
  ·exact q2 f (woF_mem hf)
  ·exact v2 f hf
 ·cases hst
  exact ⟨by have := h.nout; omega, by have := h.nop; omega, by have := h.nfs; omega, h.fs, fun t ht => by have := h.nst t ht; omega, h.st⟩
end Go.Proofs.YtidhfimbnjaceaaGreat

namespace Go.Proofs.YtidhfimbnjaceaaGreat
open Go.RowKit
set_option linter.unusedVariables false
set_option linter.unusedSimpArgs false
def bF (f : Nat → Bool) (i _j : Nat) : AV := .b (f i)
theorem rcopy_has {na : Nat} {ra : Nat → Nat → AV} {regs par : Int} {cs : List In} (hna : na < 1000000) (hra : ∀ i j, i < na → j < 2 → (ra i j).cell = true) (hcs : cs.length < 1000000) :
  Has Tryz.prog 28 [codeV na ra regs par cs] [.a [.o 93 2 na 0 ra, .v (.n .i64 regs), .v (.n .i64 par), .o 37 5 cs.length 0 (cC cs)]] := by
 refine hasQ_of' mixo x43ok ⟨by simp, by decide⟩ ?_
 simp only [argE, codeV]
 have hl : na * 2 < 1099511627776 ∧ na * 16 ≤ 140737488355328 ∧ na ≤ 9223372036854775807 := by omega
 have hm : cs.length * 5 < 1099511627776 ∧ cs.length * 40 ≤ 140737488355328 ∧ cs.length ≤ 9223372036854775807 := by omega
 repeat (first | (with_reducible refine GA.go mixo rfl ?_) | simp only [hl.1, hl.2.1, hl.2.2, hm.1, hm.2.1, hm.2.2, decide_true, go_sem, simprocAttr])
 refine ⟨[_], rfl, .a (by simp) (.o (x := _) (by simp only [go_sem, simprocAttr]; rfl) (by rfl) (by rfl) (by rfl) (by rfl) (by decide) (by simp only [go_sem, simprocAttr] <;> omega) (by simp only [go_sem, simprocAttr] <;> omega) (fun i j hi hj => fn_row hi hj (by omega)) hra (.v rfl rfl (.v rfl rfl (.o (x := _) (by simp only [go_sem, simprocAttr]; rfl) (by rfl) (by rfl) (by rfl) (by rfl) (by decide) (by simp only [go_sem, simprocAttr] <;> omega) (by simp only [go_sem, simprocAttr] <;> omega) (fun i j hi hj => fn_row hi hj (by omega)) (fun i j _ hj => cC_cell i hj) .nil)))) rfl .nil⟩
theorem fn_row1 {x : AB} {n : Nat} {row : Nat → Nat → AV} {i j : Nat} (hi : i < n) (hj : j < 1) (hn : n < 2 ^ 40) : (x.app 0 (.fn n fun i => row (i / 1) (i % 1))).get (i * 1 + j) = row i j := by
 have := fn_row (x := x) (esz := 1) (row := row) hi hj (by omega)
 rwa [Nat.mul_one] at this
theorem WkB.lstw {r : Nat → Option Nat} {M : List Nat} {H : AH} {b esz ty : Nat} {l : List AV} {x : AB} (hx : H.at b = some x) (h1 : x.ty = ty) (h2 : x.esz = esz) (h3 : x.opn = false) (h4 : x.size = l.length) (h5 : x.fzn = 0) (hM : M.contains b = false) (hl : l.length < 1000000) (hg : ∀ i, i < l.length → Wv r M H (x.get i) (l[i]?.getD .u)) : WkB r M H b (lstB esz ty l) := by
 refine ⟨x, hx, h1.symm, h2.symm, h3.symm, rfl, .inl h4.symm, by rw [if_neg (by simpa using hM), h5]; exact Nat.zero_le _, fun i hi => ?_⟩
 have hi' : i < l.length := hi
 rw [lst_get esz ty l i hl]
 exact hg i hi'
theorem lt4w {i : Nat} (h : i < 4) : i = 0 ∨ i = 1 ∨ i = 2 ∨ i = 3 := by omega
theorem lt2w {i : Nat} (h : i < 2) : i = 0 ∨ i = 1 := by omega
theorem WkB.w4 {r : Nat → Option Nat} {M : List Nat} {H : AH} {b esz ty : Nat} {l : List AV} {x : AB} (hx : H.at b = some x := by simp only [go_sem, simprocAttr] <;> rfl) (h1 : x.ty = ty := by rfl) (h2 : x.esz = esz := by rfl) (h3 : x.opn = false := by rfl) (h4 : x.size = l.length := by rfl) (h5 : x.fzn = 0 := by rfl) (hM : M.contains b = false := by rfl) (hl : l.length < 1000000 := by simp)
  (hg : ∀ i, i < l.length → Wv r M H (x.get i) (l[i]?.getD .u) := by intro i hi; rcases (show i = 0 ∨ i = 1 ∨ i = 2 ∨ i = 3 from lt4w hi) with rfl | rfl | rfl | rfl <;> (simp only [go_sem, simprocAttr]; first | exact Wv.same rfl | exact Wv.os rfl)) : WkB r M H b (lstB esz ty l) := .lstw hx h1 h2 h3 h4 h5 hM hl hg
theorem WkB.w2 {r : Nat → Option Nat} {M : List Nat} {H : AH} {b esz ty : Nat} {l : List AV} {x : AB} (hx : H.at b = some x := by simp only [go_sem, simprocAttr] <;> rfl) (h1 : x.ty = ty := by rfl) (h2 : x.esz = esz := by rfl) (h3 : x.opn = false := by rfl) (h4 : x.size = l.length := by rfl) (h5 : x.fzn = 0 := by rfl) (hM : M.contains b = false := by rfl) (hl : l.length < 1000000 := by simp)
  (hg : ∀ i, i < l.length → Wv r M H (x.get i) (l[i]?.getD .u) := by intro i hi; rcases (show i = 0 ∨ i = 1 from lt2w hi) with rfl | rfl <;> (simp only [go_sem, simprocAttr]; exact Wv.os rfl)) : WkB r M H b (lstB esz ty l) := .lstw hx h1 h2 h3 h4 h5 hM hl hg
theorem lt2 {i : Nat} (h : i < 2) : i = 0 ∨ i = 1 := by omega
end Go.Proofs.YtidhfimbnjaceaaGreat

namespace Go.Proofs.YtidhfimbnjaceaaGreat
open Go.RowKit
set_option linter.unusedVariables false
set_option linter.unusedSimpArgs false
def eqIn (f g : In) : Bool := decide (f = g)
theorem eqIn_eq (f g : In) : eqIn f g = (decide (f.1 = g.1) && (decide (f.2.1 = g.2.1) && (decide (f.2.2.1 = g.2.2.1) && (decide (f.2.2.2.1 = g.2.2.2.1) && decide (f.2.2.2.2 = g.2.2.2.2))))) := by
 obtain ⟨a, b, c, d, e⟩ := f
 obtain ⟨a', b', c', d', e'⟩ := g
 unfold eqIn
 rw [Bool.eq_iff_iff]
 simp [Prod.ext_iff]
theorem indexV_has (l : List (In)) (f : In) (hl : l.length < 1000000) : Has Tryz.prog 141 [.fs 5 l.length (cC l), insV f] [.v (.n .i64 (idx (fun g => eqIn f g) l 0))] := by
 refine hasQ_of' mixo x70ok ⟨by simp, by decide⟩ ?_
 simp only [argE, insV]
 repeat (first | (with_reducible refine GA.go mixo rfl ?_) | simp only [go_sem, simprocAttr])
 refine GA.loop (I := fun m e H => ∃ k : Nat, m = l.length - k ∧ k ≤ l.length ∧ idx (fun g => eqIn f g) l 0 = idx (fun g => eqIn f g) (l.drop k) k ∧ e = envOf [(0, .fs 5 l.length (cC l)), (3, .p 0 0), (6, .fs 5 l.length (cC l)), (7, .n .i64 l.length), (8, .n .i64 k)] ∧ H = heapOf [lstB 0 111 [.n .i64 f.1, .n .i64 f.2.1, .n .i64 f.2.2.1, .n .i64 f.2.2.2.1, .n .u32 f.2.2.2.2]]) (Wk.mk [0] [] ?_ ?_ ?_) ⟨0, rfl, by omega, rfl, rfl, rfl⟩ ?_
 ·simp only [WkE, WkH, go_sem, simprocAttr]
  repeat' refine and_of ?_ ?_
  all_goals first | exact wkt | skip
 ·exact .cons rfl (.ls) .nil
 ·simp
 rintro m e H ⟨k, rfl, hk, hs, rfl, rfl⟩
 repeat (first | (with_reducible refine GA.go mixo rfl ?_) | simp only [go_sem, simprocAttr])
 refine ⟨fun h => ?_, fun h => ?_⟩
 ·have hk' : k < l.length := by omega
  have h0 : (0 : Int) ≤ (k : Int) := by omega
  rw [drop_nx (d := (0, 0, 0, 0, 0)) hk', idx] at hs
  repeat (first | (with_reducible refine GA.go mixo rfl ?_) | simp only [h0, h, cC0, cC1, cC2, cC3, cC4, eqS, eqFs, partA, andO, SH.row, go_sem, simprocAttr])
  refine ⟨fun h1 => ?_, fun h1 => ?_⟩
  ·repeat (first | (with_reducible refine GA.go mixo rfl ?_) | simp only [go_sem, simprocAttr])
   rw [if_pos (by rw [eqIn_eq]; simp only [Bool.and_eq_true, decide_eq_true_eq]; exact h1)] at hs
   exact has_end1 (by rw [hs]) rfl
  ·repeat (first | (with_reducible refine GA.go mixo rfl ?_) | simp only [go_sem, simprocAttr])
   rw [if_neg (by rw [eqIn_eq, h1]; simp)] at hs
   refine ⟨_, _, _, ?_, Wk.mk [0] [] ?_ ?_ ?_, k + 1, rfl, by omega, hs, rfl, rfl⟩
   ·omega
   ·simp only [WkE, WkH, go_sem, simprocAttr]
    repeat' refine and_of ?_ ?_
    all_goals first | exact wkt | skip
   ·exact .cons rfl (.lst (by first | (simp only [go_sem, simprocAttr]; done) | (simp only [go_sem, simprocAttr]; rfl) | rfl) rfl (by simp) rfl) .nil
   ·simp
 ·repeat (first | (with_reducible refine GA.go mixo rfl ?_) | simp only [go_sem, simprocAttr])
  have : k = l.length := by omega
  subst this
  rw [List.drop_length, idx] at hs
  exact has_end1 (by rw [hs]) rfl
theorem containsV_has (l : List (In)) (f : In) (hl : l.length < 1000000) : Has Tryz.prog 117 [.fs 5 l.length (cC l), insV f] [.v (.b (l.any fun g => eqIn f g))] := by
 refine hasQ_of' mixo x69ok ⟨by simp, by decide⟩ ?_
 simp only [argE, insV]
 repeat (first | (with_reducible refine GA.go mixo rfl ?_) | simp only [go_sem, simprocAttr])
 refine gcall_has [] (.cons (.rfl rfl) (.cons (.rfl rfl) .nil)) (indexV_has l f hl) (by simp only [go_sem, simprocAttr]) ?_
 repeat (first | (with_reducible refine GA.go mixo rfl ?_) | simp only [go_sem, simprocAttr])
 exact has_end1 (by rw [← idx_contains _ l 0]) rfl
theorem bothV_has (l m : List (In)) (hl : l.length < 1000000) (hm : m.length < 1000000) : Has Tryz.prog 100 [.fs 5 l.length (cC l), .fs 5 m.length (cC m)]
  [.o 111 5 (l.filter fun f => m.any fun g => eqIn f g).length 0 (cC (l.filter fun f => m.any fun g => eqIn f g))] := by
 refine hasQ_of' mixo x67ok ⟨by simp, by decide⟩ ?_
 generalize hp : (fun f : In => m.any fun g => eqIn f g) = p
 simp only [argE]
 repeat (first | (with_reducible refine GA.go mixo rfl ?_) | simp only [go_sem, simprocAttr])
 refine GA.wk (Wk.nil 5 5 111 (by simp only [go_sem, simprocAttr]) (by decide) (by simp only [go_sem, simprocAttr])) ?_
 simp only [env_put]
 refine GA.loop (I := fun mm e H => ∃ (k : Nat) (xs : List (In)), mm = l.length - k ∧ k ≤ l.length ∧ xs = (l.take k).filter p ∧ e = envOf [(1, .fs 5 m.length (cC m)), (8, .fs 5 l.length (cC l)), (9, .n .i64 l.length), (10, .n .i64 k), (5, .os 0 xs.length)] ∧ H = heapOf [rowB 111 5 xs.length 0 (cC xs)]) (Wk.mk [0] [] ?_ ?_ ?_) ⟨0, [], rfl, by omega, rfl, rfl, rfl⟩ ?_
 ·simp only [WkE, WkH, go_sem, simprocAttr]
  repeat' refine and_of ?_ ?_
  all_goals first | exact wkt | skip
 ·exact .cons rfl (.rows (by simp only [go_sem, simprocAttr]; rfl) rfl rfl rfl (by decide) (by decide) (by decide) (fun i j h => by simp at h) (fun i j h => by simp at h)) .nil
 ·simp
 rintro mm e H ⟨k, xs, rfl, hk, hs, rfl, rfl⟩
 repeat (first | (with_reducible refine GA.go mixo rfl ?_) | simp only [go_sem, simprocAttr])
 refine ⟨fun h => ?_, fun h => ?_⟩
 ·have hk' : k < l.length := by omega
  have h0 : (0 : Int) ≤ (k : Int) := by omega
  repeat (first | (with_reducible refine GA.go mixo rfl ?_) | simp only [h0, h, cC0, cC1, cC2, cC3, cC4, go_sem, simprocAttr])
  have hlt : xs.length ≤ l.length := by rw [hs]; exact Nat.le_trans (List.length_filter_le _ _) (by rw [List.length_take]; exact Nat.min_le_right _ _)
  refine gcall_has [] (.cons (.rfl rfl) (.cons (.rfl rfl) .nil)) (containsV_has m (l.getD k (0, 0, 0, 0, 0)) hm) (by simp only [go_sem, simprocAttr]) ?_
  have hpk : (m.any fun g => eqIn (l.getD k (0, 0, 0, 0, 0)) g) = p (l.getD k (0, 0, 0, 0, 0)) := by rw [← hp]
  rw [hpk]
  have htk : (l.take (k + 1)).filter p = xs ++ (if p (l.getD k (0, 0, 0, 0, 0)) = true then [l.getD k (0, 0, 0, 0, 0)] else []) := by
   rw [take_nx (d := (0, 0, 0, 0, 0)) hk', List.filter_append, ← hs]
   simp only [List.filter_cons, List.filter_nil]
  have hlim : (xs.length + 1) * 5 < 1099511627776 ∧ (xs.length + 1) * 40 ≤ 140737488355328 ∧ xs.length + 1 ≤ 9223372036854775807 := by omega
  repeat (first | (with_reducible refine GA.go mixo rfl ?_) | simp only [go_sem, simprocAttr])
  refine ⟨fun h1 => ?_, fun h1 => ?_⟩
  ·rw [if_pos h1] at htk
   repeat (first | (with_reducible refine GA.go mixo rfl ?_) | simp only [hlim.1, hlim.2.1, hlim.2.2, decide_true, go_sem, simprocAttr])
   refine ⟨_, _, _, ?_, Wk.mk [3] [] ?_ ?_ ?_, k + 1, xs ++ [l.getD k (0, 0, 0, 0, 0)], rfl, by omega, htk.symm, rfl, rfl⟩
   ·omega
   ·simp only [WkE, WkH, go_sem, simprocAttr]
    repeat' refine and_of ?_ ?_
    all_goals first | exact wkt | skip
   ·refine .cons rfl (.rows (x := _) (by simp only [go_sem, simprocAttr]; rfl) (by rfl) (by rfl) (by rfl) ?_ (Nat.le_refl _) (by decide) ?_ (fun i j _ hj => by rcases lt5 hj with rfl | rfl | rfl | rfl | rfl <;> rfl)) .nil
    ·simp only [go_sem, simprocAttr]; omega
    ·simp only [go_sem, simprocAttr]
     exact snoc_get rfl (by omega) (fun i j hi _ => by unfold cC; rw [getD_app_lt hi]) (fun j hj => by
      have hj2 := lt5 hj
      unfold cC
      rw [getD_app_eq]
      rcases hj2 with rfl | rfl | rfl | rfl | rfl <;> rfl)
   ·simp
  ·rw [if_neg (by rw [h1]; simp), List.append_nil] at htk
   repeat (first | (with_reducible refine GA.go mixo rfl ?_) | simp only [go_sem, simprocAttr])
   refine ⟨_, _, _, ?_, Wk.mk [0] [] ?_ ?_ ?_, k + 1, xs, rfl, by omega, htk.symm, rfl, rfl⟩
   ·omega
   ·simp only [WkE, WkH, go_sem, simprocAttr]
    repeat' refine and_of ?_ ?_
    all_goals first | exact wkt | skip
   ·exact .cons rfl (.k5) .nil
   ·simp
 ·repeat (first | (with_reducible refine GA.go mixo rfl ?_) | simp only [go_sem, simprocAttr])
  have : k = l.length := by omega
  subst this
  rw [List.take_length] at hs
  subst hs
  refine ⟨[_], rfl, .o (x := _) (by simp only [go_sem, simprocAttr]; rfl) (by rfl) (by rfl) (by rfl) (by decide) (Nat.le_refl _) (Nat.le_refl _) (fun i j _ hj => row_get i j hj) (fun i j _ hj => by rcases lt5 hj with rfl | rfl | rfl | rfl | rfl <;> rfl) rfl .nil⟩
theorem without1V_has (x : In) (f : In) (g : FuncId) (c1 c2 : List AV) (vv : AV) (D : Bool) (hd : Has Tryz.prog g (c1 ++ [insV x, insV f] ++ c2) [.v (.b D)]) (hpu : (c1.all (AV.pu 2) && c2.all (AV.pu 2)) = true) :
  Has Tryz.prog 116 [insV x, .fp 2 (fun j => [AV.f g c1 c2, vv][j]?.getD .u) 0, .fp 5 (fun j => [AV.n .i64 f.1, AV.n .i64 f.2.1, AV.n .i64 f.2.2.1, AV.n .i64 f.2.2.2.1, AV.n .u32 f.2.2.2.2][j]?.getD .u) 0] [.v (.b D)] := by
 refine hasQ_of' mixo x68ok ⟨by simp, by decide⟩ ?_
 simp only [argE, insV]
 repeat (first | (with_reducible refine GA.go mixo rfl ?_) | simp only [go_sem, simprocAttr])
 refine gcall_has [] (fargs := c1 ++ [insV x, insV f] ++ c2) ?_ hd (by simp only [next_new, heap_next, List.length_nil]; decide) ?_
 ·refine Cvs.same ?_
  simp only [List.all_append, Bool.and_eq_true] at hpu ⊢
  exact ⟨⟨all_pu_succ hpu.1, rfl⟩, all_pu_succ hpu.2⟩
 repeat (first | (with_reducible refine GA.go mixo rfl ?_) | simp only [go_sem, simprocAttr])
 exact has_end1 rfl rfl
theorem withoutV_has (l : List (In)) (cs : List In) (g : FuncId) (c1 c2 : List AV) (vv : AV) (D : In → In → Bool) (hd : ∀ x ∈ cs, ∀ f, Has Tryz.prog g (c1 ++ [insV x, insV f] ++ c2) [.v (.b (D x f))]) (hpu : (c1.all (AV.pu 2) && c2.all (AV.pu 2)) = true) (hvv : vv.cell = true)
  (hl : l.length < 1000000) (hcs : cs.length < 1000000) :
  Has Tryz.prog 99 [.fs 5 l.length (cC l), .agg [.f g c1 c2, vv], .fs 5 cs.length (cC cs)]
   [.o 111 5 (l.filter fun f => !cs.any fun x => D x f).length 0 (cC (l.filter fun f => !cs.any fun x => D x f))] := by
 refine hasQ_of' mixo x66ok ⟨by simp, by decide⟩ ?_
 have hfn : (AV.f g c1 c2).cell = true := by
  simp only [AV.cell, AV.pu, AV.one, Bool.and_true]; exact hpu
 have hvo : vv.one = true := by simp only [AV.cell, Bool.and_eq_true] at hvv; exact hvv.2
 have hvp : vv.pu 3 = true := by simp only [AV.cell, Bool.and_eq_true] at hvv; exact hvv.1
 have hfp : (AV.f g c1 c2).pu 3 = true := hpu
 generalize hp : (fun f : In => !cs.any fun x => D x f) = p
 simp only [argE]
 repeat (first | (with_reducible refine GA.go mixo rfl ?_) | simp only [hvo, go_sem, simprocAttr])
 refine GA.wk (Wk.nil 7 5 111 (by simp only [go_sem, simprocAttr]) (by decide) (by simp only [next_new, heap_next, List.length_nil]; decide)) ?_
 simp only [env_put]
 refine GA.loop (I := fun mm e H => ∃ (k : Nat) (xs : List (In)), mm = l.length - k ∧ k ≤ l.length ∧ xs = (l.take k).filter p ∧ e = envOf [(2, .fs 5 cs.length (cC cs)), (4, .p 0 0), (10, .fs 5 l.length (cC l)), (11, .n .i64 l.length), (12, .n .i64 k), (7, .os 1 xs.length)] ∧ H = heapOf [rowB 111 5 xs.length 0 (cC xs), lstZ 0 119 [.f g c1 c2, vv]]) (Wk.mk [1, 0] [] ?_ ?_ ?_) ⟨0, [], rfl, by omega, rfl, rfl, rfl⟩ ?_
 ·simp only [WkE, WkH, go_sem, simprocAttr]
  repeat' refine and_of ?_ ?_
  all_goals first | exact wkt | skip
 ·refine .cons rfl (.rows (x := _) (by simp only [go_sem, simprocAttr]; rfl) (by rfl) (by rfl) (by rfl) (by decide) (by decide) (by decide) (fun i j h => by simp at h) (fun i j h => by simp at h)) (.cons rfl (.lstz (x := _) (by simp only [go_sem, simprocAttr]; rfl) (by rfl) (by rfl) (by rfl) (by rfl) (by simp) (by simp) (fun i hi => by simp only [get_trOf, List.length_cons, List.length_nil, Nat.reduceAdd, Nat.reduceLT]) (by simp only [List.all_cons, List.all_nil, hfp, hvp, Bool.and_self])) .nil)
 ·simp
 rintro mm e H ⟨k, xs, rfl, hk, hs, rfl, rfl⟩
 repeat (first | (with_reducible refine GA.go mixo rfl ?_) | simp only [go_sem, simprocAttr])
 refine ⟨fun h => ?_, fun h => ?_⟩
 ·have hk' : k < l.length := by omega
  have h0 : (0 : Int) ≤ (k : Int) := by omega
  repeat (first | (with_reducible refine GA.go mixo rfl ?_) | simp only [h0, h, cC0, cC1, cC2, cC3, cC4, go_sem, simprocAttr])
  have hlt : xs.length ≤ l.length := by rw [hs]; exact Nat.le_trans (List.length_filter_le _ _) (by rw [List.length_take]; exact Nat.min_le_right _ _)
  refine gcall_has [0, 2] (fargs := [.fs 5 cs.length (cC cs), .f 116 [] [.fp 2 (fun j => [AV.f g c1 c2, vv][j]?.getD .u) 0, .fp 5 (fun j => [AV.n .i64 (l.getD k (0, 0, 0, 0, 0)).1, AV.n .i64 (l.getD k (0, 0, 0, 0, 0)).2.1, AV.n .i64 (l.getD k (0, 0, 0, 0, 0)).2.2.1, AV.n .i64 (l.getD k (0, 0, 0, 0, 0)).2.2.2.1, AV.n .u32 (l.getD k (0, 0, 0, 0, 0)).2.2.2.2][j]?.getD .u) 0]])
   ?_
   (containsFuncI_has cs 116 [] _ (fun x => D x (l.getD k (0, 0, 0, 0, 0))) (fun x hx => without1V_has x (l.getD k (0, 0, 0, 0, 0)) g c1 c2 vv (D x (l.getD k (0, 0, 0, 0, 0))) (hd x hx _) hpu) hcs rfl) (by simp only [go_sem, simprocAttr]) ?_
  ·refine .cons (.rfl rfl) (.cons (.fn .nil (.cons ?_ (.cons ?_ .nil))) .nil)
   ·exact Cv.box (l := [AV.f g c1 c2, vv]) (b := 0) rfl (x := _) (by simp only [go_sem, simprocAttr]; rfl) (by rfl) (by simp) (fun j hj => by simp only [lstZ_get, List.length_cons, List.length_nil, Nat.reduceAdd, Nat.reduceLT]) (by simp only [List.all_cons, List.all_nil, hfn, hvv, Bool.and_self])
   ·refine Cv.box (l := [AV.n .i64 (l.getD k (0, 0, 0, 0, 0)).1, AV.n .i64 (l.getD k (0, 0, 0, 0, 0)).2.1, AV.n .i64 (l.getD k (0, 0, 0, 0, 0)).2.2.1, AV.n .i64 (l.getD k (0, 0, 0, 0, 0)).2.2.2.1, AV.n .u32 (l.getD k (0, 0, 0, 0, 0)).2.2.2.2]) (b := 2) rfl (x := _) (by simp only [go_sem, simprocAttr]; rfl) (by rfl) (by simp) (fun j hj => ?_) rfl
    have hj2 := lt5 (by simpa using hj)
    rcases hj2 with rfl | rfl | rfl | rfl | rfl <;> simp only [go_sem, simprocAttr]
  have hpk : (!cs.any fun x => D x (l.getD k (0, 0, 0, 0, 0))) = p (l.getD k (0, 0, 0, 0, 0)) := by rw [← hp]
  have htk : (l.take (k + 1)).filter p = xs ++ (if p (l.getD k (0, 0, 0, 0, 0)) = true then [l.getD k (0, 0, 0, 0, 0)] else []) := by
   rw [take_nx (d := (0, 0, 0, 0, 0)) hk', List.filter_append, ← hs]
   simp only [List.filter_cons, List.filter_nil]
  have hlim : (xs.length + 1) * 5 < 1099511627776 ∧ (xs.length + 1) * 40 ≤ 140737488355328 ∧ xs.length + 1 ≤ 9223372036854775807 := by omega
  repeat (first | (with_reducible refine GA.go mixo rfl ?_) | simp only [hpk, go_sem, simprocAttr])
  refine ⟨fun h1 => ?_, fun h1 => ?_⟩
  ·rw [if_pos h1] at htk
   repeat (first | (with_reducible refine GA.go mixo rfl ?_) | simp only [hlim.1, hlim.2.1, hlim.2.2, decide_true, go_sem, simprocAttr])
   refine ⟨_, _, _, ?_, Wk.mk [4, 0] [] ?_ ?_ ?_, k + 1, xs ++ [l.getD k (0, 0, 0, 0, 0)], rfl, by omega, htk.symm, rfl, rfl⟩
   ·omega
   ·simp only [WkE, WkH, go_sem, simprocAttr]
    repeat' refine and_of ?_ ?_
    all_goals first | exact wkt | skip
   ·refine .cons rfl (.rows (x := _) (by simp only [go_sem, simprocAttr]; rfl) (by rfl) (by rfl) (by rfl) ?_ (Nat.le_refl _) (by decide) ?_ (fun i j _ hj => by rcases lt5 hj with rfl | rfl | rfl | rfl | rfl <;> rfl)) (.cons rfl (.lstz (x := _) (by simp only [go_sem, simprocAttr]; rfl) (by rfl) (by rfl) (by rfl) (by rfl) ?_ (by simp) ?_ (by simp only [List.all_cons, List.all_nil, hfp, hvp, Bool.and_self])) .nil)
    ·simp only [go_sem, simprocAttr]; omega
    ·simp only [go_sem, simprocAttr]
     exact snoc_get rfl (by omega) (fun i j hi _ => by unfold cC; rw [getD_app_lt hi]) (fun j hj => by
      have hj2 := lt5 hj
      unfold cC
      rw [getD_app_eq]
      rcases hj2 with rfl | rfl | rfl | rfl | rfl <;> rfl)
    ·simp [fr_fzn, lstZ_size, lstZ_fzn]
    ·intro i hi
     exact lstZ_get _ _ _ i (by simp)
   ·simp
  ·rw [if_neg (by rw [h1]; simp), List.append_nil] at htk
   repeat (first | (with_reducible refine GA.go mixo rfl ?_) | simp only [go_sem, simprocAttr])
   refine ⟨_, _, _, ?_, Wk.mk [1, 0] [] ?_ ?_ ?_, k + 1, xs, rfl, by omega, htk.symm, rfl, rfl⟩
   ·omega
   ·simp only [WkE, WkH, go_sem, simprocAttr]
    repeat' refine and_of ?_ ?_
    all_goals first | exact wkt | skip
   ·refine .cons rfl (.k5) (.cons rfl (.lstz (x := _) (by simp only [go_sem, simprocAttr]; rfl) (by rfl) (by rfl) (by rfl) (by rfl) ?_ (by simp) ?_ (by simp only [List.all_cons, List.all_nil, hfp, hvp, Bool.and_self])) .nil)
    ·simp [fr_fzn, lstZ_size, lstZ_fzn]
    ·intro i hi
     exact lstZ_get _ _ _ i (by simp)
   ·simp
 ·repeat (first | (with_reducible refine GA.go mixo rfl ?_) | simp only [go_sem, simprocAttr])
  have : k = l.length := by omega
  subst this
  rw [List.take_length] at hs
  subst hs
  refine ⟨[_], rfl, .o (x := _) (by simp only [go_sem, simprocAttr]; rfl) (by rfl) (by rfl) (by rfl) (by decide) (Nat.le_refl _) (Nat.le_refl _) (fun i j _ hj => row_get i j hj) (fun i j _ hj => by rcases lt5 hj with rfl | rfl | rfl | rfl | rfl <;> rfl) rfl .nil⟩
end Go.Proofs.YtidhfimbnjaceaaGreat

namespace Go.Proofs.YtidhfimbnjaceaaGreat
open Go.RowKit
set_option linter.unusedVariables false
set_option linter.unusedSimpArgs false
theorem factV_cell (l : List In) (i j : Nat) (hj : j < 5) : (cC l i j).cell = true := by
 have h5 : j = 0 ∨ j = 1 ∨ j = 2 ∨ j = 3 ∨ j = 4 := by omega
 rcases h5 with rfl | rfl | rfl | rfl | rfl <;> first | rfl | omega
def oCV (st : List (List In)) (i _j : Nat) : AV := .fs 5 (st.reverse.getD i []).length (cC (st.reverse.getD i []))
theorem oCV_cons (st : List (List In)) (t : List In) (i j : Nat) (hi : i < st.length) : oCV (t :: st) i j = oCV st i j := by
 unfold oCV; rw [List.reverse_cons, getD_app_lt (by simpa using hi)]
theorem oCV_top (st : List (List In)) (t : List In) (j : Nat) : oCV (t :: st) st.length j = .fs 5 t.length (cC t) := by
 unfold oCV; rw [List.reverse_cons]
 have := getD_app_eq (l := st.reverse) (x := t) (d := [])
 rw [List.length_reverse] at this
 rw [this]
theorem walkV_has {n0 : Nat} {pf : In → Prop} (D : In → In → Bool) (V : In → List In → In × Bool × List In) (g v : FuncId) (cs : List In) (fs0 : List In) (pt : List Int) (fin : WSt In)
  (hD : ∀ x, opOk x → ∀ f, Has Tryz.prog g ([] ++ [insV x, insV f] ++ []) [.v (.b (D x f))])
  (hV : ∀ x ∈ cs, ∀ fs : List In, fs.length < 1000000 → (∀ f ∈ fs, pf f) → Has Tryz.prog v [insV x, .fs 5 fs.length (cC fs)] [.v (insV (V x fs).1), .v (.b (V x fs).2.1), .v (.fs 5 (V x fs).2.2.length (cC (V x fs).2.2))])
  (hV1 : ∀ x ∈ cs, ∀ fs : List In, (∀ f ∈ fs, pf f) → (V x fs).2.2.length ≤ 1 ∧ ∀ f ∈ (V x fs).2.2, pf f)
  (hV2 : ∀ x ∈ cs, ∀ fs : List In, (∀ f ∈ fs, pf f) → opOk (V x fs).1)
  (hcs : cs.length < 400000) (hok : ∀ x ∈ cs, opOk x) (hn0 : fs0.length ≤ n0) (hn1 : n0 < 400000) (hpf : ∀ f ∈ fs0, pf f)
  (hpt : pairsP cs = some pt) (hptl : pt.length = cs.length) (hgo : walkGo D (eqIn) V cs pt cs 0 ⟨[], fs0, []⟩ = some fin) :
  Has Tryz.prog 68 [.fs 5 cs.length (cC cs), .fs 5 fs0.length (cC fs0), .agg [.f g [] [], .f v [] []]] [.o 37 5 fin.out.length 0 (cC fin.out)] := by
 have hpa := pairs_has cs (by omega) pt hpt
 refine hasQ_of' mixo x59ok ⟨by simp, by decide⟩ ?_
 simp only [argE]
 have hfg : (AV.f g [] []).pu 3 = true := rfl
 have hfv : (AV.f v [] []).pu 3 = true := rfl
 repeat (first | (with_reducible refine GA.go mixo rfl ?_) | simp only [go_sem, simprocAttr])
 refine gcall_has [] (.cons (.rfl (by rfl)) .nil) hpa (by simp only [go_sem, simprocAttr]) ?_
 simp only [go_sem, simprocAttr]
 refine GA.wk (Wk.mk (L := [(0, .fs 5 cs.length (cC cs)), (1, .fs 5 fs0.length (cC fs0)), (5, .p 0 0), (7, .fs 1 pt.length (iC .i64 pt))]) (bl := [lstB 0 119 [.f g [] [], .f v [] []]]) [0] [1] ?_ ?_ ?_) ?_
 ·simp only [WkE, WkH, go_sem, simprocAttr]
  repeat' refine and_of ?_ ?_
  all_goals first | trivial | exact Wv.same rfl | exact Wv.p rfl | skip
  refine Wv.cv (Cv.own (ty := 3) (z := 0) (by simp) (by simp only [go_sem, simprocAttr]) (fun i j _ _ => rfl))
 ·refine .cons rfl (.ls) .nil
 ·simp
 with_reducible refine GA.seq ?_
 with_reducible refine GA.reg ?_
 simp only [go_sem, simprocAttr]
 with_reducible refine GA.seq ?_
 with_reducible refine GA.reg ?_
 simp only [go_sem, simprocAttr]
 refine GA.wk (Wk.nil 8 5 37 (by simp only [go_sem, simprocAttr]) (by decide) (by simp only [go_sem, simprocAttr])) ?_
 refine GA.wk (Wk.nil 9 1 113 (by simp only [go_sem, simprocAttr]) (by decide) (by simp only [go_sem, simprocAttr])) ?_
 simp only [env_put]
 repeat (first | (with_reducible refine GA.go mixo rfl ?_) | simp only [go_sem, simprocAttr])
 refine GA.loop (I := fun mm e H => ∃ (k : Nat) (s : WSt In), mm = cs.length - k ∧ k ≤ cs.length ∧ WInv pf n0 k s ∧ walkGo D (eqIn) V cs pt (cs.drop k) k s = some fin ∧
   e = envOf [(0, .fs 5 cs.length (cC cs)), (1, .fs 5 s.fs.length (cC s.fs)), (5, .p 0 0), (7, .fs 1 pt.length (iC .i64 pt)), (18, .fs 5 cs.length (cC cs)), (19, .n .i64 cs.length), (20, .n .i64 k), (8, .os 1 s.out.length), (9, .os 2 s.op.length)] ∧
   H = heapOf [rowB 113 1 s.op.length 0 (oCV s.op), rowB 37 5 s.out.length 0 (cC s.out), lstB 0 119 [.f g [] [], .f v [] []]]) (Wk.mk [2, 1, 0] [] ?_ ?_ ?_) ⟨0, ⟨[], fs0, []⟩, rfl, by omega, ⟨by simp, by simp, by simp only; omega, hpf, by simp, by simp⟩, hgo, rfl, rfl⟩ ?_
 ·simp only [WkE, WkH, go_sem, simprocAttr]
  repeat' refine and_of ?_ ?_
  all_goals first | exact wkt | skip
 ·refine .cons rfl (.rows (by simp only [go_sem, simprocAttr]; rfl) rfl rfl rfl (by simp) (by decide) (by decide) (fun i j h => by simp at h) (fun i j h => by simp at h)) (.cons rfl (.rows (by simp only [go_sem, simprocAttr]; rfl) rfl rfl rfl (by simp) (by decide) (by decide) (fun i j h => by simp at h) (fun i j h => by simp at h)) (.cons rfl (.ls) .nil))
 ·simp
 rintro mm e H ⟨k, ⟨out, fs, op⟩, rfl, hk, hinv, hs, rfl, rfl⟩
 have ⟨hi1, hi2, hi3, hi4, hi5, hi6⟩ := hinv
 simp only at hi1 hi2 hi3 hi4 hi5 hi6
 repeat (first | (with_reducible refine GA.go mixo rfl ?_) | simp only [go_sem, simprocAttr])
 refine ⟨fun h => ?_, fun h => ?_⟩
 ·have hkn : k < cs.length := by omega
  have h0 : (0 : Int) ≤ (k : Int) := by omega
  have hk1 : k + 1 ≤ cs.length := hkn
  have hm : cs.getD k dIn ∈ cs := by rw [List.getD_eq_getElem?_getD, List.getElem?_eq_getElem hkn]; exact List.getElem_mem _
  rw [drop_nx (d := dIn) hkn, walkGo] at hs
  obtain ⟨s2, hst, hs⟩ := Option.bind_eq_some_iff.1 hs
  have hcc0 : cC cs k 0 = .n .i64 (cs.getD k dIn).1 := cC0 cs k
  have hcc1 : cC cs k 1 = .n .i64 (cs.getD k dIn).2.1 := cC1 cs k
  have hcc2 : cC cs k 2 = .n .i64 (cs.getD k dIn).2.2.1 := cC2 cs k
  have hcc3 : cC cs k 3 = .n .i64 (cs.getD k dIn).2.2.2.1 := cC3 cs k
  have hcc4 : cC cs k 4 = .n .u32 (cs.getD k dIn).2.2.2.2 := cC4 cs k
  generalize cs.getD k dIn = x at hst hcc0 hcc1 hcc2 hcc3 hcc4 hm
  have hcv := hV x hm fs (by omega) hi4
  have hv1 := hV1 x hm
  have hv2 := hV2 x hm fs hi4
  have key := walkStep_inv hinv hv1 hst
  have hv1 := hv1 fs hi4
  unfold walkStep at hst
  simp only at hst
  generalize V x fs = r at hst hcv hv1 hv2
  obtain ⟨y, rem, more⟩ := r
  obtain ⟨opc, to, a, b, arg⟩ := x
  obtain ⟨yopc, yto, ya, yb, yarg⟩ := y
  simp only [insV] at hst hcv hv1 hv2 hcc0 hcc1 hcc2 hcc3 hcc4
  repeat (first | (with_reducible refine GA.go mixo rfl ?_) | simp only [h0, h, hcc0, hcc1, hcc2, hcc3, hcc4, go_sem, simprocAttr])
  refine gcall_has [] (.cons (.rfl (by rfl)) (.cons (.rfl (by rfl)) .nil)) hcv (by simp only [go_sem, simprocAttr]) ?_
  repeat (first | (with_reducible refine GA.go mixo rfl ?_) | simp only [go_sem, simprocAttr])
  have ht : rem = false ∨ rem = true := by cases rem <;> simp
  refine ⟨fun hr => ?_, fun hr => ?_⟩
  ·rw [hr, if_neg (by simp)] at hst
   cases hst
   repeat (first | (with_reducible refine GA.go mixo rfl ?_) | simp only [go_sem, simprocAttr])
   refine ⟨_, _, _, ?_, Wk.mk [2, 1, 0] [] ?_ ?_ ?_, k + 1, _, rfl, by omega, key, hs, rfl, rfl⟩
   ·omega
   ·simp only [WkE, WkH, go_sem, simprocAttr]
    repeat' refine and_of ?_ ?_
    all_goals first | exact wkt | skip
   ·refine .cons rfl (.k1) (.cons rfl (.k5) (.cons rfl (.ls) .nil))
   ·simp
  rw [hr, if_pos rfl] at hst
  obtain ⟨⟨fs', op'⟩, hsw, rfl⟩ := Option.map_eq_some_iff.1 hst
  simp only at key hs
  have hinv2 := walkSw_inv hinv hsw
  obtain ⟨hj1, hj2, hj3, hj4, hj5⟩ := hinv2
  simp only at hj1 hj2 hj3 hj4 hj5
  (try simp only [go_sem, simprocAttr])
  iterate 4 (with_reducible refine GA.go mixo rfl ?_; try simp only [go_sem, simprocAttr])
  have hy5 : ∀ j, j < 5 → [AV.n .i64 yopc, AV.n .i64 yto, AV.n .i64 ya, AV.n .i64 yb, AV.n .u32 yarg][j]?.getD .u = cC [(yopc, yto, ya, yb, yarg)] 0 j := fun j hj => by rcases lt5 hj with rfl | rfl | rfl | rfl | rfl <;> rfl
  refine GA.wk (Wk.mk (L := [(0, .fs 5 cs.length (cC cs)), (1, .fs 5 fs.length (cC fs)), (5, .p 0 0), (7, .fs 1 pt.length (iC .i64 pt)), (18, .fs 5 cs.length (cC cs)), (19, .n .i64 cs.length), (20, .n .i64 k), (8, .os 1 out.length), (9, .os 2 op.length), (10, .n .i64 k), (11, .p 3 0), (12, .p 4 0), (14, .fs 5 more.length (cC more)), (15, .n .i64 ((op.length : Int) - 1))])
   (bl := [lstB 0 37 [.n .i64 yopc, .n .i64 yto, .n .i64 ya, .n .i64 yb, .n .u32 yarg], lstB 0 37 [.n .i64 opc, .n .i64 to, .n .i64 a, .n .i64 b, .n .u32 arg], rowB 113 1 op.length 0 (oCV op), rowB 37 5 out.length 0 (cC out), lstB 0 119 [.f g [] [], .f v [] []]]) [4, 3, 2, 1, 0] [] ?_ ?_ ?_) ?_
  ·simp only [WkE, WkH, go_sem, simprocAttr]
   repeat' refine and_of ?_ ?_
   all_goals first | exact wkt | skip
  ·refine .cons rfl (.lsti (x := _) (by simp only [go_sem, simprocAttr] <;> rfl) (by rfl) (by rfl) (by rfl) (by rfl) (by rfl) (by rfl) (by simp) (fun i hi => ?_) (by rfl)) (.cons rfl (.lsti (x := _) (by simp only [go_sem, simprocAttr] <;> rfl) (by rfl) (by rfl) (by rfl) (by rfl) (by rfl) (by rfl) (by simp) (fun i hi => ?_) (by rfl)) (.cons rfl (.k1) (.cons rfl (.k5) (.cons rfl (.ls) .nil))))
   ·rcases lt5 hi with rfl | rfl | rfl | rfl | rfl <;> simp only [go_sem, simprocAttr]
   ·rcases lt5 hi with rfl | rfl | rfl | rfl | rfl <;> simp only [go_sem, simprocAttr]
  ·simp
  refine GA.cutQ (envOf [(0, .fs 5 cs.length (cC cs)), (1, .fs 5 fs'.length (cC fs')), (5, .p 0 0), (7, .fs 1 pt.length (iC .i64 pt)), (18, .fs 5 cs.length (cC cs)), (19, .n .i64 cs.length), (20, .n .i64 k), (8, .os 1 out.length), (9, .os 2 op'.length), (12, .p 3 0), (14, .fs 5 more.length (cC more))])
   (heapOf [lstB 0 37 [.n .i64 yopc, .n .i64 yto, .n .i64 ya, .n .i64 yb, .n .u32 yarg], rowB 113 1 op'.length 0 (oCV op'), rowB 37 5 out.length 0 (cC out), lstB 0 119 [.f g [] [], .f v [] []]]) ?_ ?_
  rotate_left
  ·intro e' H' hw
   refine GA.wk hw ?_
   have hwo := withoutV_has fs' [(yopc, yto, ya, yb, yarg)] g [] [] (.f v [] []) D (fun z hz f => by
    rw [List.mem_singleton.1 hz]; exact hD _ hv2 f) rfl rfl (by omega) (by simp)
   have hwl := woF_len D fs' [(yopc, yto, ya, yb, yarg)]
   change Has _ _ _ [.o 111 5 (woF D fs' [(yopc, yto, ya, yb, yarg)]).length 0 (cC (woF D fs' [(yopc, yto, ya, yb, yarg)]))] at hwo
   generalize woF D fs' [(yopc, yto, ya, yb, yarg)] = wfs at hwo hwl key hs
   have hlim : (wfs.length + more.length) * 5 < 1099511627776 ∧ (wfs.length + more.length) * 40 ≤ 140737488355328 ∧ wfs.length + more.length ≤ 9223372036854775807 := by omega
   have hlio : (out.length + 1) * 5 < 1099511627776 ∧ (out.length + 1) * 40 ≤ 140737488355328 ∧ out.length + 1 ≤ 9223372036854775807 := by omega
   repeat (first | (with_reducible refine GA.go mixo rfl ?_) | simp only [hlim.1, hlim.2.1, hlim.2.2, hlio.1, hlio.2.1, hlio.2.2, decide_true, go_sem, simprocAttr])
   refine gcall_has [4] (fargs := [.fs 5 fs'.length (cC fs'), .agg [.f g [] [], .f v [] []], .fs 5 [(yopc, yto, ya, yb, yarg)].length (cC [(yopc, yto, ya, yb, yarg)])]) ?_ hwo (by simp only [go_sem, simprocAttr]) ?_
   ·refine .cons (.rfl (by rfl)) (.cons (.rfl (by rfl)) (.cons ?_ .nil))
    refine Cv.sl (x := _) (by simp) (by simp only [go_sem, simprocAttr] <;> rfl) (by simp) (by simp) (by simp) (fun i j hi hj => ?_) (fun i j hi hj => by rcases lt5 hj with rfl | rfl | rfl | rfl | rfl <;> rfl)
    obtain rfl : i = 0 := by simpa using hi
    rw [← hy5 j hj]
    rcases lt5 hj with rfl | rfl | rfl | rfl | rfl <;> simp only [go_sem, simprocAttr]
   repeat (first | (with_reducible refine GA.go mixo rfl ?_) | simp only [hlim.1, hlim.2.1, hlim.2.2, hlio.1, hlio.2.1, hlio.2.2, decide_true, go_sem, simprocAttr])
   refine ⟨_, _, _, ?_, Wk.mk [2, 8, 0] [6] ?_ ?_ ?_, k + 1, _, rfl, by omega, key, hs, rfl, rfl⟩
   ·omega
   ·simp only [WkE, WkH, go_sem, simprocAttr]
    repeat' refine and_of ?_ ?_
    all_goals first | exact wkt | skip
    refine Wv.cv (Cv.os (x := _) (by simp) (by simp only [go_sem, simprocAttr] <;> rfl) (by simp only [go_sem, simprocAttr] <;> omega) (fun i j hi hj => ?_) (fun i j hi hj => factV_cell _ _ _ hj))
    rw [app_fn_get hj hi (by omega), row_get i j hj]
    unfold cC
    by_cases hw : wfs.length ≤ i
    ·rw [if_pos hw]
     simp only [List.getD_eq_getElem?_getD, List.getElem?_append_right hw]
    ·rw [if_neg hw]
     simp only [List.getD_eq_getElem?_getD, List.getElem?_append_left (Nat.lt_of_not_le hw)]
   ·rw [show (out ++ [(yopc, yto, ya, yb, yarg)]).length = out.length + 1 from by simp]
    refine .cons rfl (.k1) (.cons rfl (.snoc (by simp only [go_sem, simprocAttr] <;> rfl) (by simp) (by rfl) rfl (by decide) (by omega) (fun i j hi _ => by unfold cC; rw [getD_app_lt hi]) (fun j hj => by
     unfold cC
     rw [getD_app_eq]
     exact (hy5 j hj).symm) (fun i j _ hj => by rcases lt5 hj with rfl | rfl | rfl | rfl | rfl <;> rfl)) (.cons rfl (.ls) .nil))
   ·simp
  unfold walkSw at hsw
  repeat (first | (with_reducible refine GA.go mixo rfl ?_) | simp only [go_sem, simprocAttr])
  refine ⟨fun h1 => ?_, fun h1 => ?_⟩
  ·rw [if_pos h1] at hsw
   injection hsw with hsw
   injection hsw with e1 e2
   subst e1 e2
   have hlo : op.length + 1 < 1099511627776 ∧ (op.length + 1) * 24 ≤ 140737488355328 ∧ op.length + 1 ≤ 9223372036854775807 := by omega
   repeat (first | (with_reducible refine GA.go mixo rfl ?_) | simp only [hlo.1, hlo.2.1, hlo.2.2, decide_true, go_sem, simprocAttr])
   refine Wk.mk [4, 6, 1, 0] [] ?_ ?_ ?_
   ·simp only [WkE, WkH, go_sem, simprocAttr]
    repeat' refine and_of ?_ ?_
    all_goals first | exact wkt | skip
   ·refine .cons rfl (.ls) (.cons rfl (.snoc (by simp only [go_sem, simprocAttr] <;> rfl) (by simp) (by rfl) rfl (by decide) (by omega) (fun i j hi _ => oCV_cons _ _ _ _ hi) (fun j hj => by
     cases Nat.lt_one_iff.1 hj
     exact oCV_top _ _ _) (fun i j _ _ => rfl)) (.cons rfl (.k5) (.cons rfl (.ls) .nil)))
   ·simp
  rw [if_neg h1] at hsw
  repeat (first | (with_reducible refine GA.go mixo rfl ?_) | simp only [go_sem, simprocAttr])
  refine ⟨fun h2 => ?_, fun h2 => ?_⟩
  ·rw [if_pos h2] at hsw
   cases op with
   |nil => cases hsw
   |cons t r =>
   simp only at hsw
   injection hsw with hsw
   injection hsw with e1 e2
   subst e1 e2
   have hrl : r.length ≤ k := by simp only [List.length_cons] at hi2; omega
   have hsub : ((r.length + 1 : Nat) : Int) - 1 = (r.length : Int) := by omega
   have hz0 : (0 : Int) ≤ (r.length : Int) := by omega
   have hz1 : (r.length : Int) < ((r.length + 1 : Nat) : Int) := by omega
   have hz2 : r.length < r.length + 1 := by omega
   have hg : (rowB 113 1 (r.length + 1) 0 (oCV (t :: r))).get r.length = .fs 5 t.length (cC t) := by
    rw [row_get1]; exact oCV_top _ _ _
   repeat (first | (with_reducible refine GA.go mixo rfl ?_) | simp only [hsub, hz0, hz1, hz2, hg, Nat.le_refl, go_sem, simprocAttr])
   refine Wk.mk [4, 2, 1, 0] [] ?_ ?_ ?_
   ·simp only [WkE, WkH, go_sem, simprocAttr]
    repeat' refine and_of ?_ ?_
    all_goals first | exact wkt | skip
   ·refine .cons rfl (.ls) (.cons rfl (.put (n := r.length + 1) (q := r.length) (by simp only [go_sem, simprocAttr] <;> rfl) (by simp) rfl hz2 rfl (by decide) (by omega) (fun i j h hj => ?_) (fun i j h hj => rfl)) (.cons rfl (.k5) (.cons rfl (.ls) .nil)))
    cases Nat.lt_one_iff.1 hj
    by_cases e : i = r.length
    ·rw [if_pos e, e]; exact (oCV_top _ _ _).symm
    ·rw [if_neg e, oCV_cons _ _ _ _ (by omega), oCV_cons _ _ _ _ (by omega)]
   ·simp
  rw [if_neg h2] at hsw
  have hkp : k < pt.length := by omega
  have hkpi : (k : Int) < (pt.length : Int) := by omega
  repeat (first | (with_reducible refine GA.go mixo rfl ?_) | simp only [go_sem, simprocAttr])
  refine ⟨fun h3 => ?_, fun h3 => ?_⟩
  ·rw [if_pos h3] at hsw
   split at hsw
   rotate_left
   ·cases hsw
   rename_i hrg
   obtain ⟨q, hq⟩ : ∃ q : Nat, pt.getD k 0 = (q : Int) := ⟨(pt.getD k 0).toNat, by omega⟩
   rw [hq] at hrg hsw
   rw [Int.toNat_natCast] at hsw
   have hql : q - k = ((cs.take q).drop k).length := by rw [List.length_drop, List.length_take]; omega
   have hwo := withoutV_has fs ((cs.take q).drop k) g [] [] (.f v [] []) D (fun z hz f => hD z (hok z (List.mem_of_mem_take (List.mem_of_mem_drop hz))) f) rfl rfl (by omega) (by rw [← hql]; omega)
   have hwl := woF_len D fs ((cs.take q).drop k)
   change Has _ _ _ [.o 111 5 (woF D fs ((cs.take q).drop k)).length 0 (cC (woF D fs ((cs.take q).drop k)))] at hwo
   generalize woF D fs ((cs.take q).drop k) = wfs at hwo hwl hsw
   injection hsw with hsw
   injection hsw with e1 e2
   subst e1 e2
   have hpk : iC .i64 pt k 0 = .n .i64 (q : Int) := by unfold iC; rw [hq]
   have hq0 : (0 : Int) ≤ (q : Int) := by omega
   have hq1 : (k : Int) ≤ (q : Int) := hrg.1
   have hq2 : (q : Int) ≤ (cs.length : Int) := hrg.2
   repeat (first | (with_reducible refine GA.go mixo rfl ?_) | simp only [h0, hkpi, hpk, hq0, hq1, hq2, go_sem, simprocAttr])
   rw [hql]
   refine gcall_has [] (fargs := [.fs 5 fs.length (cC fs), .agg [.f g [] [], .f v [] []], .fs 5 ((cs.take q).drop k).length (cC ((cs.take q).drop k))]) ?_ hwo (by simp only [go_sem, simprocAttr]) ?_
   ·refine .cons (.rfl (by rfl)) (.cons (.rfl (by rfl)) (.cons (.fs (fun i j hi hj => ?_)) .nil))
    unfold cC
    rw [List.getD_eq_getElem?_getD, List.getD_eq_getElem?_getD, List.getElem?_drop, List.getElem?_take_of_lt (by omega)]
   repeat (first | (with_reducible refine GA.go mixo rfl ?_) | simp only [go_sem, simprocAttr])
   refine Wk.mk [4, 2, 1, 0] [5] ?_ ?_ ?_
   ·simp only [WkE, WkH, go_sem, simprocAttr]
    repeat' refine and_of ?_ ?_
    all_goals first | exact wkt | skip
    exact Wv.cv (Cv.own (ty := 111) (z := 0) (by simp) (by simp only [go_sem, simprocAttr]) (fun i j _ hj => factV_cell _ _ _ hj))
   ·refine .cons rfl (.ls) (.cons rfl (.k1) (.cons rfl (.k5) (.cons rfl (.ls) .nil)))
   ·simp
  rw [if_neg h3] at hsw
  by_cases h4 : opc = 31
  ·rw [if_pos h4] at hsw
   subst h4
   split at hsw
   rotate_left
   ·cases hsw
   rename_i hrg
   obtain ⟨q, hq⟩ : ∃ q : Nat, pt.getD k 0 = (q : Int) := ⟨(pt.getD k 0).toNat, by omega⟩
   rw [hq] at hrg hsw
   rw [Int.toNat_natCast] at hsw
   have hpk : iC .i64 pt k 0 = .n .i64 (q : Int) := by unfold iC; rw [hq]
   have hq0 : (0 : Int) ≤ (q : Int) := by omega
   have hq1 : (q : Int) ≤ (k : Int) := hrg.2
   have hq2 : (q : Int) < (cs.length : Int) := by omega
   have hq3 : (k : Int) ≤ (cs.length : Int) := by omega
   have hcq : cC cs q 0 = .n .i64 (cs.getD q dIn).1 := cC0 cs q
   repeat (first | (with_reducible refine GA.go mixo rfl ?_) | simp only [h0, hkpi, hpk, hq0, hq1, hq2, hcq, decide_true, go_sem, simprocAttr])
   refine ⟨fun h5 => ?_, fun h5 => ?_⟩
   ·rw [if_pos h5] at hsw
    have hql : k - q = ((cs.take k).drop q).length := by rw [List.length_drop, List.length_take]; omega
    have hwo := withoutV_has fs ((cs.take k).drop q) g [] [] (.f v [] []) D (fun z hz f => hD z (hok z (List.mem_of_mem_take (List.mem_of_mem_drop hz))) f) rfl rfl (by omega) (by rw [← hql]; omega)
    have hwl := woF_len D fs ((cs.take k).drop q)
    change Has _ _ _ [.o 111 5 (woF D fs ((cs.take k).drop q)).length 0 (cC (woF D fs ((cs.take k).drop q)))] at hwo
    generalize woF D fs ((cs.take k).drop q) = wfs at hwo hwl hsw
    injection hsw with hsw
    injection hsw with e1 e2
    subst e1 e2
    repeat (first | (with_reducible refine GA.go mixo rfl ?_) | simp only [h0, hkpi, hpk, hq0, hq1, hq2, hq3, go_sem, simprocAttr])
    rw [hql]
    refine gcall_has [] (fargs := [.fs 5 fs.length (cC fs), .agg [.f g [] [], .f v [] []], .fs 5 ((cs.take k).drop q).length (cC ((cs.take k).drop q))]) ?_ hwo (by simp only [go_sem, simprocAttr]) ?_
    ·refine .cons (.rfl (by rfl)) (.cons (.rfl (by rfl)) (.cons (.fs (fun i j hi hj => ?_)) .nil))
     unfold cC
     rw [List.getD_eq_getElem?_getD, List.getD_eq_getElem?_getD, List.getElem?_drop, List.getElem?_take_of_lt (by omega)]
    repeat (first | (with_reducible refine GA.go mixo rfl ?_) | simp only [go_sem, simprocAttr])
    refine Wk.mk [4, 2, 1, 0] [5] ?_ ?_ ?_
    ·simp only [WkE, WkH, go_sem, simprocAttr]
     repeat' refine and_of ?_ ?_
     all_goals first | exact wkt | skip
     exact Wv.cv (Cv.own (ty := 111) (z := 0) (by simp) (by simp only [go_sem, simprocAttr]) (fun i j _ hj => factV_cell _ _ _ hj))
    ·refine .cons rfl (.ls) (.cons rfl (.k1) (.cons rfl (.k5) (.cons rfl (.ls) .nil)))
    ·simp
   ·rw [if_neg h5] at hsw
    cases op with
    |nil => cases hsw
    |cons t r =>
    simp only at hsw
    have hrl : r.length ≤ k := by simp only [List.length_cons] at hi2; omega
    have htl := hi5 t (List.mem_cons_self ..)
    have hbo := bothV_has fs t (by omega) (by omega)
    have hbl := boF_len (eqIn) fs t
    change Has _ _ _ [.o 111 5 (boF (eqIn) fs t).length 0 (cC (boF (eqIn) fs t))] at hbo
    generalize boF (eqIn) fs t = bfs at hbo hbl hsw
    injection hsw with hsw
    injection hsw with e1 e2
    subst e1 e2
    have hsub : ((r.length + 1 : Nat) : Int) - 1 = (r.length : Int) := by omega
    have hz0 : (0 : Int) ≤ (r.length : Int) := by omega
    have hz1 : (r.length : Int) < ((r.length + 1 : Nat) : Int) := by omega
    have hz3 : (r.length : Int) ≤ ((r.length + 1 : Nat) : Int) := by omega
    have hz2 : r.length < r.length + 1 := by omega
    have hg : (rowB 113 1 (r.length + 1) 0 (oCV (t :: r))).get r.length = .fs 5 t.length (cC t) := by
     rw [row_get1]; exact oCV_top _ _ _
    repeat (first | (with_reducible refine GA.go mixo rfl ?_) | simp only [hsub, hz0, hz1, hz2, hz3, hg, Int.le_refl, go_sem, simprocAttr])
    refine gcall_has [] (.cons (.rfl (by rfl)) (.cons (.rfl (by rfl)) .nil)) hbo (by simp only [go_sem, simprocAttr]) ?_
    repeat (first | (with_reducible refine GA.go mixo rfl ?_) | simp only [go_sem, simprocAttr])
    refine Wk.mk [4, 2, 1, 0] [5] ?_ ?_ ?_
    ·simp only [WkE, WkH, go_sem, simprocAttr]
     repeat' refine and_of ?_ ?_
     all_goals first | exact wkt | skip
     exact Wv.cv (Cv.own (ty := 111) (z := 0) (by simp) (by simp only [go_sem, simprocAttr]) (fun i j _ hj => factV_cell _ _ _ hj))
    ·refine .cons rfl (.ls) (.cons rfl (.pop (n := r.length + 1) (by simp only [go_sem, simprocAttr] <;> rfl) rfl (by decide) (by omega) (fun i j hi _ => oCV_cons _ _ _ _ hi) (fun i j _ hj => rfl)) (.cons rfl (.k5) (.cons rfl (.ls) .nil)))
    ·simp
  rw [if_neg h4] at hsw
  injection hsw with hsw
  injection hsw with e1 e2
  subst e1 e2
  repeat (first | (with_reducible refine GA.go mixo rfl ?_) | simp only [h4, decide_false, go_sem, simprocAttr])
  refine Wk.mk [4, 2, 1, 0] [] ?_ ?_ ?_
  ·simp only [WkE, WkH, go_sem, simprocAttr]
   repeat' refine and_of ?_ ?_
   all_goals first | exact wkt | skip
  ·refine .cons rfl (.ls) (.cons rfl (.k1) (.cons rfl (.k5) (.cons rfl (.ls) .nil)))
  ·simp
 ·have hkn : k = cs.length := by omega
  subst hkn
  rw [List.drop_length, walkGo] at hs
  cases hs
  repeat (first | (with_reducible refine GA.go mixo rfl ?_) | simp only [go_sem, simprocAttr])
  refine ⟨[_], rfl, .o (x := _) (by simp only [go_sem, simprocAttr]; rfl) (by rfl) (by rfl) (by rfl) (by decide) (Nat.le_refl _) (Nat.le_refl _) (fun i j _ hj => row_get i j hj) (fun i j _ hj => cC_cell i hj) rfl .nil⟩
end Go.Proofs.YtidhfimbnjaceaaGreat

namespace Go.Proofs.YtidhfimbnjaceaaGreat
open Go.RowKit
set_option linter.unusedVariables false
set_option linter.unusedSimpArgs false
def sC (l : List (Int × Int)) (i j : Nat) : AV := if j = 0 then .n .i64 (l.getD i (0, 0)).1 else .n .i64 (l.getD i (0, 0)).2
theorem sC0 (l : List (Int × Int)) (i : Nat) : sC l i 0 = .n .i64 (l.getD i (0, 0)).1 := rfl
theorem sC1 (l : List (Int × Int)) (i : Nat) : sC l i 1 = .n .i64 (l.getD i (0, 0)).2 := rfl
def sV (f : Int × Int) : AV := .agg [.n .i64 f.1, .n .i64 f.2]
theorem indexS_has (l : List (Int × Int)) (f : Int × Int) (hl : l.length < 1000000) : Has Tryz.prog 140 [.fs 2 l.length (sC l), sV f] [.v (.n .i64 (idx (fun g => decide (f.1 = g.1) && decide (f.2 = g.2)) l 0))] := by
 refine hasQ_of' mixo x42ok ⟨by simp, by decide⟩ ?_
 simp only [argE, sV]
 repeat (first | (with_reducible refine GA.go mixo rfl ?_) | simp only [go_sem, simprocAttr])
 refine GA.loop (I := fun m e H => ∃ k : Nat, m = l.length - k ∧ k ≤ l.length ∧ idx (fun g => decide (f.1 = g.1) && decide (f.2 = g.2)) l 0 = idx (fun g => decide (f.1 = g.1) && decide (f.2 = g.2)) (l.drop k) k ∧ e = envOf [(0, .fs 2 l.length (sC l)), (3, .p 0 0), (6, .fs 2 l.length (sC l)), (7, .n .i64 l.length), (8, .n .i64 k)] ∧ H = heapOf [lstB 0 102 [.n .i64 f.1, .n .i64 f.2]]) (Wk.mk [0] [] ?_ ?_ ?_) ⟨0, rfl, by omega, rfl, rfl, rfl⟩ ?_
 ·simp only [WkE, WkH, go_sem, simprocAttr]
  repeat' refine and_of ?_ ?_
  all_goals first | exact wkt | skip
 ·exact .cons rfl (.ls) .nil
 ·simp
 rintro m e H ⟨k, rfl, hk, hs, rfl, rfl⟩
 repeat (first | (with_reducible refine GA.go mixo rfl ?_) | simp only [go_sem, simprocAttr])
 refine ⟨fun h => ?_, fun h => ?_⟩
 ·have hk' : k < l.length := by omega
  have h0 : (0 : Int) ≤ (k : Int) := by omega
  rw [drop_nx (d := (0, 0)) hk', idx] at hs
  repeat (first | (with_reducible refine GA.go mixo rfl ?_) | simp only [h0, h, sC0, sC1, eqS, eqFs, partA, andO, SH.row, go_sem, simprocAttr])
  refine ⟨fun h1 => ?_, fun h1 => ?_⟩
  ·repeat (first | (with_reducible refine GA.go mixo rfl ?_) | simp only [go_sem, simprocAttr])
   rw [if_pos (by simpa using h1)] at hs
   exact has_end1 (by rw [hs]) rfl
  ·repeat (first | (with_reducible refine GA.go mixo rfl ?_) | simp only [go_sem, simprocAttr])
   rw [if_neg (by rw [h1]; simp)] at hs
   refine ⟨_, _, _, ?_, Wk.mk [0] [] ?_ ?_ ?_, k + 1, rfl, by omega, hs, rfl, rfl⟩
   ·omega
   ·simp only [WkE, WkH, go_sem, simprocAttr]
    repeat' refine and_of ?_ ?_
    all_goals first | exact wkt | skip
   ·exact .cons rfl (.lst (by first | (simp only [go_sem, simprocAttr]; done) | (simp only [go_sem, simprocAttr]; rfl) | rfl) rfl (by simp) rfl) .nil
   ·simp
 ·repeat (first | (with_reducible refine GA.go mixo rfl ?_) | simp only [go_sem, simprocAttr])
  have : k = l.length := by omega
  subst this
  rw [List.drop_length, idx] at hs
  exact has_end1 (by rw [hs]) rfl
theorem containsS_has (l : List (Int × Int)) (f : Int × Int) (hl : l.length < 1000000) : Has Tryz.prog 115 [.fs 2 l.length (sC l), sV f] [.v (.b (l.any fun g => decide (f.1 = g.1) && decide (f.2 = g.2)))] := by
 refine hasQ_of' mixo x41ok ⟨by simp, by decide⟩ ?_
 simp only [argE, sV]
 repeat (first | (with_reducible refine GA.go mixo rfl ?_) | simp only [go_sem, simprocAttr])
 refine gcall_has [] (.cons (.rfl rfl) (.cons (.rfl rfl) .nil)) (indexS_has l f hl) (by simp only [go_sem, simprocAttr]) ?_
 repeat (first | (with_reducible refine GA.go mixo rfl ?_) | simp only [go_sem, simprocAttr])
 exact has_end1 (by rw [← idx_contains _ l 0]) rfl
theorem bothS_has (l m : List (Int × Int)) (hl : l.length < 1000000) (hm : m.length < 1000000) : Has Tryz.prog 98 [.fs 2 l.length (sC l), .fs 2 m.length (sC m)]
  [.o 102 2 (l.filter fun f => m.any fun g => decide (f.1 = g.1) && decide (f.2 = g.2)).length 0 (sC (l.filter fun f => m.any fun g => decide (f.1 = g.1) && decide (f.2 = g.2)))] := by
 refine hasQ_of' mixo x39ok ⟨by simp, by decide⟩ ?_
 generalize hp : (fun f : Int × Int => m.any fun g => decide (f.1 = g.1) && decide (f.2 = g.2)) = p
 simp only [argE]
 repeat (first | (with_reducible refine GA.go mixo rfl ?_) | simp only [go_sem, simprocAttr])
 refine GA.wk (Wk.nil 5 2 102 (by simp only [go_sem, simprocAttr]) (by decide) (by simp only [go_sem, simprocAttr])) ?_
 simp only [env_put]
 refine GA.loop (I := fun mm e H => ∃ (k : Nat) (xs : List (Int × Int)), mm = l.length - k ∧ k ≤ l.length ∧ xs = (l.take k).filter p ∧ e = envOf [(1, .fs 2 m.length (sC m)), (8, .fs 2 l.length (sC l)), (9, .n .i64 l.length), (10, .n .i64 k), (5, .os 0 xs.length)] ∧ H = heapOf [rowB 102 2 xs.length 0 (sC xs)]) (Wk.mk [0] [] ?_ ?_ ?_) ⟨0, [], rfl, by omega, rfl, rfl, rfl⟩ ?_
 ·simp only [WkE, WkH, go_sem, simprocAttr]
  repeat' refine and_of ?_ ?_
  all_goals first | exact wkt | skip
 ·exact .cons rfl (.rows (by simp only [go_sem, simprocAttr]; rfl) rfl rfl rfl (by decide) (by decide) (by decide) (fun i j h => by simp at h) (fun i j h => by simp at h)) .nil
 ·simp
 rintro mm e H ⟨k, xs, rfl, hk, hs, rfl, rfl⟩
 repeat (first | (with_reducible refine GA.go mixo rfl ?_) | simp only [go_sem, simprocAttr])
 refine ⟨fun h => ?_, fun h => ?_⟩
 ·have hk' : k < l.length := by omega
  have h0 : (0 : Int) ≤ (k : Int) := by omega
  repeat (first | (with_reducible refine GA.go mixo rfl ?_) | simp only [h0, h, sC0, sC1, go_sem, simprocAttr])
  have hlt : xs.length ≤ l.length := by rw [hs]; exact Nat.le_trans (List.length_filter_le _ _) (by rw [List.length_take]; exact Nat.min_le_right _ _)
  refine gcall_has [] (.cons (.rfl rfl) (.cons (.rfl rfl) .nil)) (containsS_has m (l.getD k (0, 0)) hm) (by simp only [go_sem, simprocAttr]) ?_
  have hpk : (m.any fun g => decide ((l.getD k (0, 0)).1 = g.1) && decide ((l.getD k (0, 0)).2 = g.2)) = p (l.getD k (0, 0)) := by rw [← hp]
  rw [hpk]
  have htk : (l.take (k + 1)).filter p = xs ++ (if p (l.getD k (0, 0)) = true then [l.getD k (0, 0)] else []) := by
   rw [take_nx (d := (0, 0)) hk', List.filter_append, ← hs]
   simp only [List.filter_cons, List.filter_nil]
  have hlim : (xs.length + 1) * 2 < 1099511627776 ∧ (xs.length + 1) * 16 ≤ 140737488355328 ∧ xs.length + 1 ≤ 9223372036854775807 := by omega
  repeat (first | (with_reducible refine GA.go mixo rfl ?_) | simp only [go_sem, simprocAttr])
  refine ⟨fun h1 => ?_, fun h1 => ?_⟩
  ·rw [if_pos h1] at htk
   repeat (first | (with_reducible refine GA.go mixo rfl ?_) | simp only [hlim.1, hlim.2.1, hlim.2.2, decide_true, go_sem, simprocAttr])
   refine ⟨_, _, _, ?_, Wk.mk [3] [] ?_ ?_ ?_, k + 1, xs ++ [l.getD k (0, 0)], rfl, by omega, htk.symm, rfl, rfl⟩
   ·omega
   ·simp only [WkE, WkH, go_sem, simprocAttr]
    repeat' refine and_of ?_ ?_
    all_goals first | exact wkt | skip
   ·refine .cons rfl (.rows (x := _) (by simp only [go_sem, simprocAttr]; rfl) (by rfl) (by rfl) (by rfl) ?_ (Nat.le_refl _) (by decide) ?_ (fun i j _ hj => by unfold sC; split <;> rfl)) .nil
    ·simp only [go_sem, simprocAttr]; omega
    ·simp only [go_sem, simprocAttr]
     exact snoc_get rfl (by omega) (fun i j hi _ => by unfold sC; rw [getD_app_lt hi]) (fun j hj => by
      have hj2 : j = 0 ∨ j = 1 := by omega
      unfold sC
      rw [getD_app_eq]
      rcases hj2 with rfl | rfl <;> rfl)
   ·simp
  ·rw [if_neg (by rw [h1]; simp), List.append_nil] at htk
   repeat (first | (with_reducible refine GA.go mixo rfl ?_) | simp only [go_sem, simprocAttr])
   refine ⟨_, _, _, ?_, Wk.mk [0] [] ?_ ?_ ?_, k + 1, xs, rfl, by omega, htk.symm, rfl, rfl⟩
   ·omega
   ·simp only [WkE, WkH, go_sem, simprocAttr]
    repeat' refine and_of ?_ ?_
    all_goals first | exact wkt | skip
   ·exact .cons rfl (.keep (by simp only [go_sem, simprocAttr]) rfl (by decide) (fun i j _ hj => by unfold sC; split <;> rfl)) .nil
   ·simp
 ·repeat (first | (with_reducible refine GA.go mixo rfl ?_) | simp only [go_sem, simprocAttr])
  have : k = l.length := by omega
  subst this
  rw [List.take_length] at hs
  subst hs
  refine ⟨[_], rfl, .o (x := _) (by simp only [go_sem, simprocAttr]; rfl) (by rfl) (by rfl) (by rfl) (by decide) (Nat.le_refl _) (Nat.le_refl _) (fun i j _ hj => row_get i j hj) (fun i j _ _ => by unfold sC; split <;> rfl) rfl .nil⟩
theorem without1S_has (x : In) (f : Int × Int) (g : FuncId) (c1 c2 : List AV) (vv : AV) (D : Bool) (hd : Has Tryz.prog g (c1 ++ [insV x, sV f] ++ c2) [.v (.b D)]) (hpu : (c1.all (AV.pu 2) && c2.all (AV.pu 2)) = true) :
  Has Tryz.prog 114 [insV x, .fp 2 (fun j => [AV.f g c1 c2, vv][j]?.getD .u) 0, .fp 2 (fun j => [AV.n .i64 f.1, AV.n .i64 f.2][j]?.getD .u) 0] [.v (.b D)] := by
 refine hasQ_of' mixo x40ok ⟨by simp, by decide⟩ ?_
 simp only [argE, insV]
 repeat (first | (with_reducible refine GA.go mixo rfl ?_) | simp only [go_sem, simprocAttr])
 refine gcall_has [] (fargs := c1 ++ [insV x, sV f] ++ c2) ?_ hd (by simp only [next_new, heap_next, List.length_nil]; decide) ?_
 ·refine Cvs.same ?_
  simp only [List.all_append, Bool.and_eq_true] at hpu ⊢
  exact ⟨⟨all_pu_succ hpu.1, rfl⟩, all_pu_succ hpu.2⟩
 repeat (first | (with_reducible refine GA.go mixo rfl ?_) | simp only [go_sem, simprocAttr])
 exact has_end1 rfl rfl
theorem withoutS_has (l : List (Int × Int)) (cs : List In) (g : FuncId) (c1 c2 : List AV) (vv : AV) (D : In → Int × Int → Bool) (hd : ∀ x ∈ cs, ∀ f, Has Tryz.prog g (c1 ++ [insV x, sV f] ++ c2) [.v (.b (D x f))]) (hpu : (c1.all (AV.pu 2) && c2.all (AV.pu 2)) = true) (hvv : vv.cell = true)
  (hl : l.length < 1000000) (hcs : cs.length < 1000000) :
  Has Tryz.prog 97 [.fs 2 l.length (sC l), .agg [.f g c1 c2, vv], .fs 5 cs.length (cC cs)]
   [.o 102 2 (l.filter fun f => !cs.any fun x => D x f).length 0 (sC (l.filter fun f => !cs.any fun x => D x f))] := by
 refine hasQ_of' mixo x38ok ⟨by simp, by decide⟩ ?_
 have hfn : (AV.f g c1 c2).cell = true := by
  simp only [AV.cell, AV.pu, AV.one, Bool.and_true]; exact hpu
 have hvo : vv.one = true := by simp only [AV.cell, Bool.and_eq_true] at hvv; exact hvv.2
 have hvp : vv.pu 3 = true := by simp only [AV.cell, Bool.and_eq_true] at hvv; exact hvv.1
 have hfp : (AV.f g c1 c2).pu 3 = true := hpu
 generalize hp : (fun f : Int × Int => !cs.any fun x => D x f) = p
 simp only [argE]
 repeat (first | (with_reducible refine GA.go mixo rfl ?_) | simp only [hvo, go_sem, simprocAttr])
 refine GA.wk (Wk.nil 7 2 102 (by simp only [go_sem, simprocAttr]) (by decide) (by simp only [next_new, heap_next, List.length_nil]; decide)) ?_
 simp only [env_put]
 refine GA.loop (I := fun mm e H => ∃ (k : Nat) (xs : List (Int × Int)), mm = l.length - k ∧ k ≤ l.length ∧ xs = (l.take k).filter p ∧ e = envOf [(2, .fs 5 cs.length (cC cs)), (4, .p 0 0), (10, .fs 2 l.length (sC l)), (11, .n .i64 l.length), (12, .n .i64 k), (7, .os 1 xs.length)] ∧ H = heapOf [rowB 102 2 xs.length 0 (sC xs), lstZ 0 108 [.f g c1 c2, vv]]) (Wk.mk [1, 0] [] ?_ ?_ ?_) ⟨0, [], rfl, by omega, rfl, rfl, rfl⟩ ?_
 ·simp only [WkE, WkH, go_sem, simprocAttr]
  repeat' refine and_of ?_ ?_
  all_goals first | exact wkt | skip
 ·refine .cons rfl (.rows (x := _) (by simp only [go_sem, simprocAttr]; rfl) (by rfl) (by rfl) (by rfl) (by decide) (by decide) (by decide) (fun i j h => by simp at h) (fun i j h => by simp at h)) (.cons rfl (.lstz (x := _) (by simp only [go_sem, simprocAttr]; rfl) (by rfl) (by rfl) (by rfl) (by rfl) (by simp) (by simp) (fun i hi => by simp only [get_trOf, List.length_cons, List.length_nil, Nat.reduceAdd, Nat.reduceLT]) (by simp only [List.all_cons, List.all_nil, hfp, hvp, Bool.and_self])) .nil)
 ·simp
 rintro mm e H ⟨k, xs, rfl, hk, hs, rfl, rfl⟩
 repeat (first | (with_reducible refine GA.go mixo rfl ?_) | simp only [go_sem, simprocAttr])
 refine ⟨fun h => ?_, fun h => ?_⟩
 ·have hk' : k < l.length := by omega
  have h0 : (0 : Int) ≤ (k : Int) := by omega
  repeat (first | (with_reducible refine GA.go mixo rfl ?_) | simp only [h0, h, sC0, sC1, go_sem, simprocAttr])
  have hlt : xs.length ≤ l.length := by rw [hs]; exact Nat.le_trans (List.length_filter_le _ _) (by rw [List.length_take]; exact Nat.min_le_right _ _)
  refine gcall_has [0, 2] (fargs := [.fs 5 cs.length (cC cs), .f 114 [] [.fp 2 (fun j => [AV.f g c1 c2, vv][j]?.getD .u) 0, .fp 2 (fun j => [AV.n .i64 (l.getD k (0, 0)).1, AV.n .i64 (l.getD k (0, 0)).2][j]?.getD .u) 0]])
   ?_
   (containsFuncI_has cs 114 [] _ (fun x => D x (l.getD k (0, 0))) (fun x hx => without1S_has x (l.getD k (0, 0)) g c1 c2 vv (D x (l.getD k (0, 0))) (hd x hx _) hpu) hcs rfl) (by simp only [go_sem, simprocAttr]) ?_
  ·refine .cons (.rfl rfl) (.cons (.fn .nil (.cons ?_ (.cons ?_ .nil))) .nil)
   ·exact Cv.box (l := [AV.f g c1 c2, vv]) (b := 0) rfl (x := _) (by simp only [go_sem, simprocAttr]; rfl) (by rfl) (by simp) (fun j hj => by simp only [lstZ_get, List.length_cons, List.length_nil, Nat.reduceAdd, Nat.reduceLT]) (by simp only [List.all_cons, List.all_nil, hfn, hvv, Bool.and_self])
   ·refine Cv.box (l := [AV.n .i64 (l.getD k (0, 0)).1, AV.n .i64 (l.getD k (0, 0)).2]) (b := 2) rfl (x := _) (by simp only [go_sem, simprocAttr]; rfl) (by rfl) (by simp) (fun j hj => ?_) rfl
    have hj2 : j = 0 ∨ j = 1 := by simp at hj; omega
    rcases hj2 with rfl | rfl <;> simp only [go_sem, simprocAttr]
  have hpk : (!cs.any fun x => D x (l.getD k (0, 0))) = p (l.getD k (0, 0)) := by rw [← hp]
  have htk : (l.take (k + 1)).filter p = xs ++ (if p (l.getD k (0, 0)) = true then [l.getD k (0, 0)] else []) := by
   rw [take_nx (d := (0, 0)) hk', List.filter_append, ← hs]
   simp only [List.filter_cons, List.filter_nil]
  have hlim : (xs.length + 1) * 2 < 1099511627776 ∧ (xs.length + 1) * 16 ≤ 140737488355328 ∧ xs.length + 1 ≤ 9223372036854775807 := by omega
  repeat (first | (with_reducible refine GA.go mixo rfl ?_) | simp only [hpk, go_sem, simprocAttr])
  refine ⟨fun h1 => ?_, fun h1 => ?_⟩
  ·rw [if_pos h1] at htk
   repeat (first | (with_reducible refine GA.go mixo rfl ?_) | simp only [hlim.1, hlim.2.1, hlim.2.2, decide_true, go_sem, simprocAttr])
   refine ⟨_, _, _, ?_, Wk.mk [4, 0] [] ?_ ?_ ?_, k + 1, xs ++ [l.getD k (0, 0)], rfl, by omega, htk.symm, rfl, rfl⟩
   ·omega
   ·simp only [WkE, WkH, go_sem, simprocAttr]
    repeat' refine and_of ?_ ?_
    all_goals first | exact wkt | skip
   ·refine .cons rfl (.rows (x := _) (by simp only [go_sem, simprocAttr]; rfl) (by rfl) (by rfl) (by rfl) ?_ (Nat.le_refl _) (by decide) ?_ (fun i j _ hj => by unfold sC; split <;> rfl)) (.cons rfl (.lstz (x := _) (by simp only [go_sem, simprocAttr]; rfl) (by rfl) (by rfl) (by rfl) (by rfl) ?_ (by simp) ?_ (by simp only [List.all_cons, List.all_nil, hfp, hvp, Bool.and_self])) .nil)
    ·simp only [go_sem, simprocAttr]; omega
    ·simp only [go_sem, simprocAttr]
     exact snoc_get rfl (by omega) (fun i j hi _ => by unfold sC; rw [getD_app_lt hi]) (fun j hj => by
      have hj2 : j = 0 ∨ j = 1 := by omega
      unfold sC
      rw [getD_app_eq]
      rcases hj2 with rfl | rfl <;> rfl)
    ·simp [fr_fzn, lstZ_size, lstZ_fzn]
    ·intro i hi
     exact lstZ_get _ _ _ i (by simp)
   ·simp
  ·rw [if_neg (by rw [h1]; simp), List.append_nil] at htk
   repeat (first | (with_reducible refine GA.go mixo rfl ?_) | simp only [go_sem, simprocAttr])
   refine ⟨_, _, _, ?_, Wk.mk [1, 0] [] ?_ ?_ ?_, k + 1, xs, rfl, by omega, htk.symm, rfl, rfl⟩
   ·omega
   ·simp only [WkE, WkH, go_sem, simprocAttr]
    repeat' refine and_of ?_ ?_
    all_goals first | exact wkt | skip
   ·refine .cons rfl (.keep (by simp only [go_sem, simprocAttr]) rfl (by decide) (fun i j _ hj => by unfold sC; split <;> rfl)) (.cons rfl (.lstz (x := _) (by simp only [go_sem, simprocAttr]; rfl) (by rfl) (by rfl) (by rfl) (by rfl) ?_ (by simp) ?_ (by simp only [List.all_cons, List.all_nil, hfp, hvp, Bool.and_self])) .nil)
    ·simp [fr_fzn, lstZ_size, lstZ_fzn]
    ·intro i hi
     exact lstZ_get _ _ _ i (by simp)
   ·simp
 ·repeat (first | (with_reducible refine GA.go mixo rfl ?_) | simp only [go_sem, simprocAttr])
  have : k = l.length := by omega
  subst this
  rw [List.take_length] at hs
  subst hs
  refine ⟨[_], rfl, .o (x := _) (by simp only [go_sem, simprocAttr]; rfl) (by rfl) (by rfl) (by rfl) (by decide) (Nat.le_refl _) (Nat.le_refl _) (fun i j _ hj => row_get i j hj) (fun i j _ _ => by unfold sC; split <;> rfl) rfl .nil⟩
end Go.Proofs.YtidhfimbnjaceaaGreat

namespace Go.Proofs.YtidhfimbnjaceaaGreat
open Go.RowKit
set_option linter.unusedVariables false
set_option linter.unusedSimpArgs false
end Go.Proofs.YtidhfimbnjaceaaGreat
