/- A part of the proof of OptimizerPrunes: FwS FsB FvB FwK AcH. No condition. -/
import Derived.Test.YtidhfimbnjaceaaGreatGp14
import Derived.Test.YtidhfimbnjaceaaGreatGp12
import Derived.Test.YtidhfimbnjaceaaGreatProg
set_option linter.unusedSimpArgs false
set_option linter.unusedVariables false
set_option linter.constructorNameAsVariable false
set_option maxRecDepth 100000
set_option maxHeartbeats 4000000
namespace Go.Proofs.YtidhfimbnjaceaaGreat
open Go.RowKit
set_option linter.unusedVariables false
set_option linter.unusedSimpArgs false
theorem factS_cell (l : List (Int × Int)) (i j : Nat) (hj : j < 2) : (sC l i j).cell = true := by
 have h5 : j = 0 ∨ j = 1 ∨ j = 2 ∨ j = 3 ∨ j = 4 := by omega
 rcases h5 with rfl | rfl | rfl | rfl | rfl <;> first | rfl | omega
def oCS (st : List (List (Int × Int))) (i _j : Nat) : AV := .fs 2 (st.reverse.getD i []).length (sC (st.reverse.getD i []))
theorem oCS_cons (st : List (List (Int × Int))) (t : List (Int × Int)) (i j : Nat) (hi : i < st.length) : oCS (t :: st) i j = oCS st i j := by
 unfold oCS; rw [List.reverse_cons, getD_app_lt (by simpa using hi)]
theorem oCS_top (st : List (List (Int × Int))) (t : List (Int × Int)) (j : Nat) : oCS (t :: st) st.length j = .fs 2 t.length (sC t) := by
 unfold oCS; rw [List.reverse_cons]
 have := getD_app_eq (l := st.reverse) (x := t) (d := [])
 rw [List.length_reverse] at this
 rw [this]
theorem walkS_has {n0 : Nat} {pf : (Int × Int) → Prop} (D : In → (Int × Int) → Bool) (V : In → List (Int × Int) → In × Bool × List (Int × Int)) (g v : FuncId) (cs : List In) (fs0 : List (Int × Int)) (pt : List Int) (fin : WSt (Int × Int))
  (hD : ∀ x, opOk x → ∀ f, Has Tryz.prog g ([] ++ [insV x, sV f] ++ []) [.v (.b (D x f))])
  (hV : ∀ x ∈ cs, ∀ fs : List (Int × Int), fs.length < 1000000 → (∀ f ∈ fs, pf f) → Has Tryz.prog v [insV x, .fs 2 fs.length (sC fs)] [.v (insV (V x fs).1), .v (.b (V x fs).2.1), .v (.fs 2 (V x fs).2.2.length (sC (V x fs).2.2))])
  (hV1 : ∀ x ∈ cs, ∀ fs : List (Int × Int), (∀ f ∈ fs, pf f) → (V x fs).2.2.length ≤ 1 ∧ ∀ f ∈ (V x fs).2.2, pf f)
  (hV2 : ∀ x ∈ cs, ∀ fs : List (Int × Int), (∀ f ∈ fs, pf f) → opOk (V x fs).1)
  (hcs : cs.length < 400000) (hok : ∀ x ∈ cs, opOk x) (hn0 : fs0.length ≤ n0) (hn1 : n0 < 400000) (hpf : ∀ f ∈ fs0, pf f)
  (hpt : pairsP cs = some pt) (hptl : pt.length = cs.length) (hgo : walkGo D (fun f g => decide (f.1 = g.1) && decide (f.2 = g.2)) V cs pt cs 0 ⟨[], fs0, []⟩ = some fin) :
  Has Tryz.prog 64 [.fs 5 cs.length (cC cs), .fs 2 fs0.length (sC fs0), .agg [.f g [] [], .f v [] []]] [.o 37 5 fin.out.length 0 (cC fin.out)] := by
 have hpa := pairs_has cs (by omega) pt hpt
 refine hasQ_of' mixo x35ok ⟨by simp, by decide⟩ ?_
 simp only [argE]
 have hfg : (AV.f g [] []).pu 3 = true := rfl
 have hfv : (AV.f v [] []).pu 3 = true := rfl
 repeat (first | (with_reducible refine GA.go mixo rfl ?_) | simp only [go_sem, simprocAttr])
 refine gcall_has [] (.cons (.rfl (by rfl)) .nil) hpa (by simp only [go_sem, simprocAttr]) ?_
 simp only [go_sem, simprocAttr]
 refine GA.wk (Wk.mk (L := [(0, .fs 5 cs.length (cC cs)), (1, .fs 2 fs0.length (sC fs0)), (5, .p 0 0), (7, .fs 1 pt.length (iC .i64 pt))]) (bl := [lstB 0 108 [.f g [] [], .f v [] []]]) [0] [1] ?_ ?_ ?_) ?_
 ·simp only [WkE, WkH, go_sem, simprocAttr]
  repeat' refine and_of ?_ ?_
  all_goals first | trivial | exact Wv.same rfl | exact Wv.p rfl | skip
  refine Wv.cv (Cv.own (ty := 3) (z := 0) (by simp) (by simp only [go_sem, simprocAttr]) (fun i j _ _ => rfl))
 ·refine .cons rfl (.ls) .nil
 ·simp
 with_reducible refine GA.seq ?_
 with_reducible refine GA.reg ?_
 simp only [go_sem, simprocAttr]
 with_reducible refine GA.seq ?_
 with_reducible refine GA.reg ?_
 simp only [go_sem, simprocAttr]
 refine GA.wk (Wk.nil 8 5 37 (by simp only [go_sem, simprocAttr]) (by decide) (by simp only [go_sem, simprocAttr])) ?_
 refine GA.wk (Wk.nil 9 1 104 (by simp only [go_sem, simprocAttr]) (by decide) (by simp only [go_sem, simprocAttr])) ?_
 simp only [env_put]
 repeat (first | (with_reducible refine GA.go mixo rfl ?_) | simp only [go_sem, simprocAttr])
 refine GA.loop (I := fun mm e H => ∃ (k : Nat) (s : WSt (Int × Int)), mm = cs.length - k ∧ k ≤ cs.length ∧ WInv pf n0 k s ∧ walkGo D (fun f g => decide (f.1 = g.1) && decide (f.2 = g.2)) V cs pt (cs.drop k) k s = some fin ∧
   e = envOf [(0, .fs 5 cs.length (cC cs)), (1, .fs 2 s.fs.length (sC s.fs)), (5, .p 0 0), (7, .fs 1 pt.length (iC .i64 pt)), (18, .fs 5 cs.length (cC cs)), (19, .n .i64 cs.length), (20, .n .i64 k), (8, .os 1 s.out.length), (9, .os 2 s.op.length)] ∧
   H = heapOf [rowB 104 1 s.op.length 0 (oCS s.op), rowB 37 5 s.out.length 0 (cC s.out), lstB 0 108 [.f g [] [], .f v [] []]]) (Wk.mk [2, 1, 0] [] ?_ ?_ ?_) ⟨0, ⟨[], fs0, []⟩, rfl, by omega, ⟨by simp, by simp, by simp only; omega, hpf, by simp, by simp⟩, hgo, rfl, rfl⟩ ?_
 ·simp only [WkE, WkH, go_sem, simprocAttr]
  repeat' refine and_of ?_ ?_
  all_goals first | exact wkt | skip
 ·refine .cons rfl (.rows (by simp only [go_sem, simprocAttr]; rfl) rfl rfl rfl (by simp) (by decide) (by decide) (fun i j h => by simp at h) (fun i j h => by simp at h)) (.cons rfl (.rows (by simp only [go_sem, simprocAttr]; rfl) rfl rfl rfl (by simp) (by decide) (by decide) (fun i j h => by simp at h) (fun i j h => by simp at h)) (.cons rfl (.ls) .nil))
 ·simp
 rintro mm e H ⟨k, ⟨out, fs, op⟩, rfl, hk, hinv, hs, rfl, rfl⟩
 have ⟨hi1, hi2, hi3, hi4, hi5, hi6⟩ := hinv
 simp only at hi1 hi2 hi3 hi4 hi5 hi6
 repeat (first | (with_reducible refine GA.go mixo rfl ?_) | simp only [go_sem, simprocAttr])
 refine ⟨fun h => ?_, fun h => ?_⟩
 ·have hkn : k < cs.length := by omega
  have h0 : (0 : Int) ≤ (k : Int) := by omega
  have hk1 : k + 1 ≤ cs.length := hkn
  have hm : cs.getD k dIn ∈ cs := by rw [List.getD_eq_getElem?_getD, List.getElem?_eq_getElem hkn]; exact List.getElem_mem _
  rw [drop_nx (d := dIn) hkn, walkGo] at hs
  obtain ⟨s2, hst, hs⟩ := Option.bind_eq_some_iff.1 hs
  have hcc0 : cC cs k 0 = .n .i64 (cs.getD k dIn).1 := cC0 cs k
  have hcc1 : cC cs k 1 = .n .i64 (cs.getD k dIn).2.1 := cC1 cs k
  have hcc2 : cC cs k 2 = .n .i64 (cs.getD k dIn).2.2.1 := cC2 cs k
  have hcc3 : cC cs k 3 = .n .i64 (cs.getD k dIn).2.2.2.1 := cC3 cs k
  have hcc4 : cC cs k 4 = .n .u32 (cs.getD k dIn).2.2.2.2 := cC4 cs k
  generalize cs.getD k dIn = x at hst hcc0 hcc1 hcc2 hcc3 hcc4 hm
  have hcv := hV x hm fs (by omega) hi4
  have hv1 := hV1 x hm
  have hv2 := hV2 x hm fs hi4
  have key := walkStep_inv hinv hv1 hst
  have hv1 := hv1 fs hi4
  unfold walkStep at hst
  simp only at hst
  generalize V x fs = r at hst hcv hv1 hv2
  obtain ⟨y, rem, more⟩ := r
  obtain ⟨opc, to, a, b, arg⟩ := x
  obtain ⟨yopc, yto, ya, yb, yarg⟩ := y
  simp only [insV] at hst hcv hv1 hv2 hcc0 hcc1 hcc2 hcc3 hcc4
  repeat (first | (with_reducible refine GA.go mixo rfl ?_) | simp only [h0, h, hcc0, hcc1, hcc2, hcc3, hcc4, go_sem, simprocAttr])
  refine gcall_has [] (.cons (.rfl (by rfl)) (.cons (.rfl (by rfl)) .nil)) hcv (by simp only [go_sem, simprocAttr]) ?_
  repeat (first | (with_reducible refine GA.go mixo rfl ?_) | simp only [go_sem, simprocAttr])
  have ht : rem = false ∨ rem = true := by cases rem <;> simp
  refine ⟨fun hr => ?_, fun hr => ?_⟩
  ·rw [hr, if_neg (by simp)] at hst
   cases hst
   repeat (first | (with_reducible refine GA.go mixo rfl ?_) | simp only [go_sem, simprocAttr])
   refine ⟨_, _, _, ?_, Wk.mk [2, 1, 0] [] ?_ ?_ ?_, k + 1, _, rfl, by omega, key, hs, rfl, rfl⟩
   ·omega
   ·simp only [WkE, WkH, go_sem, simprocAttr]
    repeat' refine and_of ?_ ?_
    all_goals first | exact wkt | skip
   ·refine .cons rfl (.k1) (.cons rfl (.k5) (.cons rfl (.ls) .nil))
   ·simp
  rw [hr, if_pos rfl] at hst
  obtain ⟨⟨fs', op'⟩, hsw, rfl⟩ := Option.map_eq_some_iff.1 hst
  simp only at key hs
  have hinv2 := walkSw_inv hinv hsw
  obtain ⟨hj1, hj2, hj3, hj4, hj5⟩ := hinv2
  simp only at hj1 hj2 hj3 hj4 hj5
  (try simp only [go_sem, simprocAttr])
  iterate 4 (with_reducible refine GA.go mixo rfl ?_; try simp only [go_sem, simprocAttr])
  have hy5 : ∀ j, j < 5 → [AV.n .i64 yopc, AV.n .i64 yto, AV.n .i64 ya, AV.n .i64 yb, AV.n .u32 yarg][j]?.getD .u = cC [(yopc, yto, ya, yb, yarg)] 0 j := fun j hj => by rcases lt5 hj with rfl | rfl | rfl | rfl | rfl <;> rfl
  refine GA.wk (Wk.mk (L := [(0, .fs 5 cs.length (cC cs)), (1, .fs 2 fs.length (sC fs)), (5, .p 0 0), (7, .fs 1 pt.length (iC .i64 pt)), (18, .fs 5 cs.length (cC cs)), (19, .n .i64 cs.length), (20, .n .i64 k), (8, .os 1 out.length), (9, .os 2 op.length), (10, .n .i64 k), (11, .p 3 0), (12, .p 4 0), (14, .fs 2 more.length (sC more)), (15, .n .i64 ((op.length : Int) - 1))])
   (bl := [lstB 0 37 [.n .i64 yopc, .n .i64 yto, .n .i64 ya, .n .i64 yb, .n .u32 yarg], lstB 0 37 [.n .i64 opc, .n .i64 to, .n .i64 a, .n .i64 b, .n .u32 arg], rowB 104 1 op.length 0 (oCS op), rowB 37 5 out.length 0 (cC out), lstB 0 108 [.f g [] [], .f v [] []]]) [4, 3, 2, 1, 0] [] ?_ ?_ ?_) ?_
  ·simp only [WkE, WkH, go_sem, simprocAttr]
   repeat' refine and_of ?_ ?_
   all_goals first | exact wkt | skip
  ·refine .cons rfl (.lsti (x := _) (by simp only [go_sem, simprocAttr] <;> rfl) (by rfl) (by rfl) (by rfl) (by rfl) (by rfl) (by rfl) (by simp) (fun i hi => ?_) (by rfl)) (.cons rfl (.lsti (x := _) (by simp only [go_sem, simprocAttr] <;> rfl) (by rfl) (by rfl) (by rfl) (by rfl) (by rfl) (by rfl) (by simp) (fun i hi => ?_) (by rfl)) (.cons rfl (.k1) (.cons rfl (.k5) (.cons rfl (.ls) .nil))))
   ·rcases lt5 hi with rfl | rfl | rfl | rfl | rfl <;> simp only [go_sem, simprocAttr]
   ·rcases lt5 hi with rfl | rfl | rfl | rfl | rfl <;> simp only [go_sem, simprocAttr]
  ·simp
  refine GA.cutQ (envOf [(0, .fs 5 cs.length (cC cs)), (1, .fs 2 fs'.length (sC fs')), (5, .p 0 0), (7, .fs 1 pt.length (iC .i64 pt)), (18, .fs 5 cs.length (cC cs)), (19, .n .i64 cs.length), (20, .n .i64 k), (8, .os 1 out.length), (9, .os 2 op'.length), (12, .p 3 0), (14, .fs 2 more.length (sC more))])
   (heapOf [lstB 0 37 [.n .i64 yopc, .n .i64 yto, .n .i64 ya, .n .i64 yb, .n .u32 yarg], rowB 104 1 op'.length 0 (oCS op'), rowB 37 5 out.length 0 (cC out), lstB 0 108 [.f g [] [], .f v [] []]]) ?_ ?_
  rotate_left
  ·intro e' H' hw
   refine GA.wk hw ?_
   have hwo := withoutS_has fs' [(yopc, yto, ya, yb, yarg)] g [] [] (.f v [] []) D (fun z hz f => by
    rw [List.mem_singleton.1 hz]; exact hD _ hv2 f) rfl rfl (by omega) (by simp)
   have hwl := woF_len D fs' [(yopc, yto, ya, yb, yarg)]
   change Has _ _ _ [.o 102 2 (woF D fs' [(yopc, yto, ya, yb, yarg)]).length 0 (sC (woF D fs' [(yopc, yto, ya, yb, yarg)]))] at hwo
   generalize woF D fs' [(yopc, yto, ya, yb, yarg)] = wfs at hwo hwl key hs
   have hlim : (wfs.length + more.length) * 2 < 1099511627776 ∧ (wfs.length + more.length) * 16 ≤ 140737488355328 ∧ wfs.length + more.length ≤ 9223372036854775807 := by omega
   have hlio : (out.length + 1) * 5 < 1099511627776 ∧ (out.length + 1) * 40 ≤ 140737488355328 ∧ out.length + 1 ≤ 9223372036854775807 := by omega
   repeat (first | (with_reducible refine GA.go mixo rfl ?_) | simp only [hlim.1, hlim.2.1, hlim.2.2, hlio.1, hlio.2.1, hlio.2.2, decide_true, go_sem, simprocAttr])
   refine gcall_has [4] (fargs := [.fs 2 fs'.length (sC fs'), .agg [.f g [] [], .f v [] []], .fs 5 [(yopc, yto, ya, yb, yarg)].length (cC [(yopc, yto, ya, yb, yarg)])]) ?_ hwo (by simp only [go_sem, simprocAttr]) ?_
   ·refine .cons (.rfl (by rfl)) (.cons (.rfl (by rfl)) (.cons ?_ .nil))
    refine Cv.sl (x := _) (by simp) (by simp only [go_sem, simprocAttr] <;> rfl) (by simp) (by simp) (by simp) (fun i j hi hj => ?_) (fun i j hi hj => by rcases lt5 hj with rfl | rfl | rfl | rfl | rfl <;> rfl)
    obtain rfl : i = 0 := by simpa using hi
    rw [← hy5 j hj]
    rcases lt5 hj with rfl | rfl | rfl | rfl | rfl <;> simp only [go_sem, simprocAttr]
   repeat (first | (with_reducible refine GA.go mixo rfl ?_) | simp only [hlim.1, hlim.2.1, hlim.2.2, hlio.1, hlio.2.1, hlio.2.2, decide_true, go_sem, simprocAttr])
   refine ⟨_, _, _, ?_, Wk.mk [2, 8, 0] [6] ?_ ?_ ?_, k + 1, _, rfl, by omega, key, hs, rfl, rfl⟩
   ·omega
   ·simp only [WkE, WkH, go_sem, simprocAttr]
    repeat' refine and_of ?_ ?_
    all_goals first | exact wkt | skip
    refine Wv.cv (Cv.os (x := _) (by simp) (by simp only [go_sem, simprocAttr] <;> rfl) (by simp only [go_sem, simprocAttr] <;> omega) (fun i j hi hj => ?_) (fun i j hi hj => factS_cell _ _ _ hj))
    rw [app_fn_get hj hi (by omega), row_get i j hj]
    unfold sC
    by_cases hw : wfs.length ≤ i
    ·rw [if_pos hw]
     simp only [List.getD_eq_getElem?_getD, List.getElem?_append_right hw]
    ·rw [if_neg hw]
     simp only [List.getD_eq_getElem?_getD, List.getElem?_append_left (Nat.lt_of_not_le hw)]
   ·rw [show (out ++ [(yopc, yto, ya, yb, yarg)]).length = out.length + 1 from by simp]
    refine .cons rfl (.k1) (.cons rfl (.snoc (by simp only [go_sem, simprocAttr] <;> rfl) (by simp) (by rfl) rfl (by decide) (by omega) (fun i j hi _ => by unfold cC; rw [getD_app_lt hi]) (fun j hj => by
     unfold cC
     rw [getD_app_eq]
     exact (hy5 j hj).symm) (fun i j _ hj => by rcases lt5 hj with rfl | rfl | rfl | rfl | rfl <;> rfl)) (.cons rfl (.ls) .nil))
   ·simp
  unfold walkSw at hsw
  repeat (first | (with_reducible refine GA.go mixo rfl ?_) | simp only [go_sem, simprocAttr])
  refine ⟨fun h1 => ?_, fun h1 => ?_⟩
  ·rw [if_pos h1] at hsw
   injection hsw with hsw
   injection hsw with e1 e2
   subst e1 e2
   have hlo : op.length + 1 < 1099511627776 ∧ (op.length + 1) * 24 ≤ 140737488355328 ∧ op.length + 1 ≤ 9223372036854775807 := by omega
   repeat (first | (with_reducible refine GA.go mixo rfl ?_) | simp only [hlo.1, hlo.2.1, hlo.2.2, decide_true, go_sem, simprocAttr])
   refine Wk.mk [4, 6, 1, 0] [] ?_ ?_ ?_
   ·simp only [WkE, WkH, go_sem, simprocAttr]
    repeat' refine and_of ?_ ?_
    all_goals first | exact wkt | skip
   ·refine .cons rfl (.ls) (.cons rfl (.snoc (by simp only [go_sem, simprocAttr] <;> rfl) (by simp) (by rfl) rfl (by decide) (by omega) (fun i j hi _ => oCS_cons _ _ _ _ hi) (fun j hj => by
     cases Nat.lt_one_iff.1 hj
     exact oCS_top _ _ _) (fun i j _ _ => rfl)) (.cons rfl (.k5) (.cons rfl (.ls) .nil)))
   ·simp
  rw [if_neg h1] at hsw
  repeat (first | (with_reducible refine GA.go mixo rfl ?_) | simp only [go_sem, simprocAttr])
  refine ⟨fun h2 => ?_, fun h2 => ?_⟩
  ·rw [if_pos h2] at hsw
   cases op with
   |nil => cases hsw
   |cons t r =>
   simp only at hsw
   injection hsw with hsw
   injection hsw with e1 e2
   subst e1 e2
   have hrl : r.length ≤ k := by simp only [List.length_cons] at hi2; omega
   have hsub : ((r.length + 1 : Nat) : Int) - 1 = (r.length : Int) := by omega
   have hz0 : (0 : Int) ≤ (r.length : Int) := by omega
   have hz1 : (r.length : Int) < ((r.length + 1 : Nat) : Int) := by omega
   have hz2 : r.length < r.length + 1 := by omega
   have hg : (rowB 104 1 (r.length + 1) 0 (oCS (t :: r))).get r.length = .fs 2 t.length (sC t) := by
    rw [row_get1]; exact oCS_top _ _ _
   repeat (first | (with_reducible refine GA.go mixo rfl ?_) | simp only [hsub, hz0, hz1, hz2, hg, Nat.le_refl, go_sem, simprocAttr])
   refine Wk.mk [4, 2, 1, 0] [] ?_ ?_ ?_
   ·simp only [WkE, WkH, go_sem, simprocAttr]
    repeat' refine and_of ?_ ?_
    all_goals first | exact wkt | skip
   ·refine .cons rfl (.ls) (.cons rfl (.put (n := r.length + 1) (q := r.length) (by simp only [go_sem, simprocAttr] <;> rfl) (by simp) rfl hz2 rfl (by decide) (by omega) (fun i j h hj => ?_) (fun i j h hj => rfl)) (.cons rfl (.k5) (.cons rfl (.ls) .nil)))
    cases Nat.lt_one_iff.1 hj
    by_cases e : i = r.length
    ·rw [if_pos e, e]; exact (oCS_top _ _ _).symm
    ·rw [if_neg e, oCS_cons _ _ _ _ (by omega), oCS_cons _ _ _ _ (by omega)]
   ·simp
  rw [if_neg h2] at hsw
  have hkp : k < pt.length := by omega
  have hkpi : (k : Int) < (pt.length : Int) := by omega
  repeat (first | (with_reducible refine GA.go mixo rfl ?_) | simp only [go_sem, simprocAttr])
  refine ⟨fun h3 => ?_, fun h3 => ?_⟩
  ·rw [if_pos h3] at hsw
   split at hsw
   rotate_left
   ·cases hsw
   rename_i hrg
   obtain ⟨q, hq⟩ : ∃ q : Nat, pt.getD k 0 = (q : Int) := ⟨(pt.getD k 0).toNat, by omega⟩
   rw [hq] at hrg hsw
   rw [Int.toNat_natCast] at hsw
   have hql : q - k = ((cs.take q).drop k).length := by rw [List.length_drop, List.length_take]; omega
   have hwo := withoutS_has fs ((cs.take q).drop k) g [] [] (.f v [] []) D (fun z hz f => hD z (hok z (List.mem_of_mem_take (List.mem_of_mem_drop hz))) f) rfl rfl (by omega) (by rw [← hql]; omega)
   have hwl := woF_len D fs ((cs.take q).drop k)
   change Has _ _ _ [.o 102 2 (woF D fs ((cs.take q).drop k)).length 0 (sC (woF D fs ((cs.take q).drop k)))] at hwo
   generalize woF D fs ((cs.take q).drop k) = wfs at hwo hwl hsw
   injection hsw with hsw
   injection hsw with e1 e2
   subst e1 e2
   have hpk : iC .i64 pt k 0 = .n .i64 (q : Int) := by unfold iC; rw [hq]
   have hq0 : (0 : Int) ≤ (q : Int) := by omega
   have hq1 : (k : Int) ≤ (q : Int) := hrg.1
   have hq2 : (q : Int) ≤ (cs.length : Int) := hrg.2
   repeat (first | (with_reducible refine GA.go mixo rfl ?_) | simp only [h0, hkpi, hpk, hq0, hq1, hq2, go_sem, simprocAttr])
   rw [hql]
   refine gcall_has [] (fargs := [.fs 2 fs.length (sC fs), .agg [.f g [] [], .f v [] []], .fs 5 ((cs.take q).drop k).length (cC ((cs.take q).drop k))]) ?_ hwo (by simp only [go_sem, simprocAttr]) ?_
   ·refine .cons (.rfl (by rfl)) (.cons (.rfl (by rfl)) (.cons (.fs (fun i j hi hj => ?_)) .nil))
    unfold cC
    rw [List.getD_eq_getElem?_getD, List.getD_eq_getElem?_getD, List.getElem?_drop, List.getElem?_take_of_lt (by omega)]
   repeat (first | (with_reducible refine GA.go mixo rfl ?_) | simp only [go_sem, simprocAttr])
   refine Wk.mk [4, 2, 1, 0] [5] ?_ ?_ ?_
   ·simp only [WkE, WkH, go_sem, simprocAttr]
    repeat' refine and_of ?_ ?_
    all_goals first | exact wkt | skip
    exact Wv.cv (Cv.own (ty := 102) (z := 0) (by simp) (by simp only [go_sem, simprocAttr]) (fun i j _ hj => factS_cell _ _ _ hj))
   ·refine .cons rfl (.ls) (.cons rfl (.k1) (.cons rfl (.k5) (.cons rfl (.ls) .nil)))
   ·simp
  rw [if_neg h3] at hsw
  by_cases h4 : opc = 31
  ·rw [if_pos h4] at hsw
   subst h4
   split at hsw
   rotate_left
   ·cases hsw
   rename_i hrg
   obtain ⟨q, hq⟩ : ∃ q : Nat, pt.getD k 0 = (q : Int) := ⟨(pt.getD k 0).toNat, by omega⟩
   rw [hq] at hrg hsw
   rw [Int.toNat_natCast] at hsw
   have hpk : iC .i64 pt k 0 = .n .i64 (q : Int) := by unfold iC; rw [hq]
   have hq0 : (0 : Int) ≤ (q : Int) := by omega
   have hq1 : (q : Int) ≤ (k : Int) := hrg.2
   have hq2 : (q : Int) < (cs.length : Int) := by omega
   have hq3 : (k : Int) ≤ (cs.length : Int) := by omega
   have hcq : cC cs q 0 = .n .i64 (cs.getD q dIn).1 := cC0 cs q
   repeat (first | (with_reducible refine GA.go mixo rfl ?_) | simp only [h0, hkpi, hpk, hq0, hq1, hq2, hcq, decide_true, go_sem, simprocAttr])
   refine ⟨fun h5 => ?_, fun h5 => ?_⟩
   ·rw [if_pos h5] at hsw
    have hql : k - q = ((cs.take k).drop q).length := by rw [List.length_drop, List.length_take]; omega
    have hwo := withoutS_has fs ((cs.take k).drop q) g [] [] (.f v [] []) D (fun z hz f => hD z (hok z (List.mem_of_mem_take (List.mem_of_mem_drop hz))) f) rfl rfl (by omega) (by rw [← hql]; omega)
    have hwl := woF_len D fs ((cs.take k).drop q)
    change Has _ _ _ [.o 102 2 (woF D fs ((cs.take k).drop q)).length 0 (sC (woF D fs ((cs.take k).drop q)))] at hwo
    generalize woF D fs ((cs.take k).drop q) = wfs at hwo hwl hsw
    injection hsw with hsw
    injection hsw with e1 e2
    subst e1 e2
    repeat (first | (with_reducible refine GA.go mixo rfl ?_) | simp only [h0, hkpi, hpk, hq0, hq1, hq2, hq3, go_sem, simprocAttr])
    rw [hql]
    refine gcall_has [] (fargs := [.fs 2 fs.length (sC fs), .agg [.f g [] [], .f v [] []], .fs 5 ((cs.take k).drop q).length (cC ((cs.take k).drop q))]) ?_ hwo (by simp only [go_sem, simprocAttr]) ?_
    ·refine .cons (.rfl (by rfl)) (.cons (.rfl (by rfl)) (.cons (.fs (fun i j hi hj => ?_)) .nil))
     unfold cC
     rw [List.getD_eq_getElem?_getD, List.getD_eq_getElem?_getD, List.getElem?_drop, List.getElem?_take_of_lt (by omega)]
    repeat (first | (with_reducible refine GA.go mixo rfl ?_) | simp only [go_sem, simprocAttr])
    refine Wk.mk [4, 2, 1, 0] [5] ?_ ?_ ?_
    ·simp only [WkE, WkH, go_sem, simprocAttr]
     repeat' refine and_of ?_ ?_
     all_goals first | exact wkt | skip
     exact Wv.cv (Cv.own (ty := 102) (z := 0) (by simp) (by simp only [go_sem, simprocAttr]) (fun i j _ hj => factS_cell _ _ _ hj))
    ·refine .cons rfl (.ls) (.cons rfl (.k1) (.cons rfl (.k5) (.cons rfl (.ls) .nil)))
    ·simp
   ·rw [if_neg h5] at hsw
    cases op with
    |nil => cases hsw
    |cons t r =>
    simp only at hsw
    have hrl : r.length ≤ k := by simp only [List.length_cons] at hi2; omega
    have htl := hi5 t (List.mem_cons_self ..)
    have hbo := bothS_has fs t (by omega) (by omega)
    have hbl := boF_len (fun f g => decide (f.1 = g.1) && decide (f.2 = g.2)) fs t
    change Has _ _ _ [.o 102 2 (boF (fun f g => decide (f.1 = g.1) && decide (f.2 = g.2)) fs t).length 0 (sC (boF (fun f g => decide (f.1 = g.1) && decide (f.2 = g.2)) fs t))] at hbo
    generalize boF (fun f g => decide (f.1 = g.1) && decide (f.2 = g.2)) fs t = bfs at hbo hbl hsw
    injection hsw with hsw
    injection hsw with e1 e2
    subst e1 e2
    have hsub : ((r.length + 1 : Nat) : Int) - 1 = (r.length : Int) := by omega
    have hz0 : (0 : Int) ≤ (r.length : Int) := by omega
    have hz1 : (r.length : Int) < ((r.length + 1 : Nat) : Int) := by omega
    have hz3 : (r.length : Int) ≤ ((r.length + 1 : Nat) : Int) := by omega
    have hz2 : r.length < r.length + 1 := by omega
    have hg : (rowB 104 1 (r.length + 1) 0 (oCS (t :: r))).get r.length = .fs 2 t.length (sC t) := by
     rw [row_get1]; exact oCS_top _ _ _
    repeat (first | (with_reducible refine GA.go mixo rfl ?_) | simp only [hsub, hz0, hz1, hz2, hz3, hg, Int.le_refl, go_sem, simprocAttr])
    refine gcall_has [] (.cons (.rfl (by rfl)) (.cons (.rfl (by rfl)) .nil)) hbo (by simp only [go_sem, simprocAttr]) ?_
    repeat (first | (with_reducible refine GA.go mixo rfl ?_) | simp only [go_sem, simprocAttr])
    refine Wk.mk [4, 2, 1, 0] [5] ?_ ?_ ?_
    ·simp only [WkE, WkH, go_sem, simprocAttr]
     repeat' refine and_of ?_ ?_
     all_goals first | exact wkt | skip
     exact Wv.cv (Cv.own (ty := 102) (z := 0) (by simp) (by simp only [go_sem, simprocAttr]) (fun i j _ hj => factS_cell _ _ _ hj))
    ·refine .cons rfl (.ls) (.cons rfl (.pop (n := r.length + 1) (by simp only [go_sem, simprocAttr] <;> rfl) rfl (by decide) (by omega) (fun i j hi _ => oCS_cons _ _ _ _ hi) (fun i j _ hj => rfl)) (.cons rfl (.k5) (.cons rfl (.ls) .nil)))
    ·simp
  rw [if_neg h4] at hsw
  injection hsw with hsw
  injection hsw with e1 e2
  subst e1 e2
  repeat (first | (with_reducible refine GA.go mixo rfl ?_) | simp only [h4, decide_false, go_sem, simprocAttr])
  refine Wk.mk [4, 2, 1, 0] [] ?_ ?_ ?_
  ·simp only [WkE, WkH, go_sem, simprocAttr]
   repeat' refine and_of ?_ ?_
   all_goals first | exact wkt | skip
  ·refine .cons rfl (.ls) (.cons rfl (.k1) (.cons rfl (.k5) (.cons rfl (.ls) .nil)))
  ·simp
 ·have hkn : k = cs.length := by omega
  subst hkn
  rw [List.drop_length, walkGo] at hs
  cases hs
  repeat (first | (with_reducible refine GA.go mixo rfl ?_) | simp only [go_sem, simprocAttr])
  refine ⟨[_], rfl, .o (x := _) (by simp only [go_sem, simprocAttr]; rfl) (by rfl) (by rfl) (by rfl) (by decide) (Nat.le_refl _) (Nat.le_refl _) (fun i j _ hj => row_get i j hj) (fun i j _ hj => cC_cell i hj) rfl .nil⟩
end Go.Proofs.YtidhfimbnjaceaaGreat

namespace Go.Proofs.YtidhfimbnjaceaaGreat
open Go.RowKit
set_option linter.unusedVariables false
set_option linter.unusedSimpArgs false
def srcI : List (Int × Int) → Int → Int
 |[], r => r
 |f :: l, r => if f.1 = r then f.2 else srcI l r
theorem source_has (l : List (Int × Int)) (r : Int) (hl : l.length < 1000000) : Has Tryz.prog 67 [.fs 2 l.length (sC l), .n .i64 r] [.v (.n .i64 (srcI l r))] := by
 refine hasQ_of' mixo x4ok ⟨by simp, by decide⟩ ?_
 simp only [argE]
 repeat (first | (with_reducible refine GA.go mixo rfl ?_) | simp only [go_sem, simprocAttr])
 refine GA.loop (I := fun mm e H => ∃ k : Nat, mm = l.length - k ∧ k ≤ l.length ∧ srcI l r = srcI (l.drop k) r ∧ e = envOf [(1, .n .i64 r), (7, .fs 2 l.length (sC l)), (8, .n .i64 l.length), (9, .n .i64 k)] ∧ H = heapOf []) (Wk.mk [] [] ?_ ?_ ?_) ⟨0, rfl, by omega, rfl, rfl, rfl⟩ ?_
 ·simp only [WkE, WkH, go_sem, simprocAttr]
  repeat' refine and_of ?_ ?_
  all_goals first | exact wkt | skip
 ·trivial
 ·simp
 rintro mm e H ⟨k, rfl, hk, hs, rfl, rfl⟩
 repeat (first | (with_reducible refine GA.go mixo rfl ?_) | simp only [go_sem, simprocAttr])
 refine ⟨fun h => ?_, fun h => ?_⟩
 ·have hk' : k < l.length := by omega
  have h0 : (0 : Int) ≤ (k : Int) := by omega
  rw [drop_nx (d := (0, 0)) hk', srcI] at hs
  repeat (first | (with_reducible refine GA.go mixo rfl ?_) | simp only [h0, h, sC0, sC1, go_sem, simprocAttr])
  refine ⟨fun h1 => ?_, fun h1 => ?_⟩
  ·rw [if_pos h1] at hs
   repeat (first | (with_reducible refine GA.go mixo rfl ?_) | simp only [go_sem, simprocAttr])
   exact has_end1 (by rw [hs]) rfl
  ·rw [if_neg h1] at hs
   repeat (first | (with_reducible refine GA.go mixo rfl ?_) | simp only [go_sem, simprocAttr])
   refine ⟨_, _, _, ?_, Wk.mk [] [] ?_ ?_ ?_, k + 1, rfl, by omega, hs, rfl, rfl⟩
   ·omega
   ·simp only [WkE, WkH, go_sem, simprocAttr]
    repeat' refine and_of ?_ ?_
    all_goals first | exact wkt | skip
   ·trivial
   ·simp
 ·have : k = l.length := by omega
  rw [this, List.drop_length, srcI] at hs
  repeat (first | (with_reducible refine GA.go mixo rfl ?_) | simp only [go_sem, simprocAttr])
  exact has_end1 (by rw [hs]) rfl
def desS (x : In) (f : Int × Int) : Bool := decide (writesI x.1 x.2.1 = f.1) || decide (writesI x.1 x.2.1 = f.2)
theorem copies1_has (x : In) (f : Int × Int) (h : opOk x) : Has Tryz.prog 65 [insV x, sV f] [.v (.b (desS x f))] := by
 obtain ⟨op, to, a, b, arg⟩ := x
 refine hasQ_of' mixo x36ok ⟨by simp, by decide⟩ ?_
 simp only [argE, sV, insV, desS]
 repeat (first | (with_reducible refine GA.go mixo rfl ?_) | simp only [go_sem, simprocAttr])
 refine gcall_has [] (.cons (.rfl rfl) .nil) (written_has op to a b arg h) (by simp only [go_sem, simprocAttr]) ?_
 by_cases h1 : writesI op to = f.1
 ·repeat (first | (with_reducible refine GA.go mixo rfl ?_) | simp only [h1, decide_true, go_sem, simprocAttr])
  exact has_end1 (by simp) rfl
 ·repeat (first | (with_reducible refine GA.go mixo rfl ?_) | simp only [h1, decide_false, go_sem, simprocAttr])
  exact has_end1 (by simp) rfl
theorem has_nil3 {P : Program} {f : FuncId} {args : List AV} {a b : AV} {esz : Nat} {row : Nat → Nat → AV} (h : Has P f args [.v a, .v b, .v .sl0]) : Has P f args [.v a, .v b, .v (.fs esz 0 row)] := by
 refine ⟨h.1, fun φ w args' hφ ha => (h.2 φ w args' hφ ha).mono fun e w' hq => ?_⟩
 cases e with
 |panicked c => exact hq.elim
 |outgrown => exact hq.elim
 |returned u =>
  obtain ⟨v, Hc, σ', ⟨l, rfl, hr⟩, hv, hHc, hbel, hfz⟩ := hq
  match l, hr with
  |[x, y, z], hr =>
   obtain ⟨⟨rfl, h1⟩, ⟨rfl, h2⟩, ⟨rfl, h3⟩, _⟩ := hr
   obtain ⟨us, hus, hback⟩ := oneOf_inv hv
   refine ⟨_, Hc, σ', ⟨[x, y, .fs esz 0 row], rfl, ⟨rfl, h1⟩, ⟨rfl, h2⟩, ⟨rfl, rfl⟩, trivial⟩, hback rfl ⟨hus.1, fun i v hi => ?_⟩, hHc, hbel, hfz⟩
   match i with
   |0 => exact hus.2 0 v hi
   |1 => exact hus.2 1 v hi
   |2 =>
    have h0 := hus.2 2 .sl0 rfl
    simp only [List.getElem?_cons_succ, List.getElem?_cons_zero, Option.some.injEq] at hi
    subst hi
    generalize us.getD 2 undef = u2 at h0
    cases h0
    exact .fs0 _ _ _ _
   |i + 3 => simp at hi
def copV5 (op to a b arg : Int) : In × Bool × List (Int × Int) :=
 if op = 36 then (if a = to then ((op, to, a, b, arg), false, []) else ((op, to, a, b, arg), true, [(to, a)])) else ((op, to, a, b, arg), true, [])
def copV (x : In) (fs : List (Int × Int)) : In × Bool × List (Int × Int) := copV5 x.1 x.2.1 (srcI fs x.2.2.1) (srcI fs x.2.2.2.1) x.2.2.2.2
theorem copies2_has (x : In) (fs : List (Int × Int)) (hl : fs.length < 1000000) : Has Tryz.prog 66 [insV x, .fs 2 fs.length (sC fs)] [.v (insV (copV x fs).1), .v (.b (copV x fs).2.1), .v (.fs 2 (copV x fs).2.2.length (sC (copV x fs).2.2))] := by
 obtain ⟨op, to, a, b, arg⟩ := x
 have hsa := source_has fs a hl
 have hsb := source_has fs b hl
 show Has _ _ _ [.v (insV (copV5 op to (srcI fs a) (srcI fs b) arg).1), .v (.b (copV5 op to (srcI fs a) (srcI fs b) arg).2.1), .v (.fs 2 (copV5 op to (srcI fs a) (srcI fs b) arg).2.2.length (sC (copV5 op to (srcI fs a) (srcI fs b) arg).2.2))]
 generalize srcI fs a = a' at hsa ⊢
 generalize srcI fs b = b' at hsb ⊢
 unfold copV5
 by_cases h1 : op = 36
 ·subst h1
  rw [if_pos rfl]
  by_cases h2 : a' = to
  ·rw [if_pos h2]
   subst h2
   refine has_nil3 ?_
   refine hasQ_of' mixo x37ok ⟨by simp, by decide⟩ ?_
   simp only [argE, insV]
   repeat (first | (with_reducible refine GA.go mixo rfl ?_) | simp only [go_sem, simprocAttr])
   refine gcall_has [] (.cons (.rfl (by rfl)) (.cons (.rfl (by rfl)) .nil)) hsa (by simp only [go_sem, simprocAttr]) ?_
   repeat (first | (with_reducible refine GA.go mixo rfl ?_) | simp only [go_sem, simprocAttr])
   first
    |refine and_of (by first | decide | simp) ?_
    |skip
   refine gcall_has [] (.cons (.rfl (by rfl)) (.cons (.rfl (by rfl)) .nil)) hsb (by simp only [go_sem, simprocAttr]) ?_
   repeat (first | (with_reducible refine GA.go mixo rfl ?_) | simp only [decide_true, go_sem, simprocAttr])
   exact has_tup (.v rfl rfl (.v rfl rfl (.v rfl rfl .nil)))
  ·rw [if_neg h2]
   refine hasQ_of' mixo x37ok ⟨by simp, by decide⟩ ?_
   simp only [argE, insV]
   repeat (first | (with_reducible refine GA.go mixo rfl ?_) | simp only [go_sem, simprocAttr])
   refine gcall_has [] (.cons (.rfl (by rfl)) (.cons (.rfl (by rfl)) .nil)) hsa (by simp only [go_sem, simprocAttr]) ?_
   repeat (first | (with_reducible refine GA.go mixo rfl ?_) | simp only [go_sem, simprocAttr])
   first
    |refine and_of (by first | decide | simp) ?_
    |skip
   refine gcall_has [] (.cons (.rfl (by rfl)) (.cons (.rfl (by rfl)) .nil)) hsb (by simp only [go_sem, simprocAttr]) ?_
   repeat (first | (with_reducible refine GA.go mixo rfl ?_) | simp only [decide_true, h2, decide_false, go_sem, simprocAttr])
   refine GA.cut' (envOf [(4, .p 0 0), (5, .b true), (6, .fs 2 1 (sC [(to, a')]))]) (heapOf [lstB 0 37 [.n .i64 36, .n .i64 to, .n .i64 a', .n .i64 b', .n .u32 arg]]) ?_ ?_
   ·refine GA.frkm mixo 1 (by simp only [topL, go_sem, simprocAttr]) ?_
    simp only [go_sem, simprocAttr]
    repeat' refine and_of ?_ ?_
    all_goals first
     |decide
     |(refine Wk.mk [1] [2] ?_ ?_ ?_
       ·simp only [WkE, go_sem, simprocAttr]
        repeat' refine and_of ?_ ?_
        ·exact Wv.p rfl
        ·exact Wv.same rfl
        ·refine Wv.cv (Cv.sl (x := _) (by simp) (by simp only [go_sem, simprocAttr]; rfl) (by simp only [go_sem, simprocAttr]; first | done | decide) (by decide) (by simp only [go_sem, simprocAttr]; first | done | decide) (fun i j hi hj => ?_) (fun i j _ _ => by unfold sC; split <;> rfl))
         obtain rfl : i = 0 := by omega
         have hj2 : j = 0 ∨ j = 1 := by omega
         rcases hj2 with rfl | rfl <;> simp only [go_sem, simprocAttr] <;> rfl
       ·refine .cons rfl (.lsti (x := _) (by simp only [go_sem, simprocAttr]; rfl) (by rfl) (by rfl) (by rfl) (by rfl) (by rfl) (by rfl) (by simp) (fun i hi => ?_) rfl) .nil
        rcases lt5 hi with rfl | rfl | rfl | rfl | rfl <;> simp only [go_sem, simprocAttr]
       ·simp)
   ·repeat (first | (with_reducible refine GA.go mixo rfl ?_) | simp only [go_sem, simprocAttr])
    exact has_tup (.v rfl rfl (.v rfl rfl (.v rfl rfl .nil)))
 ·rw [if_neg h1]
  refine has_nil3 ?_
  refine hasQ_of' mixo x37ok ⟨by simp, by decide⟩ ?_
  simp only [argE, insV]
  repeat (first | (with_reducible refine GA.go mixo rfl ?_) | simp only [go_sem, simprocAttr])
  refine gcall_has [] (.cons (.rfl (by rfl)) (.cons (.rfl (by rfl)) .nil)) hsa (by simp only [go_sem, simprocAttr]) ?_
  repeat (first | (with_reducible refine GA.go mixo rfl ?_) | simp only [go_sem, simprocAttr])
  first
   |refine and_of (by first | decide | simp) ?_
   |skip
  refine gcall_has [] (.cons (.rfl (by rfl)) (.cons (.rfl (by rfl)) .nil)) hsb (by simp only [go_sem, simprocAttr]) ?_
  repeat (first | (with_reducible refine GA.go mixo rfl ?_) | simp only [h1, decide_false, go_sem, simprocAttr])
  exact has_tup (.v rfl rfl (.v rfl rfl (.v rfl rfl .nil)))
theorem copV_ok (x : In) (fs : List (Int × Int)) (hx : opOk x) : ((copV x fs).2.2.length ≤ 1 ∧ ∀ f ∈ (copV x fs).2.2, True) ∧ opOk (copV x fs).1 := by
 refine ⟨⟨?_, fun _ _ => trivial⟩, ?_⟩
 ·unfold copV copV5
  split
  ·split <;> simp
  ·simp
 ·unfold copV copV5
  split
  ·split <;> exact hx
  ·exact hx
theorem copies_has {na : Nat} {ra : Nat → Nat → AV} {regs par : Int} {cs : List In} {pt : List Int} {fin : WSt (Int × Int)} (hcs : cs.length < 400000) (hok : ∀ x ∈ cs, opOk x) (hpt : pairsP cs = some pt) (hptl : pt.length = cs.length)
  (hgo : walkGo desS (fun f g => decide (f.1 = g.1) && decide (f.2 = g.2)) copV cs pt cs 0 ⟨[], [], []⟩ = some fin) :
  Has Tryz.prog 36 [codeV na ra regs par cs] [.o 37 5 fin.out.length 0 (cC fin.out)] := by
 have hw := walkS_has (n0 := 0) (pf := fun _ => True) desS copV 65 66 cs [] pt fin (fun x hx f => copies1_has x f hx) (fun x hx fs hl _ => copies2_has x fs hl) (fun x hx fs _ => (copV_ok x fs (hok x hx)).1) (fun x hx fs _ => (copV_ok x fs (hok x hx)).2) hcs hok (by simp) (by decide) (by simp) hpt hptl hgo
 refine hasQ_of' mixo x34ok ⟨by simp, by decide⟩ ?_
 simp only [argE, codeV]
 repeat (first | (with_reducible refine GA.go mixo rfl ?_) | simp only [go_sem, simprocAttr])
 refine gcall_has [] (fargs := [.fs 5 cs.length (cC cs), .fs 2 ([] : List (Int × Int)).length (sC []), .agg [.f 65 [] [], .f 66 [] []]]) (.cons (.rfl (by rfl)) (.cons (.sl0 _ _) (.cons (.rfl (by rfl)) .nil))) hw (by simp only [go_sem, simprocAttr]) ?_
 repeat (first | (with_reducible refine GA.go mixo rfl ?_) | simp only [go_sem, simprocAttr])
 refine ⟨[_], rfl, .o (x := _) (by simp only [go_sem, simprocAttr]; rfl) (by rfl) (by rfl) (by rfl) (by decide) (Nat.le_refl _) (Nat.le_refl _) (fun i j _ hj => row_get i j hj) (fun i j _ hj => cC_cell i hj) rfl .nil⟩
end Go.Proofs.YtidhfimbnjaceaaGreat

namespace Go.Proofs.YtidhfimbnjaceaaGreat
open Go.RowKit
set_option linter.unusedVariables false
set_option linter.unusedSimpArgs false
theorem indexFuncV_has (l : List In) (g : FuncId) (c1 c2 : List AV) (p : In → Bool) (hp : ∀ f ∈ l, Has Tryz.prog g (c1 ++ [insV f] ++ c2) [.v (.b (p f))]) (hl : l.length < 1000000) (hpu : (c1.all (AV.pu 2) && c2.all (AV.pu 2)) = true) :
  Has Tryz.prog 72 [.fs 5 l.length (cC l), .f g c1 c2] [.v (.n .i64 (idx p l 0))] := by
 refine hasQ_of' mixo x63ok ⟨by simp, by decide⟩ ?_
 simp only [argE]
 repeat (first | (with_reducible refine GA.go mixo rfl ?_) | simp only [go_sem, simprocAttr])
 refine GA.loop (I := fun m e H => ∃ k : Nat, m = l.length - k ∧ k ≤ l.length ∧ idx p l 0 = idx p (l.drop k) k ∧ e = envOf [(0, .fs 5 l.length (cC l)), (1, .f g c1 c2), (6, .fs 5 l.length (cC l)), (7, .n .i64 l.length), (8, .n .i64 k)] ∧ H = heapOf []) (Wk.mk [] [] ?_ ?_ ?_) ⟨0, rfl, by omega, rfl, rfl, rfl⟩ ?_
 ·simp only [WkE, WkH, go_sem, simprocAttr]
  repeat' refine and_of ?_ ?_
  all_goals first | exact wkt | skip
  all_goals exact Wv.same hpu
 ·trivial
 ·decide
 rintro m e H ⟨k, rfl, hk, hs, rfl, rfl⟩
 repeat (first | (with_reducible refine GA.go mixo rfl ?_) | simp only [go_sem, simprocAttr])
 refine ⟨fun h => ?_, fun h => ?_⟩
 ·have hk' : k < l.length := by omega
  have h0 : (0 : Int) ≤ (k : Int) := by omega
  rw [drop_nx (d := (0, 0, 0, 0, 0)) hk', idx] at hs
  have hm : l.getD k (0, 0, 0, 0, 0) ∈ l := by rw [List.getD_eq_getElem?_getD, List.getElem?_eq_getElem hk']; exact List.getElem_mem _
  repeat (first | (with_reducible refine GA.go mixo rfl ?_) | simp only [h0, h, cC0, cC1, cC2, cC3, cC4, go_sem, simprocAttr])
  refine gcall_has [] (fargs := c1 ++ [insV (l.getD k (0, 0, 0, 0, 0))] ++ c2) ?_ (hp _ hm) (by decide) ?_
  ·refine Cvs.same ?_
   simp only [List.all_append, Bool.and_eq_true] at hpu ⊢
   exact ⟨⟨all_pu_succ hpu.1, rfl⟩, all_pu_succ hpu.2⟩
  repeat (first | (with_reducible refine GA.go mixo rfl ?_) | simp only [go_sem, simprocAttr])
  refine ⟨fun h1 => ?_, fun h1 => ?_⟩
  ·repeat (first | (with_reducible refine GA.go mixo rfl ?_) | simp only [go_sem, simprocAttr])
   rw [if_pos h1] at hs
   exact has_end1 (by rw [hs]) rfl
  ·repeat (first | (with_reducible refine GA.go mixo rfl ?_) | simp only [go_sem, simprocAttr])
   rw [if_neg (by rw [h1]; simp)] at hs
   refine ⟨_, _, _, ?_, Wk.mk [] [] ?_ ?_ ?_, k + 1, rfl, by omega, hs, rfl, rfl⟩
   ·omega
   ·simp only [WkE, WkH, go_sem, simprocAttr]
    repeat' refine and_of ?_ ?_
    all_goals first | exact wkt | skip
    all_goals exact Wv.same hpu
   ·trivial
   ·decide
 ·repeat (first | (with_reducible refine GA.go mixo rfl ?_) | simp only [go_sem, simprocAttr])
  have : k = l.length := by omega
  subst this
  rw [List.drop_length, idx] at hs
  exact has_end1 (by rw [hs]) rfl
def expB (op : Int) : Bool := arithB op || decide (op = 3) || decide (op = 32) || decide (op = 33)
theorem expression_has (op : Int) : Has Tryz.prog 71 [.n .i64 op] [.v (.b (expB op))] := by
 refine hasQ_of' mixo x62ok ⟨by simp, by decide⟩ ?_
 simp only [argE]
 repeat (first | (with_reducible refine GA.go mixo rfl ?_) | simp only [go_sem, simprocAttr])
 refine gcall_has [] (.cons (.rfl (by rfl)) .nil) (arithmetic_has op) (by simp only [go_sem, simprocAttr]) ?_
 unfold expB
 cases ha : arithB op
 ·by_cases h3 : op = 3
  ·repeat (first | (with_reducible refine GA.go mixo rfl ?_) | simp only [h3, decide_true, go_sem, simprocAttr])
   exact has_end1 rfl rfl
  ·by_cases h32 : op = 32
   ·have h3' : ¬ (32 : Int) = 3 := by decide
    repeat (first | (with_reducible refine GA.go mixo rfl ?_) | simp only [h32, h3', decide_true, decide_false, go_sem, simprocAttr])
    exact has_end1 rfl rfl
   ·repeat (first | (with_reducible refine GA.go mixo rfl ?_) | simp only [h3, h32, decide_false, go_sem, simprocAttr])
    exact has_end1 (by simp) rfl
 ·repeat (first | (with_reducible refine GA.go mixo rfl ?_) | simp only [go_sem, simprocAttr])
  exact has_end1 rfl rfl
def cmpB (f x : In) : Bool := eqIn f (x.1, f.2.1, x.2.2.1, x.2.2.2.1, x.2.2.2.2)
theorem computes_has (f x : In) : Has Tryz.prog 74 [insV f, insV x] [.v (.b (cmpB f x))] := by
 obtain ⟨op, to, a, b, arg⟩ := x
 refine hasQ_of' mixo x65ok ⟨by simp, by decide⟩ ?_
 simp only [argE, insV]
 repeat (first | (with_reducible refine GA.go mixo rfl ?_) | simp only [eqS, eqFs, partA, andO, SH.row, go_sem, simprocAttr])
 refine has_end1 ?_ rfl
 unfold cmpB
 rw [eqIn_eq]
 simp
theorem share21_has (f x : In) (row : Nat → AV) (hrow : ∀ j, j < 5 → row j = iCell x j) : Has Tryz.prog 73 [insV f, .fp 5 row 0] [.v (.b (cmpB f x))] := by
 have hc := computes_has f x
 obtain ⟨op, to, a, b, arg⟩ := x
 refine hasQ_of' mixo x64ok ⟨by simp, by decide⟩ ?_
 have h0 : row 0 = .n .i64 op := hrow 0 (by decide)
 have h1 : row 1 = .n .i64 to := hrow 1 (by decide)
 have h2 : row 2 = .n .i64 a := hrow 2 (by decide)
 have h3 : row 3 = .n .i64 b := hrow 3 (by decide)
 have h4 : row 4 = .n .u32 arg := hrow 4 (by decide)
 simp only [argE, insV] at hc ⊢
 repeat (first | (with_reducible refine GA.go mixo rfl ?_) | simp only [h0, h1, h2, h3, h4, go_sem, simprocAttr])
 refine gcall_has [] (.cons (.rfl (by rfl)) (.cons (.rfl (by rfl)) .nil)) hc (by simp only [go_sem, simprocAttr]) ?_
 repeat (first | (with_reducible refine GA.go mixo rfl ?_) | simp only [go_sem, simprocAttr])
 exact has_end1 rfl rfl
def desV (x f : In) : Bool :=
 (decide (0 ≤ writesI x.1 x.2.1) && (decide (writesI x.1 x.2.1 = f.2.1) || decide (writesI x.1 x.2.1 = f.2.2.1) || decide (writesI x.1 x.2.1 = f.2.2.2.1))) || (decide (x.1 = 4) && decide (f.1 = 3) && decide (x.2.2.2.2 = f.2.2.2.2))
theorem share1_has (x f : In) (h : opOk x) : Has Tryz.prog 69 [insV x, insV f] [.v (.b (desV x f))] := by
 obtain ⟨op, to, a, b, arg⟩ := x
 obtain ⟨fop, fto, fa, fb, farg⟩ := f
 have hw := written_has op to a b arg h
 unfold desV
 simp only
 generalize writesI op to = w at hw ⊢
 refine hasQ_of' mixo x60ok ⟨by simp, by decide⟩ ?_
 simp only [argE, insV]
 repeat (first | (with_reducible refine GA.go mixo rfl ?_) | simp only [go_sem, simprocAttr])
 refine gcall_has [] (.cons (.rfl (by rfl)) .nil) hw (by simp only [go_sem, simprocAttr]) ?_
 cases d0 : decide (0 ≤ w) <;> cases d1 : decide (w = fto) <;> cases d2 : decide (w = fa) <;> cases d3 : decide (w = fb) <;> cases d4 : decide (op = 4) <;> cases d5 : decide (fop = 3)
 all_goals
  repeat (first | (with_reducible refine GA.go mixo rfl ?_) | simp only [d0, d1, d2, d3, d4, d5, go_sem, simprocAttr])
  first
   |exact has_end1 (by simp only [Bool.and_true, Bool.true_and, Bool.false_and, Bool.and_false, Bool.or_true, Bool.true_or, Bool.false_or, Bool.or_false]) rfl
   |exact has_end1 rfl rfl
def shaV (x : In) (fs : List In) : In × Bool × List In :=
 if expB x.1 = true then
  (if 0 ≤ idx (fun f => cmpB f x) fs 0 then
   (if (fs.getD (idx (fun f => cmpB f x) fs 0).toNat (0, 0, 0, 0, 0)).2.1 = x.2.1 then (x, false, []) else ((36, x.2.1, (fs.getD (idx (fun f => cmpB f x) fs 0).toNat (0, 0, 0, 0, 0)).2.1, -1, 0), true, []))
  else if x.2.1 = x.2.2.1 ∨ x.2.1 = x.2.2.2.1 then (x, true, []) else (x, true, [x]))
 else (x, true, [])
theorem share2_has (x : In) (fs : List In) (hl : fs.length < 1000000) : Has Tryz.prog 70 [insV x, .fs 5 fs.length (cC fs)] [.v (insV (shaV x fs).1), .v (.b (shaV x fs).2.1), .v (.fs 5 (shaV x fs).2.2.length (cC (shaV x fs).2.2))] := by
 have hif := fun row (hrow : ∀ j, j < 5 → row j = iCell x j) => indexFuncV_has fs 73 [] [.fp 5 row 0] (fun f => cmpB f x) (fun f _ => share21_has f x row hrow) hl rfl
 unfold shaV
 have hx := expression_has x.1
 generalize hq : idx (fun f => cmpB f x) fs 0 = q at hif ⊢
 have hqr := idx_lt (fun f => cmpB f x) fs 0
 rw [hq] at hqr
 obtain ⟨op, to, a, b, arg⟩ := x
 simp only at hx ⊢
 cases he : expB op
 ·rw [he] at hx
  rw [if_neg (by simp)]
  refine has_nil3 ?_
  refine hasQ_of' mixo x61ok ⟨by simp, by decide⟩ ?_
  simp only [argE, insV]
  repeat (first | (with_reducible refine GA.go mixo rfl ?_) | simp only [go_sem, simprocAttr])
  refine gcall_has [] (.cons (.rfl (by rfl)) .nil) hx (by simp only [go_sem, simprocAttr]) ?_
  repeat (first | (with_reducible refine GA.go mixo rfl ?_) | simp only [go_sem, simprocAttr])
  exact has_tup (.v rfl rfl (.v rfl rfl (.v rfl rfl .nil)))
 ·rw [he] at hx
  rw [if_pos rfl]
  by_cases h0 : 0 ≤ q
  ·rw [if_pos h0]
   obtain ⟨p, rfl⟩ : ∃ p : Nat, q = (p : Int) := ⟨q.toNat, by omega⟩
   have hp1 : (p : Int) < (fs.length : Int) := by omega
   rw [Int.toNat_natCast]
   have hc1 := cC1 fs p
   generalize (fs.getD p (0, 0, 0, 0, 0)).2.1 = ft at hc1 ⊢
   by_cases h1 : ft = to
   ·rw [if_pos h1]
    subst h1
    refine has_nil3 ?_
    refine hasQ_of' mixo x61ok ⟨by simp, by decide⟩ ?_
    simp only [argE, insV]
    repeat (first | (with_reducible refine GA.go mixo rfl ?_) | simp only [go_sem, simprocAttr])
    refine gcall_has [] (.cons (.rfl (by rfl)) .nil) hx (by simp only [go_sem, simprocAttr]) ?_
    repeat (first | (with_reducible refine GA.go mixo rfl ?_) | simp only [go_sem, simprocAttr])
    refine gcall_tmp [0] (fargs := [.fs 5 fs.length (cC fs), .f 73 [] [.fp 5 (fun j => [AV.n .i64 op, AV.n .i64 ft, AV.n .i64 a, AV.n .i64 b, AV.n .u32 arg][j]?.getD .u) 0]]) ?_ (hif _ (fun j hj => by rcases lt5 hj with rfl | rfl | rfl | rfl | rfl <;> rfl)) (by simp only [go_sem, simprocAttr]) (fun r hr => by rw [List.mem_singleton.1 hr]; rfl) ?_
    ·refine .cons (.rfl rfl) (.cons (.fn .nil (.cons ?_ .nil)) .nil)
     refine Cv.box (l := [AV.n .i64 op, AV.n .i64 ft, AV.n .i64 a, AV.n .i64 b, AV.n .u32 arg]) (b := 0) rfl (x := _) (by simp only [go_sem, simprocAttr]; rfl) (by rfl) (by simp) (fun j hj => ?_) rfl
     rcases lt5 (by simpa using hj) with rfl | rfl | rfl | rfl | rfl <;> simp only [go_sem, simprocAttr]
    repeat (first | (with_reducible refine GA.go mixo rfl ?_) | simp only [h0, hp1, hc1, decide_true, go_sem, simprocAttr])
    exact has_tup (.v rfl rfl (.v rfl rfl (.v rfl rfl .nil)))
   ·rw [if_neg h1]
    refine has_nil3 ?_
    refine hasQ_of' mixo x61ok ⟨by simp, by decide⟩ ?_
    simp only [argE, insV]
    repeat (first | (with_reducible refine GA.go mixo rfl ?_) | simp only [go_sem, simprocAttr])
    refine gcall_has [] (.cons (.rfl (by rfl)) .nil) hx (by simp only [go_sem, simprocAttr]) ?_
    repeat (first | (with_reducible refine GA.go mixo rfl ?_) | simp only [go_sem, simprocAttr])
    refine gcall_tmp [0] (fargs := [.fs 5 fs.length (cC fs), .f 73 [] [.fp 5 (fun j => [AV.n .i64 op, AV.n .i64 to, AV.n .i64 a, AV.n .i64 b, AV.n .u32 arg][j]?.getD .u) 0]]) ?_ (hif _ (fun j hj => by rcases lt5 hj with rfl | rfl | rfl | rfl | rfl <;> rfl)) (by simp only [go_sem, simprocAttr]) (fun r hr => by rw [List.mem_singleton.1 hr]; rfl) ?_
    ·refine .cons (.rfl rfl) (.cons (.fn .nil (.cons ?_ .nil)) .nil)
     refine Cv.box (l := [AV.n .i64 op, AV.n .i64 to, AV.n .i64 a, AV.n .i64 b, AV.n .u32 arg]) (b := 0) rfl (x := _) (by simp only [go_sem, simprocAttr]; rfl) (by rfl) (by simp) (fun j hj => ?_) rfl
     rcases lt5 (by simpa using hj) with rfl | rfl | rfl | rfl | rfl <;> simp only [go_sem, simprocAttr]
    repeat (first | (with_reducible refine GA.go mixo rfl ?_) | simp only [h0, hp1, hc1, h1, decide_true, decide_false, go_sem, simprocAttr])
    exact has_tup (.v rfl rfl (.v rfl rfl (.v rfl rfl .nil)))
  ·rw [if_neg h0]
   by_cases h2 : to = a ∨ to = b
   ·rw [if_pos h2]
    refine has_nil3 ?_
    refine hasQ_of' mixo x61ok ⟨by simp, by decide⟩ ?_
    simp only [argE, insV]
    repeat (first | (with_reducible refine GA.go mixo rfl ?_) | simp only [go_sem, simprocAttr])
    refine gcall_has [] (.cons (.rfl (by rfl)) .nil) hx (by simp only [go_sem, simprocAttr]) ?_
    repeat (first | (with_reducible refine GA.go mixo rfl ?_) | simp only [go_sem, simprocAttr])
    refine gcall_tmp [0] (fargs := [.fs 5 fs.length (cC fs), .f 73 [] [.fp 5 (fun j => [AV.n .i64 op, AV.n .i64 to, AV.n .i64 a, AV.n .i64 b, AV.n .u32 arg][j]?.getD .u) 0]]) ?_ (hif _ (fun j hj => by rcases lt5 hj with rfl | rfl | rfl | rfl | rfl <;> rfl)) (by simp only [go_sem, simprocAttr]) (fun r hr => by rw [List.mem_singleton.1 hr]; rfl) ?_
    ·refine .cons (.rfl rfl) (.cons (.fn .nil (.cons ?_ .nil)) .nil)
     refine Cv.box (l := [AV.n .i64 op, AV.n .i64 to, AV.n .i64 a, AV.n .i64 b, AV.n .u32 arg]) (b := 0) rfl (x := _) (by simp only [go_sem, simprocAttr]; rfl) (by rfl) (by simp) (fun j hj => ?_) rfl
     rcases lt5 (by simpa using hj) with rfl | rfl | rfl | rfl | rfl <;> simp only [go_sem, simprocAttr]
    cases d1 : decide (to = a) <;> cases d2 : decide (to = b)
    all_goals try (exact absurd h2 (by simp at d1 d2; omega))
    all_goals
     repeat (first | (with_reducible refine GA.go mixo rfl ?_) | simp only [h0, decide_false, d1, d2, go_sem, simprocAttr])
     exact has_tup (.v rfl rfl (.v rfl rfl (.v rfl rfl .nil)))
   ·rw [if_neg h2]
    have d1 : decide (to = a) = false := by simp; omega
    have d2 : decide (to = b) = false := by simp; omega
    refine hasQ_of' mixo x61ok ⟨by simp, by decide⟩ ?_
    simp only [argE, insV]
    repeat (first | (with_reducible refine GA.go mixo rfl ?_) | simp only [go_sem, simprocAttr])
    refine gcall_has [] (.cons (.rfl (by rfl)) .nil) hx (by simp only [go_sem, simprocAttr]) ?_
    repeat (first | (with_reducible refine GA.go mixo rfl ?_) | simp only [go_sem, simprocAttr])
    refine gcall_tmp [0] (fargs := [.fs 5 fs.length (cC fs), .f 73 [] [.fp 5 (fun j => [AV.n .i64 op, AV.n .i64 to, AV.n .i64 a, AV.n .i64 b, AV.n .u32 arg][j]?.getD .u) 0]]) ?_ (hif _ (fun j hj => by rcases lt5 hj with rfl | rfl | rfl | rfl | rfl <;> rfl)) (by simp only [go_sem, simprocAttr]) (fun r hr => by rw [List.mem_singleton.1 hr]; rfl) ?_
    ·refine .cons (.rfl rfl) (.cons (.fn .nil (.cons ?_ .nil)) .nil)
     refine Cv.box (l := [AV.n .i64 op, AV.n .i64 to, AV.n .i64 a, AV.n .i64 b, AV.n .u32 arg]) (b := 0) rfl (x := _) (by simp only [go_sem, simprocAttr]; rfl) (by rfl) (by simp) (fun j hj => ?_) rfl
     rcases lt5 (by simpa using hj) with rfl | rfl | rfl | rfl | rfl <;> simp only [go_sem, simprocAttr]
    repeat (first | (with_reducible refine GA.go mixo rfl ?_) | simp only [h0, decide_false, d1, d2, go_sem, simprocAttr])
    refine GA.cut' (envOf [(4, .p 0 0), (5, .b true), (6, .fs 5 1 (cC [(op, to, a, b, arg)]))]) (heapOf [lstB 0 37 [.n .i64 op, .n .i64 to, .n .i64 a, .n .i64 b, .n .u32 arg]]) ?_ ?_
    ·refine GA.frkm mixo 1 (by simp only [topL, go_sem, simprocAttr]) ?_
     simp only [go_sem, simprocAttr]
     repeat' refine and_of ?_ ?_
     all_goals first
      |decide
      |(refine Wk.mk [1] [2] ?_ ?_ ?_
        ·simp only [WkE, go_sem, simprocAttr]
         repeat' refine and_of ?_ ?_
         ·exact Wv.p rfl
         ·exact Wv.same rfl
         ·refine Wv.cv (Cv.sl (x := _) (by simp) (by simp only [go_sem, simprocAttr]; rfl) (by simp only [go_sem, simprocAttr]; first | done | decide) (by decide) (by simp only [go_sem, simprocAttr]; first | done | decide) (fun i j hi hj => ?_) (fun i j _ hj => cC_cell i hj))
          obtain rfl : i = 0 := by omega
          rcases lt5 hj with rfl | rfl | rfl | rfl | rfl <;> simp only [go_sem, simprocAttr] <;> rfl
        ·refine .cons rfl (.lsti (x := _) (by simp only [go_sem, simprocAttr]; rfl) (by rfl) (by rfl) (by rfl) (by rfl) (by rfl) (by rfl) (by simp) (fun i hi => ?_) rfl) .nil
         rcases lt5 hi with rfl | rfl | rfl | rfl | rfl <;> simp only [go_sem, simprocAttr]
        ·simp)
    ·repeat (first | (with_reducible refine GA.go mixo rfl ?_) | simp only [go_sem, simprocAttr])
     exact has_tup (.v rfl rfl (.v rfl rfl (.v rfl rfl .nil)))
theorem shaV_ok (x : In) (fs : List In) (hx : opOk x) : ((shaV x fs).2.2.length ≤ 1 ∧ ∀ f ∈ (shaV x fs).2.2, True) ∧ opOk (shaV x fs).1 := by
 refine ⟨⟨?_, fun _ _ => trivial⟩, ?_⟩
 ·unfold shaV
  split
  ·split
   ·split <;> simp
   ·split <;> simp
  ·simp
 ·unfold shaV
  split
  ·split
   ·split
    ·exact hx
    ·exact ⟨by simp, by simp⟩
   ·split <;> exact hx
  ·exact hx
theorem share_has {na : Nat} {ra : Nat → Nat → AV} {regs par : Int} {cs : List In} {pt : List Int} {fin : WSt In} (hcs : cs.length < 400000) (hok : ∀ x ∈ cs, opOk x) (hpt : pairsP cs = some pt) (hptl : pt.length = cs.length)
  (hgo : walkGo desV eqIn shaV cs pt cs 0 ⟨[], [], []⟩ = some fin) :
  Has Tryz.prog 41 [codeV na ra regs par cs] [.o 37 5 fin.out.length 0 (cC fin.out)] := by
 have hw := walkV_has (n0 := 0) (pf := fun _ => True) desV shaV 69 70 cs [] pt fin (fun x hx f => share1_has x f hx) (fun x hx fs hl _ => share2_has x fs hl) (fun x hx fs _ => (shaV_ok x fs (hok x hx)).1) (fun x hx fs _ => (shaV_ok x fs (hok x hx)).2) hcs hok (by simp) (by decide) (by simp) hpt hptl hgo
 refine hasQ_of' mixo x58ok ⟨by simp, by decide⟩ ?_
 simp only [argE, codeV]
 repeat (first | (with_reducible refine GA.go mixo rfl ?_) | simp only [go_sem, simprocAttr])
 refine gcall_has [] (fargs := [.fs 5 cs.length (cC cs), .fs 5 ([] : List In).length (cC []), .agg [.f 69 [] [], .f 70 [] []]]) (.cons (.rfl (by rfl)) (.cons (.sl0 _ _) (.cons (.rfl (by rfl)) .nil))) hw (by simp only [go_sem, simprocAttr]) ?_
 repeat (first | (with_reducible refine GA.go mixo rfl ?_) | simp only [go_sem, simprocAttr])
 refine ⟨[_], rfl, .o (x := _) (by simp only [go_sem, simprocAttr]; rfl) (by rfl) (by rfl) (by rfl) (by decide) (Nat.le_refl _) (Nat.le_refl _) (fun i j _ hj => row_get i j hj) (fun i j _ hj => cC_cell i hj) rfl .nil⟩
end Go.Proofs.YtidhfimbnjaceaaGreat

namespace Go.Proofs.YtidhfimbnjaceaaGreat
open Go.RowKit
set_option linter.unusedVariables false
set_option linter.unusedSimpArgs false
theorem factK_cell (l : List (Int × Int)) (i j : Nat) (hj : j < 2) : (kC l i j).cell = true := by
 have h5 : j = 0 ∨ j = 1 ∨ j = 2 ∨ j = 3 ∨ j = 4 := by omega
 rcases h5 with rfl | rfl | rfl | rfl | rfl <;> first | rfl | omega
def oCK (st : List (List (Int × Int))) (i _j : Nat) : AV := .fs 2 (st.reverse.getD i []).length (kC (st.reverse.getD i []))
theorem oCK_cons (st : List (List (Int × Int))) (t : List (Int × Int)) (i j : Nat) (hi : i < st.length) : oCK (t :: st) i j = oCK st i j := by
 unfold oCK; rw [List.reverse_cons, getD_app_lt (by simpa using hi)]
theorem oCK_top (st : List (List (Int × Int))) (t : List (Int × Int)) (j : Nat) : oCK (t :: st) st.length j = .fs 2 t.length (kC t) := by
 unfold oCK; rw [List.reverse_cons]
 have := getD_app_eq (l := st.reverse) (x := t) (d := [])
 rw [List.length_reverse] at this
 rw [this]
theorem walkK_has {n0 : Nat} {pf : (Int × Int) → Prop} (D : In → (Int × Int) → Bool) (V : In → List (Int × Int) → In × Bool × List (Int × Int)) (g v : FuncId) (cs : List In) (fs0 : List (Int × Int)) (pt : List Int) (fin : WSt (Int × Int))
  (hD : ∀ x, opOk x → ∀ f, Has Tryz.prog g ([] ++ [insV x, kV f] ++ []) [.v (.b (D x f))])
  (hV : ∀ x ∈ cs, ∀ fs : List (Int × Int), fs.length < 1000000 → (∀ f ∈ fs, pf f) → Has Tryz.prog v [insV x, .fs 2 fs.length (kC fs)] [.v (insV (V x fs).1), .v (.b (V x fs).2.1), .v (.fs 2 (V x fs).2.2.length (kC (V x fs).2.2))])
  (hV1 : ∀ x ∈ cs, ∀ fs : List (Int × Int), (∀ f ∈ fs, pf f) → (V x fs).2.2.length ≤ 1 ∧ ∀ f ∈ (V x fs).2.2, pf f)
  (hV2 : ∀ x ∈ cs, ∀ fs : List (Int × Int), (∀ f ∈ fs, pf f) → opOk (V x fs).1)
  (hcs : cs.length < 400000) (hok : ∀ x ∈ cs, opOk x) (hn0 : fs0.length ≤ n0) (hn1 : n0 < 400000) (hpf : ∀ f ∈ fs0, pf f)
  (hpt : pairsP cs = some pt) (hptl : pt.length = cs.length) (hgo : walkGo D (fun f g => decide (f.1 = g.1) && decide (f.2 = g.2)) V cs pt cs 0 ⟨[], fs0, []⟩ = some fin) :
  Has Tryz.prog 55 [.fs 5 cs.length (cC cs), .fs 2 fs0.length (kC fs0), .agg [.f g [] [], .f v [] []]] [.o 37 5 fin.out.length 0 (cC fin.out)] := by
 have hpa := pairs_has cs (by omega) pt hpt
 refine hasQ_of' mixo x19ok ⟨by simp, by decide⟩ ?_
 simp only [argE]
 have hfg : (AV.f g [] []).pu 3 = true := rfl
 have hfv : (AV.f v [] []).pu 3 = true := rfl
 repeat (first | (with_reducible refine GA.go mixo rfl ?_) | simp only [go_sem, simprocAttr])
 refine gcall_has [] (.cons (.rfl (by rfl)) .nil) hpa (by simp only [go_sem, simprocAttr]) ?_
 simp only [go_sem, simprocAttr]
 refine GA.wk (Wk.mk (L := [(0, .fs 5 cs.length (cC cs)), (1, .fs 2 fs0.length (kC fs0)), (5, .p 0 0), (7, .fs 1 pt.length (iC .i64 pt))]) (bl := [lstB 0 91 [.f g [] [], .f v [] []]]) [0] [1] ?_ ?_ ?_) ?_
 ·simp only [WkE, WkH, go_sem, simprocAttr]
  repeat' refine and_of ?_ ?_
  all_goals first | trivial | exact Wv.same rfl | exact Wv.p rfl | skip
  refine Wv.cv (Cv.own (ty := 3) (z := 0) (by simp) (by simp only [go_sem, simprocAttr]) (fun i j _ _ => rfl))
 ·refine .cons rfl (.ls) .nil
 ·simp
 with_reducible refine GA.seq ?_
 with_reducible refine GA.reg ?_
 simp only [go_sem, simprocAttr]
 with_reducible refine GA.seq ?_
 with_reducible refine GA.reg ?_
 simp only [go_sem, simprocAttr]
 refine GA.wk (Wk.nil 8 5 37 (by simp only [go_sem, simprocAttr]) (by decide) (by simp only [go_sem, simprocAttr])) ?_
 refine GA.wk (Wk.nil 9 1 82 (by simp only [go_sem, simprocAttr]) (by decide) (by simp only [go_sem, simprocAttr])) ?_
 simp only [env_put]
 repeat (first | (with_reducible refine GA.go mixo rfl ?_) | simp only [go_sem, simprocAttr])
 refine GA.loop (I := fun mm e H => ∃ (k : Nat) (s : WSt (Int × Int)), mm = cs.length - k ∧ k ≤ cs.length ∧ WInv pf n0 k s ∧ walkGo D (fun f g => decide (f.1 = g.1) && decide (f.2 = g.2)) V cs pt (cs.drop k) k s = some fin ∧
   e = envOf [(0, .fs 5 cs.length (cC cs)), (1, .fs 2 s.fs.length (kC s.fs)), (5, .p 0 0), (7, .fs 1 pt.length (iC .i64 pt)), (18, .fs 5 cs.length (cC cs)), (19, .n .i64 cs.length), (20, .n .i64 k), (8, .os 1 s.out.length), (9, .os 2 s.op.length)] ∧
   H = heapOf [rowB 82 1 s.op.length 0 (oCK s.op), rowB 37 5 s.out.length 0 (cC s.out), lstB 0 91 [.f g [] [], .f v [] []]]) (Wk.mk [2, 1, 0] [] ?_ ?_ ?_) ⟨0, ⟨[], fs0, []⟩, rfl, by omega, ⟨by simp, by simp, by simp only; omega, hpf, by simp, by simp⟩, hgo, rfl, rfl⟩ ?_
 ·simp only [WkE, WkH, go_sem, simprocAttr]
  repeat' refine and_of ?_ ?_
  all_goals first | exact wkt | skip
 ·refine .cons rfl (.rows (by simp only [go_sem, simprocAttr]; rfl) rfl rfl rfl (by simp) (by decide) (by decide) (fun i j h => by simp at h) (fun i j h => by simp at h)) (.cons rfl (.rows (by simp only [go_sem, simprocAttr]; rfl) rfl rfl rfl (by simp) (by decide) (by decide) (fun i j h => by simp at h) (fun i j h => by simp at h)) (.cons rfl (.ls) .nil))
 ·simp
 rintro mm e H ⟨k, ⟨out, fs, op⟩, rfl, hk, hinv, hs, rfl, rfl⟩
 have ⟨hi1, hi2, hi3, hi4, hi5, hi6⟩ := hinv
 simp only at hi1 hi2 hi3 hi4 hi5 hi6
 repeat (first | (with_reducible refine GA.go mixo rfl ?_) | simp only [go_sem, simprocAttr])
 refine ⟨fun h => ?_, fun h => ?_⟩
 ·have hkn : k < cs.length := by omega
  have h0 : (0 : Int) ≤ (k : Int) := by omega
  have hk1 : k + 1 ≤ cs.length := hkn
  have hm : cs.getD k dIn ∈ cs := by rw [List.getD_eq_getElem?_getD, List.getElem?_eq_getElem hkn]; exact List.getElem_mem _
  rw [drop_nx (d := dIn) hkn, walkGo] at hs
  obtain ⟨s2, hst, hs⟩ := Option.bind_eq_some_iff.1 hs
  have hcc0 : cC cs k 0 = .n .i64 (cs.getD k dIn).1 := cC0 cs k
  have hcc1 : cC cs k 1 = .n .i64 (cs.getD k dIn).2.1 := cC1 cs k
  have hcc2 : cC cs k 2 = .n .i64 (cs.getD k dIn).2.2.1 := cC2 cs k
  have hcc3 : cC cs k 3 = .n .i64 (cs.getD k dIn).2.2.2.1 := cC3 cs k
  have hcc4 : cC cs k 4 = .n .u32 (cs.getD k dIn).2.2.2.2 := cC4 cs k
  generalize cs.getD k dIn = x at hst hcc0 hcc1 hcc2 hcc3 hcc4 hm
  have hcv := hV x hm fs (by omega) hi4
  have hv1 := hV1 x hm
  have hv2 := hV2 x hm fs hi4
  have key := walkStep_inv hinv hv1 hst
  have hv1 := hv1 fs hi4
  unfold walkStep at hst
  simp only at hst
  generalize V x fs = r at hst hcv hv1 hv2
  obtain ⟨y, rem, more⟩ := r
  obtain ⟨opc, to, a, b, arg⟩ := x
  obtain ⟨yopc, yto, ya, yb, yarg⟩ := y
  simp only [insV] at hst hcv hv1 hv2 hcc0 hcc1 hcc2 hcc3 hcc4
  repeat (first | (with_reducible refine GA.go mixo rfl ?_) | simp only [h0, h, hcc0, hcc1, hcc2, hcc3, hcc4, go_sem, simprocAttr])
  refine gcall_has [] (.cons (.rfl (by rfl)) (.cons (.rfl (by rfl)) .nil)) hcv (by simp only [go_sem, simprocAttr]) ?_
  repeat (first | (with_reducible refine GA.go mixo rfl ?_) | simp only [go_sem, simprocAttr])
  have ht : rem = false ∨ rem = true := by cases rem <;> simp
  refine ⟨fun hr => ?_, fun hr => ?_⟩
  ·rw [hr, if_neg (by simp)] at hst
   cases hst
   repeat (first | (with_reducible refine GA.go mixo rfl ?_) | simp only [go_sem, simprocAttr])
   refine ⟨_, _, _, ?_, Wk.mk [2, 1, 0] [] ?_ ?_ ?_, k + 1, _, rfl, by omega, key, hs, rfl, rfl⟩
   ·omega
   ·simp only [WkE, WkH, go_sem, simprocAttr]
    repeat' refine and_of ?_ ?_
    all_goals first | exact wkt | skip
   ·refine .cons rfl (.k1) (.cons rfl (.k5) (.cons rfl (.ls) .nil))
   ·simp
  rw [hr, if_pos rfl] at hst
  obtain ⟨⟨fs', op'⟩, hsw, rfl⟩ := Option.map_eq_some_iff.1 hst
  simp only at key hs
  have hinv2 := walkSw_inv hinv hsw
  obtain ⟨hj1, hj2, hj3, hj4, hj5⟩ := hinv2
  simp only at hj1 hj2 hj3 hj4 hj5
  (try simp only [go_sem, simprocAttr])
  iterate 4 (with_reducible refine GA.go mixo rfl ?_; try simp only [go_sem, simprocAttr])
  have hy5 : ∀ j, j < 5 → [AV.n .i64 yopc, AV.n .i64 yto, AV.n .i64 ya, AV.n .i64 yb, AV.n .u32 yarg][j]?.getD .u = cC [(yopc, yto, ya, yb, yarg)] 0 j := fun j hj => by rcases lt5 hj with rfl | rfl | rfl | rfl | rfl <;> rfl
  refine GA.wk (Wk.mk (L := [(0, .fs 5 cs.length (cC cs)), (1, .fs 2 fs.length (kC fs)), (5, .p 0 0), (7, .fs 1 pt.length (iC .i64 pt)), (18, .fs 5 cs.length (cC cs)), (19, .n .i64 cs.length), (20, .n .i64 k), (8, .os 1 out.length), (9, .os 2 op.length), (10, .n .i64 k), (11, .p 3 0), (12, .p 4 0), (14, .fs 2 more.length (kC more)), (15, .n .i64 ((op.length : Int) - 1))])
   (bl := [lstB 0 37 [.n .i64 yopc, .n .i64 yto, .n .i64 ya, .n .i64 yb, .n .u32 yarg], lstB 0 37 [.n .i64 opc, .n .i64 to, .n .i64 a, .n .i64 b, .n .u32 arg], rowB 82 1 op.length 0 (oCK op), rowB 37 5 out.length 0 (cC out), lstB 0 91 [.f g [] [], .f v [] []]]) [4, 3, 2, 1, 0] [] ?_ ?_ ?_) ?_
  ·simp only [WkE, WkH, go_sem, simprocAttr]
   repeat' refine and_of ?_ ?_
   all_goals first | exact wkt | skip
  ·refine .cons rfl (.lsti (x := _) (by simp only [go_sem, simprocAttr] <;> rfl) (by rfl) (by rfl) (by rfl) (by rfl) (by rfl) (by rfl) (by simp) (fun i hi => ?_) (by rfl)) (.cons rfl (.lsti (x := _) (by simp only [go_sem, simprocAttr] <;> rfl) (by rfl) (by rfl) (by rfl) (by rfl) (by rfl) (by rfl) (by simp) (fun i hi => ?_) (by rfl)) (.cons rfl (.k1) (.cons rfl (.k5) (.cons rfl (.ls) .nil))))
   ·rcases lt5 hi with rfl | rfl | rfl | rfl | rfl <;> simp only [go_sem, simprocAttr]
   ·rcases lt5 hi with rfl | rfl | rfl | rfl | rfl <;> simp only [go_sem, simprocAttr]
  ·simp
  refine GA.cutQ (envOf [(0, .fs 5 cs.length (cC cs)), (1, .fs 2 fs'.length (kC fs')), (5, .p 0 0), (7, .fs 1 pt.length (iC .i64 pt)), (18, .fs 5 cs.length (cC cs)), (19, .n .i64 cs.length), (20, .n .i64 k), (8, .os 1 out.length), (9, .os 2 op'.length), (12, .p 3 0), (14, .fs 2 more.length (kC more))])
   (heapOf [lstB 0 37 [.n .i64 yopc, .n .i64 yto, .n .i64 ya, .n .i64 yb, .n .u32 yarg], rowB 82 1 op'.length 0 (oCK op'), rowB 37 5 out.length 0 (cC out), lstB 0 91 [.f g [] [], .f v [] []]]) ?_ ?_
  rotate_left
  ·intro e' H' hw
   refine GA.wk hw ?_
   have hwo := without_has fs' [(yopc, yto, ya, yb, yarg)] g [] [] (.f v [] []) D (fun z hz f => by
    rw [List.mem_singleton.1 hz]; exact hD _ hv2 f) rfl rfl (by omega) (by simp)
   have hwl := woF_len D fs' [(yopc, yto, ya, yb, yarg)]
   change Has _ _ _ [.o 84 2 (woF D fs' [(yopc, yto, ya, yb, yarg)]).length 0 (kC (woF D fs' [(yopc, yto, ya, yb, yarg)]))] at hwo
   generalize woF D fs' [(yopc, yto, ya, yb, yarg)] = wfs at hwo hwl key hs
   have hlim : (wfs.length + more.length) * 2 < 1099511627776 ∧ (wfs.length + more.length) * 16 ≤ 140737488355328 ∧ wfs.length + more.length ≤ 9223372036854775807 := by omega
   have hlio : (out.length + 1) * 5 < 1099511627776 ∧ (out.length + 1) * 40 ≤ 140737488355328 ∧ out.length + 1 ≤ 9223372036854775807 := by omega
   repeat (first | (with_reducible refine GA.go mixo rfl ?_) | simp only [hlim.1, hlim.2.1, hlim.2.2, hlio.1, hlio.2.1, hlio.2.2, decide_true, go_sem, simprocAttr])
   refine gcall_has [4] (fargs := [.fs 2 fs'.length (kC fs'), .agg [.f g [] [], .f v [] []], .fs 5 [(yopc, yto, ya, yb, yarg)].length (cC [(yopc, yto, ya, yb, yarg)])]) ?_ hwo (by simp only [go_sem, simprocAttr]) ?_
   ·refine .cons (.rfl (by rfl)) (.cons (.rfl (by rfl)) (.cons ?_ .nil))
    refine Cv.sl (x := _) (by simp) (by simp only [go_sem, simprocAttr] <;> rfl) (by simp) (by simp) (by simp) (fun i j hi hj => ?_) (fun i j hi hj => by rcases lt5 hj with rfl | rfl | rfl | rfl | rfl <;> rfl)
    obtain rfl : i = 0 := by simpa using hi
    rw [← hy5 j hj]
    rcases lt5 hj with rfl | rfl | rfl | rfl | rfl <;> simp only [go_sem, simprocAttr]
   repeat (first | (with_reducible refine GA.go mixo rfl ?_) | simp only [hlim.1, hlim.2.1, hlim.2.2, hlio.1, hlio.2.1, hlio.2.2, decide_true, go_sem, simprocAttr])
   refine ⟨_, _, _, ?_, Wk.mk [2, 8, 0] [6] ?_ ?_ ?_, k + 1, _, rfl, by omega, key, hs, rfl, rfl⟩
   ·omega
   ·simp only [WkE, WkH, go_sem, simprocAttr]
    repeat' refine and_of ?_ ?_
    all_goals first | exact wkt | skip
    refine Wv.cv (Cv.os (x := _) (by simp) (by simp only [go_sem, simprocAttr] <;> rfl) (by simp only [go_sem, simprocAttr] <;> omega) (fun i j hi hj => ?_) (fun i j hi hj => factK_cell _ _ _ hj))
    rw [app_fn_get hj hi (by omega), row_get i j hj]
    unfold kC
    by_cases hw : wfs.length ≤ i
    ·rw [if_pos hw]
     simp only [List.getD_eq_getElem?_getD, List.getElem?_append_right hw]
    ·rw [if_neg hw]
     simp only [List.getD_eq_getElem?_getD, List.getElem?_append_left (Nat.lt_of_not_le hw)]
   ·rw [show (out ++ [(yopc, yto, ya, yb, yarg)]).length = out.length + 1 from by simp]
    refine .cons rfl (.k1) (.cons rfl (.snoc (by simp only [go_sem, simprocAttr] <;> rfl) (by simp) (by rfl) rfl (by decide) (by omega) (fun i j hi _ => by unfold cC; rw [getD_app_lt hi]) (fun j hj => by
     unfold cC
     rw [getD_app_eq]
     exact (hy5 j hj).symm) (fun i j _ hj => by rcases lt5 hj with rfl | rfl | rfl | rfl | rfl <;> rfl)) (.cons rfl (.ls) .nil))
   ·simp
  unfold walkSw at hsw
  repeat (first | (with_reducible refine GA.go mixo rfl ?_) | simp only [go_sem, simprocAttr])
  refine ⟨fun h1 => ?_, fun h1 => ?_⟩
  ·rw [if_pos h1] at hsw
   injection hsw with hsw
   injection hsw with e1 e2
   subst e1 e2
   have hlo : op.length + 1 < 1099511627776 ∧ (op.length + 1) * 24 ≤ 140737488355328 ∧ op.length + 1 ≤ 9223372036854775807 := by omega
   repeat (first | (with_reducible refine GA.go mixo rfl ?_) | simp only [hlo.1, hlo.2.1, hlo.2.2, decide_true, go_sem, simprocAttr])
   refine Wk.mk [4, 6, 1, 0] [] ?_ ?_ ?_
   ·simp only [WkE, WkH, go_sem, simprocAttr]
    repeat' refine and_of ?_ ?_
    all_goals first | exact wkt | skip
   ·refine .cons rfl (.ls) (.cons rfl (.snoc (by simp only [go_sem, simprocAttr] <;> rfl) (by simp) (by rfl) rfl (by decide) (by omega) (fun i j hi _ => oCK_cons _ _ _ _ hi) (fun j hj => by
     cases Nat.lt_one_iff.1 hj
     exact oCK_top _ _ _) (fun i j _ _ => rfl)) (.cons rfl (.k5) (.cons rfl (.ls) .nil)))
   ·simp
  rw [if_neg h1] at hsw
  repeat (first | (with_reducible refine GA.go mixo rfl ?_) | simp only [go_sem, simprocAttr])
  refine ⟨fun h2 => ?_, fun h2 => ?_⟩
  ·rw [if_pos h2] at hsw
   cases op with
   |nil => cases hsw
   |cons t r =>
   simp only at hsw
   injection hsw with hsw
   injection hsw with e1 e2
   subst e1 e2
   have hrl : r.length ≤ k := by simp only [List.length_cons] at hi2; omega
   have hsub : ((r.length + 1 : Nat) : Int) - 1 = (r.length : Int) := by omega
   have hz0 : (0 : Int) ≤ (r.length : Int) := by omega
   have hz1 : (r.length : Int) < ((r.length + 1 : Nat) : Int) := by omega
   have hz2 : r.length < r.length + 1 := by omega
   have hg : (rowB 82 1 (r.length + 1) 0 (oCK (t :: r))).get r.length = .fs 2 t.length (kC t) := by
    rw [row_get1]; exact oCK_top _ _ _
   repeat (first | (with_reducible refine GA.go mixo rfl ?_) | simp only [hsub, hz0, hz1, hz2, hg, Nat.le_refl, go_sem, simprocAttr])
   refine Wk.mk [4, 2, 1, 0] [] ?_ ?_ ?_
   ·simp only [WkE, WkH, go_sem, simprocAttr]
    repeat' refine and_of ?_ ?_
    all_goals first | exact wkt | skip
   ·refine .cons rfl (.ls) (.cons rfl (.put (n := r.length + 1) (q := r.length) (by simp only [go_sem, simprocAttr] <;> rfl) (by simp) rfl hz2 rfl (by decide) (by omega) (fun i j h hj => ?_) (fun i j h hj => rfl)) (.cons rfl (.k5) (.cons rfl (.ls) .nil)))
    cases Nat.lt_one_iff.1 hj
    by_cases e : i = r.length
    ·rw [if_pos e, e]; exact (oCK_top _ _ _).symm
    ·rw [if_neg e, oCK_cons _ _ _ _ (by omega), oCK_cons _ _ _ _ (by omega)]
   ·simp
  rw [if_neg h2] at hsw
  have hkp : k < pt.length := by omega
  have hkpi : (k : Int) < (pt.length : Int) := by omega
  repeat (first | (with_reducible refine GA.go mixo rfl ?_) | simp only [go_sem, simprocAttr])
  refine ⟨fun h3 => ?_, fun h3 => ?_⟩
  ·rw [if_pos h3] at hsw
   split at hsw
   rotate_left
   ·cases hsw
   rename_i hrg
   obtain ⟨q, hq⟩ : ∃ q : Nat, pt.getD k 0 = (q : Int) := ⟨(pt.getD k 0).toNat, by omega⟩
   rw [hq] at hrg hsw
   rw [Int.toNat_natCast] at hsw
   have hql : q - k = ((cs.take q).drop k).length := by rw [List.length_drop, List.length_take]; omega
   have hwo := without_has fs ((cs.take q).drop k) g [] [] (.f v [] []) D (fun z hz f => hD z (hok z (List.mem_of_mem_take (List.mem_of_mem_drop hz))) f) rfl rfl (by omega) (by rw [← hql]; omega)
   have hwl := woF_len D fs ((cs.take q).drop k)
   change Has _ _ _ [.o 84 2 (woF D fs ((cs.take q).drop k)).length 0 (kC (woF D fs ((cs.take q).drop k)))] at hwo
   generalize woF D fs ((cs.take q).drop k) = wfs at hwo hwl hsw
   injection hsw with hsw
   injection hsw with e1 e2
   subst e1 e2
   have hpk : iC .i64 pt k 0 = .n .i64 (q : Int) := by unfold iC; rw [hq]
   have hq0 : (0 : Int) ≤ (q : Int) := by omega
   have hq1 : (k : Int) ≤ (q : Int) := hrg.1
   have hq2 : (q : Int) ≤ (cs.length : Int) := hrg.2
   repeat (first | (with_reducible refine GA.go mixo rfl ?_) | simp only [h0, hkpi, hpk, hq0, hq1, hq2, go_sem, simprocAttr])
   rw [hql]
   refine gcall_has [] (fargs := [.fs 2 fs.length (kC fs), .agg [.f g [] [], .f v [] []], .fs 5 ((cs.take q).drop k).length (cC ((cs.take q).drop k))]) ?_ hwo (by simp only [go_sem, simprocAttr]) ?_
   ·refine .cons (.rfl (by rfl)) (.cons (.rfl (by rfl)) (.cons (.fs (fun i j hi hj => ?_)) .nil))
    unfold cC
    rw [List.getD_eq_getElem?_getD, List.getD_eq_getElem?_getD, List.getElem?_drop, List.getElem?_take_of_lt (by omega)]
   repeat (first | (with_reducible refine GA.go mixo rfl ?_) | simp only [go_sem, simprocAttr])
   refine Wk.mk [4, 2, 1, 0] [5] ?_ ?_ ?_
   ·simp only [WkE, WkH, go_sem, simprocAttr]
    repeat' refine and_of ?_ ?_
    all_goals first | exact wkt | skip
    exact Wv.cv (Cv.own (ty := 84) (z := 0) (by simp) (by simp only [go_sem, simprocAttr]) (fun i j _ hj => factK_cell _ _ _ hj))
   ·refine .cons rfl (.ls) (.cons rfl (.k1) (.cons rfl (.k5) (.cons rfl (.ls) .nil)))
   ·simp
  rw [if_neg h3] at hsw
  by_cases h4 : opc = 31
  ·rw [if_pos h4] at hsw
   subst h4
   split at hsw
   rotate_left
   ·cases hsw
   rename_i hrg
   obtain ⟨q, hq⟩ : ∃ q : Nat, pt.getD k 0 = (q : Int) := ⟨(pt.getD k 0).toNat, by omega⟩
   rw [hq] at hrg hsw
   rw [Int.toNat_natCast] at hsw
   have hpk : iC .i64 pt k 0 = .n .i64 (q : Int) := by unfold iC; rw [hq]
   have hq0 : (0 : Int) ≤ (q : Int) := by omega
   have hq1 : (q : Int) ≤ (k : Int) := hrg.2
   have hq2 : (q : Int) < (cs.length : Int) := by omega
   have hq3 : (k : Int) ≤ (cs.length : Int) := by omega
   have hcq : cC cs q 0 = .n .i64 (cs.getD q dIn).1 := cC0 cs q
   repeat (first | (with_reducible refine GA.go mixo rfl ?_) | simp only [h0, hkpi, hpk, hq0, hq1, hq2, hcq, decide_true, go_sem, simprocAttr])
   refine ⟨fun h5 => ?_, fun h5 => ?_⟩
   ·rw [if_pos h5] at hsw
    have hql : k - q = ((cs.take k).drop q).length := by rw [List.length_drop, List.length_take]; omega
    have hwo := without_has fs ((cs.take k).drop q) g [] [] (.f v [] []) D (fun z hz f => hD z (hok z (List.mem_of_mem_take (List.mem_of_mem_drop hz))) f) rfl rfl (by omega) (by rw [← hql]; omega)
    have hwl := woF_len D fs ((cs.take k).drop q)
    change Has _ _ _ [.o 84 2 (woF D fs ((cs.take k).drop q)).length 0 (kC (woF D fs ((cs.take k).drop q)))] at hwo
    generalize woF D fs ((cs.take k).drop q) = wfs at hwo hwl hsw
    injection hsw with hsw
    injection hsw with e1 e2
    subst e1 e2
    repeat (first | (with_reducible refine GA.go mixo rfl ?_) | simp only [h0, hkpi, hpk, hq0, hq1, hq2, hq3, go_sem, simprocAttr])
    rw [hql]
    refine gcall_has [] (fargs := [.fs 2 fs.length (kC fs), .agg [.f g [] [], .f v [] []], .fs 5 ((cs.take k).drop q).length (cC ((cs.take k).drop q))]) ?_ hwo (by simp only [go_sem, simprocAttr]) ?_
    ·refine .cons (.rfl (by rfl)) (.cons (.rfl (by rfl)) (.cons (.fs (fun i j hi hj => ?_)) .nil))
     unfold cC
     rw [List.getD_eq_getElem?_getD, List.getD_eq_getElem?_getD, List.getElem?_drop, List.getElem?_take_of_lt (by omega)]
    repeat (first | (with_reducible refine GA.go mixo rfl ?_) | simp only [go_sem, simprocAttr])
    refine Wk.mk [4, 2, 1, 0] [5] ?_ ?_ ?_
    ·simp only [WkE, WkH, go_sem, simprocAttr]
     repeat' refine and_of ?_ ?_
     all_goals first | exact wkt | skip
     exact Wv.cv (Cv.own (ty := 84) (z := 0) (by simp) (by simp only [go_sem, simprocAttr]) (fun i j _ hj => factK_cell _ _ _ hj))
    ·refine .cons rfl (.ls) (.cons rfl (.k1) (.cons rfl (.k5) (.cons rfl (.ls) .nil)))
    ·simp
   ·rw [if_neg h5] at hsw
    cases op with
    |nil => cases hsw
    |cons t r =>
    simp only at hsw
    have hrl : r.length ≤ k := by simp only [List.length_cons] at hi2; omega
    have htl := hi5 t (List.mem_cons_self ..)
    have hbo := both_has fs t (by omega) (by omega)
    have hbl := boF_len (fun f g => decide (f.1 = g.1) && decide (f.2 = g.2)) fs t
    change Has _ _ _ [.o 84 2 (boF (fun f g => decide (f.1 = g.1) && decide (f.2 = g.2)) fs t).length 0 (kC (boF (fun f g => decide (f.1 = g.1) && decide (f.2 = g.2)) fs t))] at hbo
    generalize boF (fun f g => decide (f.1 = g.1) && decide (f.2 = g.2)) fs t = bfs at hbo hbl hsw
    injection hsw with hsw
    injection hsw with e1 e2
    subst e1 e2
    have hsub : ((r.length + 1 : Nat) : Int) - 1 = (r.length : Int) := by omega
    have hz0 : (0 : Int) ≤ (r.length : Int) := by omega
    have hz1 : (r.length : Int) < ((r.length + 1 : Nat) : Int) := by omega
    have hz3 : (r.length : Int) ≤ ((r.length + 1 : Nat) : Int) := by omega
    have hz2 : r.length < r.length + 1 := by omega
    have hg : (rowB 82 1 (r.length + 1) 0 (oCK (t :: r))).get r.length = .fs 2 t.length (kC t) := by
     rw [row_get1]; exact oCK_top _ _ _
    repeat (first | (with_reducible refine GA.go mixo rfl ?_) | simp only [hsub, hz0, hz1, hz2, hz3, hg, Int.le_refl, go_sem, simprocAttr])
    refine gcall_has [] (.cons (.rfl (by rfl)) (.cons (.rfl (by rfl)) .nil)) hbo (by simp only [go_sem, simprocAttr]) ?_
    repeat (first | (with_reducible refine GA.go mixo rfl ?_) | simp only [go_sem, simprocAttr])
    refine Wk.mk [4, 2, 1, 0] [5] ?_ ?_ ?_
    ·simp only [WkE, WkH, go_sem, simprocAttr]
     repeat' refine and_of ?_ ?_
     all_goals first | exact wkt | skip
     exact Wv.cv (Cv.own (ty := 84) (z := 0) (by simp) (by simp only [go_sem, simprocAttr]) (fun i j _ hj => factK_cell _ _ _ hj))
    ·refine .cons rfl (.ls) (.cons rfl (.pop (n := r.length + 1) (by simp only [go_sem, simprocAttr] <;> rfl) rfl (by decide) (by omega) (fun i j hi _ => oCK_cons _ _ _ _ hi) (fun i j _ hj => rfl)) (.cons rfl (.k5) (.cons rfl (.ls) .nil)))
    ·simp
  rw [if_neg h4] at hsw
  injection hsw with hsw
  injection hsw with e1 e2
  subst e1 e2
  repeat (first | (with_reducible refine GA.go mixo rfl ?_) | simp only [h4, decide_false, go_sem, simprocAttr])
  refine Wk.mk [4, 2, 1, 0] [] ?_ ?_ ?_
  ·simp only [WkE, WkH, go_sem, simprocAttr]
   repeat' refine and_of ?_ ?_
   all_goals first | exact wkt | skip
  ·refine .cons rfl (.ls) (.cons rfl (.k1) (.cons rfl (.k5) (.cons rfl (.ls) .nil)))
  ·simp
 ·have hkn : k = cs.length := by omega
  subst hkn
  rw [List.drop_length, walkGo] at hs
  cases hs
  repeat (first | (with_reducible refine GA.go mixo rfl ?_) | simp only [go_sem, simprocAttr])
  refine ⟨[_], rfl, .o (x := _) (by simp only [go_sem, simprocAttr]; rfl) (by rfl) (by rfl) (by rfl) (by decide) (Nat.le_refl _) (Nat.le_refl _) (fun i j _ hj => row_get i j hj) (fun i j _ hj => cC_cell i hj) rfl .nil⟩
end Go.Proofs.YtidhfimbnjaceaaGreat

namespace Go.Proofs.YtidhfimbnjaceaaGreat
open Go.RowKit
set_option linter.unusedVariables false
/-! compactorlaw24.awake -/
abbrev x77r0 : List AO :=
 [o1 0 (.mv (.c (.b false)))]
abbrev x77r1 : List AO :=
 [⟨some 15, none, .cl (.c (.f 23 [] [])) [(.c (.n .i64 0)), (.c (.n .i64 0)), (.c (.n .i64 (-1))), (.c (.n .i64 (-1))), (.c (.n .u32 2))]⟩,⟨some 16, none, .cl (.c (.f 23 [] [])) [(.c (.n .i64 0)), (.c (.n .i64 1)), (.c (.n .i64 (-1))), (.c (.n .i64 (-1))), (.c (.n .u32 3))]⟩,⟨some 17, none, .cl (.c (.f 23 [] [])) [(.c (.n .i64 8)), (.c (.n .i64 0)), (.c (.n .i64 0)), (.c (.n .i64 1)), (.c (.n .u32 0))]⟩,⟨some 18, none, .cl (.c (.f 23 [] [])) [(.c (.n .i64 34)), (.c (.n .i64 (-1))), (.c (.n .i64 0)), (.c (.n .i64 (-1))), (.c (.n .u32 0))]⟩,o1 19 (.bs 37 5 4 [.n .i64 0, .n .i64 0, .n .i64 0, .n .i64 0, .n .u32 0, .n .i64 0, .n .i64 0, .n .i64 0, .n .i64 0, .n .u32 0, .n .i64 0, .n .i64 0, .n .i64 0, .n .i64 0, .n .u32 0, .n .i64 0, .n .i64 0, .n .i64 0, .n .i64 0, .n .u32 0] [(0, 5, (.t 15)), (5, 5, (.t 16)), (10, 5, (.t 17)), (15, 5, (.t 18))]),⟨some 20, none, .cl (.c (.f 22 [] [])) [(.t 19)]⟩,o1 1 (.al 25 [.sl0, .n .i64 0, .n .i64 0, .sl0]),⟨none, none, .ap (.st 4 (.t 1) (.t 20))⟩]
abbrev x77r2 : List AO :=
 [o1 22 (.ld 4 true (.t 1)),⟨some 23, none, .cl (.c (.f 10 [] [])) [(.t 22)]⟩,o1 21 (.mv (.t 23)),o1 24 (.ext 0 (.t 21)),o1 25 (.ext 1 (.t 21)),o1 2 (.al 25 [.sl0, .n .i64 0, .n .i64 0, .sl0]),⟨none, none, .ap (.st 4 (.t 2) (.t 24))⟩,o1 3 (.mv (.t 25))]
abbrev x77r3 : List AO :=
 [o1 27 (.ld 4 true (.t 2)),⟨some 28, none, .cl (.c (.f 17 [] [])) [(.t 27)]⟩,o1 26 (.mv (.t 28)),o1 29 (.ext 0 (.t 26)),o1 30 (.ext 1 (.t 26)),o1 4 (.al 25 [.sl0, .n .i64 0, .n .i64 0, .sl0]),⟨none, none, .ap (.st 4 (.t 4) (.t 29))⟩,o1 5 (.mv (.t 30))]
abbrev x77r4 : List AO :=
 [⟨some 31, none, .cl (.c (.f 23 [] [])) [(.c (.n .i64 0)), (.c (.n .i64 0)), (.c (.n .i64 (-1))), (.c (.n .i64 (-1))), (.c (.n .u32 5))]⟩,o1 6 (.al 37 [.n .i64 0, .n .i64 0, .n .i64 0, .n .i64 0, .n .u32 0]),⟨none, none, .ap (.st 5 (.t 6) (.t 31))⟩]
abbrev x77m5 : List (Nat × AO) :=
 [(2, (o1 32 (.mv (.t 3)))),(2, (o1 33 (.mv (.t 5)))),(2, (o1 34 (.bin .add (.t 32) (.t 33)))),(2, (o1 35 (.bin .neq (.t 34) (.c (.n .i64 0))))),(2, (o1 36 (.mv (.t 35)))),(2, ⟨some 38, some (36, false), .ap (.fa 3 (.t 1))⟩),(2, ⟨some 42, some (36, false), .ap (.fa 3 (.t 1))⟩),(2, ⟨some 47, some (36, false), .ap (.fa 3 (.t 1))⟩),(1, ⟨some 37, some (36, false), .ap (.ld 4 true (.t 2))⟩),(1, ⟨some 39, some (36, false), .ap (.ld 1 false (.t 38))⟩),(2, ⟨some 40, some (36, false), .ap (.ia 5 (.t 39) (.c (.n .i64 0)))⟩),(1, ⟨some 41, some (36, false), .ap (.ld 5 true (.t 40))⟩),(1, ⟨some 43, some (36, false), .ap (.ld 1 false (.t 42))⟩),(2, ⟨some 44, some (36, false), .ap (.ia 5 (.t 43) (.c (.n .i64 1)))⟩),(1, ⟨some 45, some (36, false), .ap (.ld 5 true (.t 44))⟩),(1, ⟨some 46, some (36, false), .ap (.ld 5 true (.t 6))⟩),(1, ⟨some 48, some (36, false), .ap (.ld 1 false (.t 47))⟩),(2, ⟨some 49, some (36, false), .ap (.ia 5 (.t 48) (.c (.n .i64 3)))⟩),(1, ⟨some 50, some (36, false), .ap (.ld 5 true (.t 49))⟩),(0, ⟨some 51, some (36, false), .ap (.bs 37 5 4 [.n .i64 0, .n .i64 0, .n .i64 0, .n .i64 0, .n .u32 0, .n .i64 0, .n .i64 0, .n .i64 0, .n .i64 0, .n .u32 0, .n .i64 0, .n .i64 0, .n .i64 0, .n .i64 0, .n .u32 0, .n .i64 0, .n .i64 0, .n .i64 0, .n .i64 0, .n .u32 0] [(0, 5, (.t 41)), (5, 5, (.t 45)), (10, 5, (.t 46)), (15, 5, (.t 50))])⟩),(0, ⟨some 52, some (36, false), .cl (.c (.f 22 [] [])) [(.t 51)]⟩),(0, ⟨some 53, some (36, false), .cl (.c (.f 12 [] [])) [(.t 37), (.t 52)]⟩),(2, ⟨some 54, some (36, false), .ap (.un .not (.t 53))⟩),(2, (o1 55 (.pick (.t 36) (.c (.b true)) (.t 54)))),(2, (o1 56 (.mv (.t 55)))),(2, ⟨some 59, some (56, false), .ap (.fa 3 (.t 1))⟩),(1, ⟨some 57, some (56, false), .ap (.ld 4 true (.t 4))⟩),(1, ⟨some 58, some (56, false), .ap (.ld 5 true (.t 6))⟩),(1, ⟨some 60, some (56, false), .ap (.ld 1 false (.t 59))⟩),(2, ⟨some 61, some (56, false), .ap (.ia 5 (.t 60) (.c (.n .i64 3)))⟩),(1, ⟨some 62, some (56, false), .ap (.ld 5 true (.t 61))⟩),(0, ⟨some 63, some (56, false), .ap (.bs 37 5 2 [.n .i64 0, .n .i64 0, .n .i64 0, .n .i64 0, .n .u32 0, .n .i64 0, .n .i64 0, .n .i64 0, .n .i64 0, .n .u32 0] [(0, 5, (.t 58)), (5, 5, (.t 62))])⟩),(0, ⟨some 64, some (56, false), .cl (.c (.f 22 [] [])) [(.t 63)]⟩),(0, ⟨some 65, some (56, false), .cl (.c (.f 12 [] [])) [(.t 57), (.t 64)]⟩),(2, ⟨some 66, some (56, false), .ap (.un .not (.t 65))⟩),(2, (o1 67 (.pick (.t 56) (.c (.b true)) (.t 66))))]
abbrev x77r6 : List AO :=
 [o1 0 (.mv (.c (.b false)))]
abbrev x77r7 : List AO :=
 [⟨some 68, none, .cl (.c (.f 23 [] [])) [(.c (.n .i64 32)), (.c (.n .i64 1)), (.c (.n .i64 (-1))), (.c (.n .i64 (-1))), (.c (.n .u32 0))]⟩,⟨some 69, none, .cl (.c (.f 23 [] [])) [(.c (.n .i64 36)), (.c (.n .i64 2)), (.c (.n .i64 1)), (.c (.n .i64 (-1))), (.c (.n .u32 0))]⟩,⟨some 70, none, .cl (.c (.f 23 [] [])) [(.c (.n .i64 34)), (.c (.n .i64 (-1))), (.c (.n .i64 2)), (.c (.n .i64 (-1))), (.c (.n .u32 0))]⟩,⟨some 71, none, .cl (.c (.f 23 [] [])) [(.c (.n .i64 34)), (.c (.n .i64 (-1))), (.c (.n .i64 1)), (.c (.n .i64 (-1))), (.c (.n .u32 0))]⟩,o1 72 (.bs 37 5 4 [.n .i64 0, .n .i64 0, .n .i64 0, .n .i64 0, .n .u32 0, .n .i64 0, .n .i64 0, .n .i64 0, .n .i64 0, .n .u32 0, .n .i64 0, .n .i64 0, .n .i64 0, .n .i64 0, .n .u32 0, .n .i64 0, .n .i64 0, .n .i64 0, .n .i64 0, .n .u32 0] [(0, 5, (.t 68)), (5, 5, (.t 69)), (10, 5, (.t 70)), (15, 5, (.t 71))]),⟨some 73, none, .cl (.c (.f 22 [] [])) [(.t 72)]⟩,o1 7 (.al 25 [.sl0, .n .i64 0, .n .i64 0, .sl0]),⟨none, none, .ap (.st 4 (.t 7) (.t 73))⟩]
abbrev x77r8 : List AO :=
 [o1 75 (.ld 4 true (.t 7)),⟨some 76, none, .cl (.c (.f 13 [] [])) [(.t 75)]⟩,o1 74 (.mv (.t 76)),o1 77 (.ext 0 (.t 74)),o1 78 (.ext 1 (.t 74)),o1 8 (.al 25 [.sl0, .n .i64 0, .n .i64 0, .sl0]),⟨none, none, .ap (.st 4 (.t 8) (.t 77))⟩,o1 3 (.mv (.t 78))]
abbrev x77r9 : List AO :=
 [o1 80 (.ld 4 true (.t 8)),⟨some 81, none, .cl (.c (.f 17 [] [])) [(.t 80)]⟩,o1 79 (.mv (.t 81)),o1 82 (.ext 0 (.t 79)),o1 83 (.ext 1 (.t 79)),o1 9 (.al 25 [.sl0, .n .i64 0, .n .i64 0, .sl0]),⟨none, none, .ap (.st 4 (.t 9) (.t 82))⟩,o1 5 (.mv (.t 83))]
abbrev x77r10 : List AO :=
 [o1 84 (.fa 3 (.t 7)),o1 85 (.ld 1 false (.t 84)),o1 86 (.ia 5 (.t 85) (.c (.n .i64 3))),o1 87 (.ld 5 true (.t 86)),o1 10 (.al 37 [.n .i64 0, .n .i64 0, .n .i64 0, .n .i64 0, .n .u32 0]),⟨none, none, .ap (.st 5 (.t 10) (.t 87))⟩]
abbrev x77m11 : List (Nat × AO) :=
 [(2, (o1 88 (.mv (.t 3)))),(2, (o1 89 (.mv (.t 5)))),(2, (o1 90 (.bin .add (.t 88) (.t 89)))),(2, (o1 91 (.bin .neq (.t 90) (.c (.n .i64 0))))),(2, (o1 92 (.mv (.t 91)))),(2, ⟨some 94, some (92, false), .ap (.fa 3 (.t 7))⟩),(2, ⟨some 98, some (92, false), .ap (.fa 3 (.t 7))⟩),(1, ⟨some 93, some (92, false), .ap (.ld 4 true (.t 8))⟩),(1, ⟨some 95, some (92, false), .ap (.ld 1 false (.t 94))⟩),(2, ⟨some 96, some (92, false), .ap (.ia 5 (.t 95) (.c (.n .i64 0)))⟩),(1, ⟨some 97, some (92, false), .ap (.ld 5 true (.t 96))⟩),(1, ⟨some 99, some (92, false), .ap (.ld 1 false (.t 98))⟩),(2, ⟨some 100, some (92, false), .ap (.ia 5 (.t 99) (.c (.n .i64 1)))⟩),(1, ⟨some 101, some (92, false), .ap (.ld 5 true (.t 100))⟩),(1, ⟨some 102, some (92, false), .ap (.ld 5 true (.t 10))⟩),(1, ⟨some 103, some (92, false), .ap (.ld 5 true (.t 10))⟩),(0, ⟨some 104, some (92, false), .ap (.bs 37 5 4 [.n .i64 0, .n .i64 0, .n .i64 0, .n .i64 0, .n .u32 0, .n .i64 0, .n .i64 0, .n .i64 0, .n .i64 0, .n .u32 0, .n .i64 0, .n .i64 0, .n .i64 0, .n .i64 0, .n .u32 0, .n .i64 0, .n .i64 0, .n .i64 0, .n .i64 0, .n .u32 0] [(0, 5, (.t 97)), (5, 5, (.t 101)), (10, 5, (.t 102)), (15, 5, (.t 103))])⟩),(0, ⟨some 105, some (92, false), .cl (.c (.f 22 [] [])) [(.t 104)]⟩),(0, ⟨some 106, some (92, false), .cl (.c (.f 12 [] [])) [(.t 93), (.t 105)]⟩),(2, ⟨some 107, some (92, false), .ap (.un .not (.t 106))⟩),(2, (o1 108 (.pick (.t 92) (.c (.b true)) (.t 107)))),(2, (o1 109 (.mv (.t 108)))),(2, ⟨some 111, some (109, false), .ap (.fa 3 (.t 7))⟩),(1, ⟨some 110, some (109, false), .ap (.ld 4 true (.t 9))⟩),(1, ⟨some 112, some (109, false), .ap (.ld 1 false (.t 111))⟩),(2, ⟨some 113, some (109, false), .ap (.ia 5 (.t 112) (.c (.n .i64 0)))⟩),(1, ⟨some 114, some (109, false), .ap (.ld 5 true (.t 113))⟩),(1, ⟨some 115, some (109, false), .ap (.ld 5 true (.t 10))⟩),(1, ⟨some 116, some (109, false), .ap (.ld 5 true (.t 10))⟩),(0, ⟨some 117, some (109, false), .ap (.bs 37 5 3 [.n .i64 0, .n .i64 0, .n .i64 0, .n .i64 0, .n .u32 0, .n .i64 0, .n .i64 0, .n .i64 0, .n .i64 0, .n .u32 0, .n .i64 0, .n .i64 0, .n .i64 0, .n .i64 0, .n .u32 0] [(0, 5, (.t 114)), (5, 5, (.t 115)), (10, 5, (.t 116))])⟩),(0, ⟨some 118, some (109, false), .cl (.c (.f 22 [] [])) [(.t 117)]⟩),(0, ⟨some 119, some (109, false), .cl (.c (.f 12 [] [])) [(.t 110), (.t 118)]⟩),(2, ⟨some 120, some (109, false), .ap (.un .not (.t 119))⟩),(2, (o1 121 (.pick (.t 109) (.c (.b true)) (.t 120))))]
abbrev x77r12 : List AO :=
 [o1 0 (.mv (.c (.b false)))]
abbrev x77r13 : List AO :=
 [⟨some 122, none, .cl (.c (.f 23 [] [])) [(.c (.n .i64 32)), (.c (.n .i64 0)), (.c (.n .i64 (-1))), (.c (.n .i64 (-1))), (.c (.n .u32 0))]⟩,⟨some 123, none, .cl (.c (.f 23 [] [])) [(.c (.n .i64 32)), (.c (.n .i64 1)), (.c (.n .i64 (-1))), (.c (.n .i64 (-1))), (.c (.n .u32 0))]⟩,⟨some 124, none, .cl (.c (.f 23 [] [])) [(.c (.n .i64 8)), (.c (.n .i64 2)), (.c (.n .i64 0)), (.c (.n .i64 1)), (.c (.n .u32 0))]⟩,⟨some 125, none, .cl (.c (.f 23 [] [])) [(.c (.n .i64 8)), (.c (.n .i64 3)), (.c (.n .i64 0)), (.c (.n .i64 1)), (.c (.n .u32 0))]⟩,⟨some 126, none, .cl (.c (.f 23 [] [])) [(.c (.n .i64 34)), (.c (.n .i64 (-1))), (.c (.n .i64 3)), (.c (.n .i64 (-1))), (.c (.n .u32 0))]⟩,o1 127 (.bs 37 5 5 [.n .i64 0, .n .i64 0, .n .i64 0, .n .i64 0, .n .u32 0, .n .i64 0, .n .i64 0, .n .i64 0, .n .i64 0, .n .u32 0, .n .i64 0, .n .i64 0, .n .i64 0, .n .i64 0, .n .u32 0, .n .i64 0, .n .i64 0, .n .i64 0, .n .i64 0, .n .u32 0, .n .i64 0, .n .i64 0, .n .i64 0, .n .i64 0, .n .u32 0] [(0, 5, (.t 122)), (5, 5, (.t 123)), (10, 5, (.t 124)), (15, 5, (.t 125)), (20, 5, (.t 126))]),⟨some 128, none, .cl (.c (.f 22 [] [])) [(.t 127)]⟩,o1 11 (.al 25 [.sl0, .n .i64 0, .n .i64 0, .sl0]),⟨none, none, .ap (.st 4 (.t 11) (.t 128))⟩]
abbrev x77r14 : List AO :=
 [o1 130 (.ld 4 true (.t 11)),⟨some 131, none, .cl (.c (.f 15 [] [])) [(.t 130)]⟩,o1 129 (.mv (.t 131)),o1 132 (.ext 0 (.t 129)),o1 133 (.ext 1 (.t 129)),o1 12 (.al 25 [.sl0, .n .i64 0, .n .i64 0, .sl0]),⟨none, none, .ap (.st 4 (.t 12) (.t 132))⟩,o1 3 (.mv (.t 133))]
abbrev x77r15 : List AO :=
 [o1 135 (.ld 4 true (.t 11)),⟨some 136, none, .cl (.c (.f 19 [] [])) [(.t 135)]⟩,o1 134 (.mv (.t 136)),o1 137 (.ext 0 (.t 134)),o1 138 (.ext 1 (.t 134)),o1 13 (.al 25 [.sl0, .n .i64 0, .n .i64 0, .sl0]),⟨none, none, .ap (.st 4 (.t 13) (.t 137))⟩,o1 5 (.mv (.t 138))]
abbrev x77m16 : List (Nat × AO) :=
 [(2, (o1 139 (.fa 3 (.t 11)))),(1, (o1 140 (.ld 1 false (.t 139)))),(2, (o1 141 (.ia 5 (.t 140) (.c (.n .i64 0))))),(1, (o1 142 (.ld 5 true (.t 141)))),(2, (o1 144 (.fa 3 (.t 11)))),(1, (o1 145 (.ld 1 false (.t 144)))),(2, (o1 146 (.ia 5 (.t 145) (.c (.n .i64 2))))),(1, (o1 147 (.ld 5 true (.t 146)))),(2, (o1 149 (.fa 3 (.t 11)))),(1, (o1 150 (.ld 1 false (.t 149)))),(2, (o1 151 (.ia 5 (.t 150) (.c (.n .i64 4))))),(1, (o1 152 (.ld 5 true (.t 151))))]
abbrev x77t17 : AT :=
 (.alt ⟨some 143, none, .cl (.c (.f 23 [] [])) [(.c (.n .i64 36)), (.c (.n .i64 1)), (.c (.n .i64 0)), (.c (.n .i64 (-1))), (.c (.n .u32 0))]⟩ (.alt ⟨some 148, none, .cl (.c (.f 23 [] [])) [(.c (.n .i64 36)), (.c (.n .i64 3)), (.c (.n .i64 2)), (.c (.n .i64 (-1))), (.c (.n .u32 0))]⟩ (.alt (o1 153 (.bs 37 5 5 [.n .i64 0, .n .i64 0, .n .i64 0, .n .i64 0, .n .u32 0, .n .i64 0, .n .i64 0, .n .i64 0, .n .i64 0, .n .u32 0, .n .i64 0, .n .i64 0, .n .i64 0, .n .i64 0, .n .u32 0, .n .i64 0, .n .i64 0, .n .i64 0, .n .i64 0, .n .u32 0, .n .i64 0, .n .i64 0, .n .i64 0, .n .i64 0, .n .u32 0] [(0, 5, (.t 142)), (5, 5, (.t 143)), (10, 5, (.t 147)), (15, 5, (.t 148)), (20, 5, (.t 152))])) (.alt ⟨some 154, none, .cl (.c (.f 22 [] [])) [(.t 153)]⟩ (.alt (o1 14 (.al 25 [.sl0, .n .i64 0, .n .i64 0, .sl0])) (.alt ⟨none, none, .ap (.st 4 (.t 14) (.t 154))⟩ .fin .none) .none) (.alt (o1 14 (.al 25 [.sl0, .n .i64 0, .n .i64 0, .sl0])) (.alt ⟨some 154, none, .cl (.c (.f 22 [] [])) [(.t 153)]⟩ (.alt ⟨none, none, .ap (.st 4 (.t 14) (.t 154))⟩ .fin .none) .none) .none)) (.alt (o1 14 (.al 25 [.sl0, .n .i64 0, .n .i64 0, .sl0])) (.alt (o1 153 (.bs 37 5 5 [.n .i64 0, .n .i64 0, .n .i64 0, .n .i64 0, .n .u32 0, .n .i64 0, .n .i64 0, .n .i64 0, .n .i64 0, .n .u32 0, .n .i64 0, .n .i64 0, .n .i64 0, .n .i64 0, .n .u32 0, .n .i64 0, .n .i64 0, .n .i64 0, .n .i64 0, .n .u32 0, .n .i64 0, .n .i64 0, .n .i64 0, .n .i64 0, .n .u32 0] [(0, 5, (.t 142)), (5, 5, (.t 143)), (10, 5, (.t 147)), (15, 5, (.t 148)), (20, 5, (.t 152))])) (.alt ⟨some 154, none, .cl (.c (.f 22 [] [])) [(.t 153)]⟩ (.alt ⟨none, none, .ap (.st 4 (.t 14) (.t 154))⟩ .fin .none) .none) .none) .none)) (.alt (o1 14 (.al 25 [.sl0, .n .i64 0, .n .i64 0, .sl0])) (.alt ⟨some 148, none, .cl (.c (.f 23 [] [])) [(.c (.n .i64 36)), (.c (.n .i64 3)), (.c (.n .i64 2)), (.c (.n .i64 (-1))), (.c (.n .u32 0))]⟩ (.alt (o1 153 (.bs 37 5 5 [.n .i64 0, .n .i64 0, .n .i64 0, .n .i64 0, .n .u32 0, .n .i64 0, .n .i64 0, .n .i64 0, .n .i64 0, .n .u32 0, .n .i64 0, .n .i64 0, .n .i64 0, .n .i64 0, .n .u32 0, .n .i64 0, .n .i64 0, .n .i64 0, .n .i64 0, .n .u32 0, .n .i64 0, .n .i64 0, .n .i64 0, .n .i64 0, .n .u32 0] [(0, 5, (.t 142)), (5, 5, (.t 143)), (10, 5, (.t 147)), (15, 5, (.t 148)), (20, 5, (.t 152))])) (.alt ⟨some 154, none, .cl (.c (.f 22 [] [])) [(.t 153)]⟩ (.alt ⟨none, none, .ap (.st 4 (.t 14) (.t 154))⟩ .fin .none) .none) .none) .none) .none)) (.alt (o1 14 (.al 25 [.sl0, .n .i64 0, .n .i64 0, .sl0])) (.alt ⟨some 143, none, .cl (.c (.f 23 [] [])) [(.c (.n .i64 36)), (.c (.n .i64 1)), (.c (.n .i64 0)), (.c (.n .i64 (-1))), (.c (.n .u32 0))]⟩ (.alt ⟨some 148, none, .cl (.c (.f 23 [] [])) [(.c (.n .i64 36)), (.c (.n .i64 3)), (.c (.n .i64 2)), (.c (.n .i64 (-1))), (.c (.n .u32 0))]⟩ (.alt (o1 153 (.bs 37 5 5 [.n .i64 0, .n .i64 0, .n .i64 0, .n .i64 0, .n .u32 0, .n .i64 0, .n .i64 0, .n .i64 0, .n .i64 0, .n .u32 0, .n .i64 0, .n .i64 0, .n .i64 0, .n .i64 0, .n .u32 0, .n .i64 0, .n .i64 0, .n .i64 0, .n .i64 0, .n .u32 0, .n .i64 0, .n .i64 0, .n .i64 0, .n .i64 0, .n .u32 0] [(0, 5, (.t 142)), (5, 5, (.t 143)), (10, 5, (.t 147)), (15, 5, (.t 148)), (20, 5, (.t 152))])) (.alt ⟨some 154, none, .cl (.c (.f 22 [] [])) [(.t 153)]⟩ (.alt ⟨none, none, .ap (.st 4 (.t 14) (.t 154))⟩ .fin .none) .none) .none) .none) .none) .none))
abbrev x77m18 : List (Nat × AO) :=
 [(2, (o1 155 (.mv (.t 3)))),(2, (o1 156 (.mv (.t 5)))),(2, (o1 157 (.bin .add (.t 155) (.t 156)))),(2, (o1 158 (.bin .eql (.t 157) (.c (.n .i64 0))))),(2, (o1 159 (.mv (.t 158)))),(1, ⟨some 160, some (159, true), .ap (.ld 4 true (.t 12))⟩),(1, ⟨some 161, some (159, true), .ap (.ld 4 true (.t 14))⟩),(0, ⟨some 162, some (159, true), .cl (.c (.f 12 [] [])) [(.t 160), (.t 161)]⟩),(2, (o1 163 (.pick (.t 159) (.t 162) (.c (.b false))))),(2, (o1 164 (.mv (.t 163)))),(2, ⟨some 166, some (164, true), .ap (.fa 3 (.t 11))⟩),(1, ⟨some 165, some (164, true), .ap (.ld 4 true (.t 13))⟩),(1, ⟨some 167, some (164, true), .ap (.ld 1 false (.t 166))⟩),(2, ⟨some 168, some (164, true), .ap (.ia 5 (.t 167) (.c (.n .i64 0)))⟩),(1, ⟨some 169, some (164, true), .ap (.ld 5 true (.t 168))⟩),(0, ⟨some 170, some (164, true), .cl (.c (.f 23 [] [])) [(.c (.n .i64 8)), (.c (.n .i64 2)), (.c (.n .i64 0)), (.c (.n .i64 0)), (.c (.n .u32 0))]⟩),(0, ⟨some 171, some (164, true), .cl (.c (.f 23 [] [])) [(.c (.n .i64 34)), (.c (.n .i64 (-1))), (.c (.n .i64 2)), (.c (.n .i64 (-1))), (.c (.n .u32 0))]⟩),(0, ⟨some 172, some (164, true), .ap (.bs 37 5 3 [.n .i64 0, .n .i64 0, .n .i64 0, .n .i64 0, .n .u32 0, .n .i64 0, .n .i64 0, .n .i64 0, .n .i64 0, .n .u32 0, .n .i64 0, .n .i64 0, .n .i64 0, .n .i64 0, .n .u32 0] [(0, 5, (.t 169)), (5, 5, (.t 170)), (10, 5, (.t 171))])⟩),(0, ⟨some 173, some (164, true), .cl (.c (.f 22 [] [])) [(.t 172)]⟩),(0, ⟨some 174, some (164, true), .cl (.c (.f 12 [] [])) [(.t 165), (.t 173)]⟩),(2, (o1 175 (.pick (.t 164) (.t 174) (.c (.b false))))),(2, (o1 0 (.mv (.t 175))))]
abbrev x77F : AF := ⟨176, (.seq (.reg x77r0) (.seq (.reg x77r1) (.seq (.reg x77r2) (.seq (.reg x77r3) (.seq (.reg x77r4) (.seq (.seq (.mix x77m5) (.cond (.t 67) (.seq (.reg x77r6) .ret) .skip)) (.seq (.reg x77r7) (.seq (.reg x77r8) (.seq (.reg x77r9) (.seq (.reg x77r10) (.seq (.seq (.mix x77m11) (.cond (.t 121) (.seq (.reg x77r12) .ret) .skip)) (.seq (.reg x77r13) (.seq (.reg x77r14) (.seq (.reg x77r15) (.seq (.frk x77m16 x77t17) (.seq (.mix x77m18) .ret)))))))))))))))), [.mv (.t 0)]⟩
theorem x77ok : afOf Tryz.prog (hintsOf0 Tryz.prog 9) 9 = some x77F := by rw [← afOf2_eq]; kernel_rfl
end Go.Proofs.YtidhfimbnjaceaaGreat
