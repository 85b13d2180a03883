/- A part of the proof of OptimizerPrunes: LaA LaC. No condition. -/
import Derived.Test.YtidhfimbnjaceaaGreatGp41
import Derived.Test.YtidhfimbnjaceaaGreatGp39
import Derived.Test.YtidhfimbnjaceaaGreatGp36
import Derived.Test.YtidhfimbnjaceaaGreatGp11
set_option linter.unusedSimpArgs false
set_option linter.unusedVariables false
set_option linter.constructorNameAsVariable false
set_option maxRecDepth 100000
set_option maxHeartbeats 4000000
namespace Go.Proofs.YtidhfimbnjaceaaGreat
open Go.ChangeShapes Go.WideShapes Go.ChangeAt Go.RowKit Go.Deep Go.Joins
set_option linter.unusedVariables false
def vIntD : Value → Int
 |.int _ n => n
 |_ => 0
def vBoolD : Value → Bool
 |.bool b => b
 |_ => false
theorem wfD_u32 {n : Int} (h : (Lit.int .u32 n).wf = true) : 0 ≤ n ∧ n < 4294967296 := by
 have h2 : IntKind.u32.min ≤ n ∧ n ≤ IntKind.u32.max := by simpa [Lit.wf] using h
 have e1 : IntKind.u32.min = 0 := by decide
 have e2 : IntKind.u32.max = 4294967295 := by decide
 omega
theorem slice_cap {H : Type} {enc : TypeId × Value → H} {P : Program} {w : World} {base : Nat} {spare : Nat → Bool} {held : Bool} {t e : TypeId} {fuel : Nat} {cs : List Value} {x : DataW H × List MemPlace} (ht : P.underlying t = some (.slice e)) (h : DataW.trod enc P w base spare held fuel t cs = some x)
  {a : Option Addr} {len cap : Nat} (hcs : cs = [.slice a len cap]) : len ≤ cap := by
 rcases open_slice ht h with ⟨rfl, _⟩ | ⟨a', len', cap', m, n, D, Pl, rfl, hb, hl, _⟩
 ·cases hcs; exact Nat.le_refl _
 ·cases hcs; exact hl
def allF (w : World) : Fz := fun c => match w.heap[c]? with
 |some (.cells cs _ _) => some cs
 |_ => none
theorem allF_in (w : World) : inW (allF w) w := fun c fs hf => by
 unfold allF at hf
 split at hf
 ·rename_i cs t fr h
  cases hf
  exact ⟨_, _, _, h, Pre.refl _⟩
 ·cases hf
theorem row_data {w : World} {a : Option Addr} {n cap esz : Nat} {V : Nat → Nat → Value} {row : Nat → Nat → AV} (h : RowB w.heap.size w esz a n V) (h0 : 0 < esz) (hcap : n ≤ cap) (hc : ∀ i j, i < n → j < esz → (row i j).cell = true) (hv : ∀ (σ : Sg) i j, i < n → j < esz → VR σ (row i j) (V i j)) :
  VR (Sg.data (allF w)) (.fs esz n row) (.slice a n cap) := by
 cases n with
 |zero => exact .fs0 _ _ _ _
 |succ n =>
  obtain ⟨b, off, rfl, hb, hcell⟩ := h 0 (by omega)
  have hall : ∀ i j, i < n + 1 → j < esz → w.cell? ⟨b, off + i * esz + j, none⟩ = some (V i j) := fun i j hi hj => by
   obtain ⟨b', off', e, _, hcell'⟩ := h i hi
   cases e
   exact hcell' j hj
  cases hh : w.heap[b]? with
  |none =>
   have := hall 0 0 (by omega) h0
   simp only [World.cell?, hh] at this
   cases this
  |some o =>
   cases o with
   |cells cs t fr =>
    have hget : ∀ i j, i < n + 1 → j < esz → cs[off + i * esz + j]? = some (V i j) := fun i j hi hj => by
     have := hall i j hi hj
     simpa [World.cell?, hh] using this
    have hlast := hget n (esz - 1) (by omega) (by omega)
    have hsz := (Array.getElem?_eq_some_iff.1 hlast).1
    refine .fs (σ := Sg.data (allF w)) (c := b) (off := off) (cs := cs) ?_ ?_ hc (fun i j hi hj => ?_) _ hcap
    ·show allF w b = some cs
     unfold allF
     rw [hh]
    ·rw [Nat.succ_mul]; omega
    ·rw [Array.getD_eq_getD_getElem?, hget i j hi hj]
     exact hv _ i j hi hj
   |_ =>
    have := hall 0 0 (by omega) h0
    simp only [World.cell?, hh] at this
    cases this
theorem getD_range_mapD {α : Type} (d : α) (n i : Nat) (f : Nat → α) (h : i < n) : ((List.range n).map f).getD i d = f i := by
 rw [List.getD_eq_getElem?_getD, List.getElem?_map, List.getElem?_range h]; rfl
theorem open_codeD {H : Type} {enc : TypeId × Value → H} {w : World} {base : Nat} {spare : Nat → Bool} {held : Bool} {r : Reach} {b0 : Nat} {v : Value} {d : DataW H} {p : List MemPlace}
  (hv : Value.okWide Tryz.prog w r b0 25 v) (h : DataW.Trod enc Tryz.prog w base spare held 25 v d p) :
  ∃ (la : List (Bool × Int)) (regs par : Int) (cs : List In), VRs (Sg.data (allF w)) [codeV la.length (aC la) regs par cs] [v] ∧ argOk cs := by
 obtain ⟨v0, v1, v2, v3, y0, y1, y2, y3, n, rfl, _, _, h0, h1, h2, h3⟩ := open_agg4 (P := Tryz.prog) Tryz.underlying25 (by kernel_rfl) (by kernel_rfl) hv h
 obtain ⟨m1, e1, _, w1⟩ := DataW.trod_int (k := .i64) (by kernel_rfl) h1
 obtain ⟨m2, e2, _, w2⟩ := DataW.trod_int (k := .i64) (by kernel_rfl) h2
 obtain ⟨a, len, cap, n0, V, e0, hl, hV, ht⟩ := open_rows (P := Tryz.prog) Tryz.underlying22 Tryz.underlying93 (by kernel_rfl) (by kernel_rfl) (by decide) h0
 obtain ⟨a', len', cap', n1, V', e3, hl', hV', ht'⟩ := open_rows (P := Tryz.prog) Tryz.underlying23 Tryz.underlying37 (by kernel_rfl) (by kernel_rfl) (by decide) h3
 have hc0 := slice_cap Tryz.underlying22 h0 e0
 have hc3 := slice_cap Tryz.underlying23 h3 e3
 simp only [List.cons.injEq, and_true] at e0 e1 e2 e3
 subst e0 e1 e2 e3
 replace hV : RowB w.heap.size w 2 a len V := hV
 replace hV' : RowB w.heap.size w 5 a' len' V' := hV'
 have key0 : ∀ i, i < len → ∃ b n, V i 0 = .bool b ∧ V i 1 = .int .i64 n := fun i hi => by
  obtain ⟨z0, g0⟩ := ht i hi 0 _ rfl
  obtain ⟨z1, g1⟩ := ht i hi 1 _ rfl
  obtain ⟨b, q0, _⟩ := DataW.trod_bool (by kernel_rfl) g0
  obtain ⟨m, q1, _, _⟩ := DataW.trod_int (k := .i64) (by kernel_rfl) g1
  simp only [List.cons.injEq, and_true] at q0 q1
  exact ⟨b, m, q0, q1⟩
 have key3 : ∀ i, i < len' → ∃ op to x y arg, V' i 0 = .int .i64 op ∧ V' i 1 = .int .i64 to ∧ V' i 2 = .int .i64 x ∧ V' i 3 = .int .i64 y ∧ V' i 4 = .int .u32 arg ∧ 0 ≤ arg ∧ arg < 4294967296 := fun i hi => by
  obtain ⟨z0, g0⟩ := ht' i hi 0 _ rfl
  obtain ⟨z1, g1⟩ := ht' i hi 1 _ rfl
  obtain ⟨z2, g2⟩ := ht' i hi 2 _ rfl
  obtain ⟨z3, g3⟩ := ht' i hi 3 _ rfl
  obtain ⟨z4, g4⟩ := ht' i hi 4 _ rfl
  obtain ⟨k0, q0, _, _⟩ := DataW.trod_int (k := .i64) (by kernel_rfl) g0
  obtain ⟨k1, q1, _, _⟩ := DataW.trod_int (k := .i64) (by kernel_rfl) g1
  obtain ⟨k2, q2, _, _⟩ := DataW.trod_int (k := .i64) (by kernel_rfl) g2
  obtain ⟨k3, q3, _, _⟩ := DataW.trod_int (k := .i64) (by kernel_rfl) g3
  obtain ⟨k4, q4, _, w4⟩ := DataW.trod_int (k := .u32) (by kernel_rfl) g4
  simp only [List.cons.injEq, and_true] at q0 q1 q2 q3 q4
  exact ⟨k0, k1, k2, k3, k4, q0, q1, q2, q3, q4, wfD_u32 w4⟩
 refine ⟨(List.range len).map fun i => (vBoolD (V i 0), vIntD (V i 1)), m1, m2, (List.range len').map fun i => (vIntD (V' i 0), vIntD (V' i 1), vIntD (V' i 2), vIntD (V' i 3), vIntD (V' i 4)), ?_, ?_⟩
 ·refine .cons ?_ .nil
  unfold codeV
  have v0 : VR (Sg.data (allF w)) (.fs 2 ((List.range len).map fun i => (vBoolD (V i 0), vIntD (V i 1))).length (aC ((List.range len).map fun i => (vBoolD (V i 0), vIntD (V i 1))))) (.slice a len cap) := by
   have hlen : ((List.range len).map fun i => (vBoolD (V i 0), vIntD (V i 1))).length = len := by simp
   have := row_data (row := aC ((List.range len).map fun i => (vBoolD (V i 0), vIntD (V i 1)))) hV (by decide) hc0 (fun i j hi hj => cC_aC i j (by rw [hlen]; exact hi) hj) (fun σ i j hi hj => by
    obtain ⟨b, n, q0, q1⟩ := key0 i hi
    unfold aC
    rw [getD_range_mapD _ _ _ _ hi]
    have hj2 : j = 0 ∨ j = 1 := by omega
    rcases hj2 with rfl | rfl
    ·rw [q0]; exact .b _
    ·rw [q1]; exact .n _ _)
   rw [hlen]
   exact this
  have v3 : VR (Sg.data (allF w)) (.fs 5 ((List.range len').map fun i => (vIntD (V' i 0), vIntD (V' i 1), vIntD (V' i 2), vIntD (V' i 3), vIntD (V' i 4))).length (cC ((List.range len').map fun i => (vIntD (V' i 0), vIntD (V' i 1), vIntD (V' i 2), vIntD (V' i 3), vIntD (V' i 4))))) (.slice a' len' cap') := by
   have hlen : ((List.range len').map fun i => (vIntD (V' i 0), vIntD (V' i 1), vIntD (V' i 2), vIntD (V' i 3), vIntD (V' i 4))).length = len' := by simp
   have := row_data (row := cC ((List.range len').map fun i => (vIntD (V' i 0), vIntD (V' i 1), vIntD (V' i 2), vIntD (V' i 3), vIntD (V' i 4)))) hV' (by decide) hc3 (fun i j hi hj => cC_cell i hj) (fun σ i j hi hj => by
    obtain ⟨op, to, x, y, arg, q0, q1, q2, q3, q4, _⟩ := key3 i hi
    unfold cC
    rw [getD_range_mapD _ _ _ _ hi]
    rcases lt5 hj with rfl | rfl | rfl | rfl | rfl
    ·rw [q0]; exact .n _ _
    ·rw [q1]; exact .n _ _
    ·rw [q2]; exact .n _ _
    ·rw [q3]; exact .n _ _
    ·rw [q4]; exact .n _ _)
   rw [hlen]
   exact this
  have hh := (VRs.nil (σ := Sg.data (allF w))).cons v3 |>.cons (VR.n .i64 m2) |>.cons (VR.n .i64 m1) |>.cons v0
  exact hh.agg
 ·intro x hx
  simp only [List.mem_map, List.mem_range] at hx
  obtain ⟨i, hi, rfl⟩ := hx
  obtain ⟨op, to, x, y, arg, q0, q1, q2, q3, q4, hr⟩ := key3 i hi
  simp only [q4, vIntD]
  exact hr
theorem law_of_has {k : FuncId} {w : World} {v : Value} {args : List AV} (h : Has Tryz.prog k args [.v (.b true)]) (hv : VRs (Sg.data (allF w)) args [v]) : Calls Tryz.prog k #[v] w fun e w' => e = .returned (.bool true) ∧ Below w.heap.size w w' :=
 (h.2 (allF w) w #[v] (allF_in w) hv).mono fun e w' hq => by
  cases e with
  |panicked c => exact hq.elim
  |outgrown => exact hq.elim
  |returned u =>
   obtain ⟨x, Hc, σ', ⟨l, rfl, hr⟩, hx, _, hbel, _⟩ := hq
   match l, hr with
   |[y], hr =>
    have : y = .b true := hr.1.1
    subst this
    cases hx
    exact ⟨rfl, hbel⟩
end Go.Proofs.YtidhfimbnjaceaaGreat

namespace Go.Proofs.YtidhfimbnjaceaaGreat
open Go.RowKit
set_option linter.unusedVariables false
set_option linter.unusedSimpArgs false
theorem cv_codeZ {H : AH} {r1 r2 : Nat → Nat → AV} : Cv [] H codeZ (.agg [.fs 2 0 r1, .n .i64 0, .n .i64 0, .fs 5 0 r2]) := by
 refine .agg rfl fun i v v' h1 h2 => ?_
 match i, h1, h2 with
 |0, h1, h2 => cases h1; cases h2; exact .sl0 _ _
 |1, h1, h2 => cases h1; cases h2; exact .rfl rfl
 |2, h1, h2 => cases h1; cases h2; exact .rfl rfl
 |3, h1, h2 => cases h1; cases h2; exact .sl0 _ _
 |i + 4, h1, h2 => cases h1
theorem sameZ : Has Tryz.prog 12 [.agg [.fs 2 0 (aC []), .n .i64 0, .n .i64 0, .fs 5 0 (cC [])], .agg [.fs 2 0 (aC []), .n .i64 0, .n .i64 0, .fs 5 0 (cC [])]] [.v (.b true)] := by
 have := same_any [] (by decide) 0 0 [] [] (by decide)
 rw [decide_eq_true rfl] at this
 exact this
theorem rFold_err {na : Nat} {ra : Nat → Nat → AV} {regs par er : Int} {cs : List In} {x : AV} (he : ¬ er = 0) (hc : Has Tryz.prog 26 [codeV na ra regs par cs] [.v x, .v (.n .i64 er)]) :
  Has Tryz.prog 11 [codeV na ra regs par cs] [.v codeZ, .v (.n .i64 er)] := by
 refine hasQ_of' mixo x24ok ⟨by simp, by decide⟩ ?_
 simp only [argE, codeV] at hc ⊢
 repeat (first | (with_reducible refine GA.go mixo rfl ?_) | simp only [go_sem, simprocAttr])
 refine gcall_has [] (.cons (.rfl (by rfl)) .nil) hc (by simp only [go_sem, simprocAttr]) ?_
 repeat (first | (with_reducible refine GA.go mixo rfl ?_) | simp only [he, decide_false, go_sem, simprocAttr])
 exact has_tup (.v rfl rfl (.v rfl rfl .nil))
theorem badFolds {na : Nat} {ra : Nat → Nat → AV} {regs par er : Int} {cs : List In} (hf : few24 na regs cs = true) (hA : Has Tryz.prog 10 [codeV na ra regs par cs] [.v codeZ, .v (.n .i64 er)])
  (hB : Has Tryz.prog 11 [codeV na ra regs par cs] [.v codeZ, .v (.n .i64 er)]) :
  Has Tryz.prog 3 [codeV na ra regs par cs] [.v (.b true)] := by
 have hw := few24_has na ra regs par cs
 rw [hf] at hw
 refine hasQ_of' mixo x32ok ⟨by simp, by decide⟩ ?_
 simp only [argE, codeV, codeZ] at hw hA hB ⊢
 repeat (first | (with_reducible refine GA.go mixo rfl ?_) | simp only [go_sem, simprocAttr])
 refine gcall_has [] (.cons (.rfl (by rfl)) .nil) hw (by simp only [go_sem, simprocAttr]) ?_
 repeat (first | (with_reducible refine GA.go mixo rfl ?_) | simp only [go_sem, simprocAttr])
 refine gcall_has [] (.cons (.rfl (by rfl)) .nil) hA (by simp only [go_sem, simprocAttr]) ?_
 repeat (first | (with_reducible refine GA.go mixo rfl ?_) | simp only [go_sem, simprocAttr])
 refine gcall_has [] (.cons (.rfl (by rfl)) .nil) hB (by simp only [go_sem, simprocAttr]) ?_
 repeat (first | (with_reducible refine GA.go mixo rfl ?_) | simp only [go_sem, simprocAttr])
 refine gcall_has [] .nil awake_has (by simp only [go_sem, simprocAttr]) ?_
 repeat (first | (with_reducible refine GA.go mixo rfl ?_) | simp only [go_sem, simprocAttr])
 refine gcall_has [] (.cons cv_codeZ (.cons cv_codeZ .nil)) sameZ (by simp only [go_sem, simprocAttr]) ?_
 repeat (first | (with_reducible refine GA.go mixo rfl ?_) | simp only [decide_true, go_sem, simprocAttr])
 exact has_end1 rfl rfl
theorem lawFolds_of {la : List (Bool × Int)} {regs par : Int} {cs : List In} (ha : argOk cs)
  (hgood : few24 la.length regs cs = true → (chkD la regs par cs).2 = 0 → Has Tryz.prog 3 [codeV la.length (aC la) regs par cs] [.v (.b true)]) : Has Tryz.prog 3 [codeV la.length (aC la) regs par cs] [.v (.b true)] := by
 cases hf : few24 la.length regs cs
 ·exact fewFolds hf
 have hfew : la.length ≤ 20 ∧ cs.length ≤ 300 := by
  unfold few24 few23 at hf
  by_cases h1 : (la.length : Int) ≤ 20
  ·by_cases h2 : (cs.length : Int) ≤ 300
   ·exact ⟨by omega, by omega⟩
   ·simp [h1, h2] at hf
  ·simp [h1] at hf
 by_cases hz : (chkD la regs par cs).2 = 0
 ·exact hgood hf hz
 exact badFolds hf (Fold_err (err_of (by omega) (by omega) hz ha)) (rFold_err hz (rcheck_has la regs par cs (by omega) (by omega) ha))
theorem rPrune_err {na : Nat} {ra : Nat → Nat → AV} {regs par er : Int} {cs : List In} {x : AV} (he : ¬ er = 0) (hc : Has Tryz.prog 26 [codeV na ra regs par cs] [.v x, .v (.n .i64 er)]) :
  Has Tryz.prog 18 [codeV na ra regs par cs] [.v codeZ, .v (.n .i64 er)] := by
 refine hasQ_of' mixo x51ok ⟨by simp, by decide⟩ ?_
 simp only [argE, codeV] at hc ⊢
 repeat (first | (with_reducible refine GA.go mixo rfl ?_) | simp only [go_sem, simprocAttr])
 refine gcall_has [] (.cons (.rfl (by rfl)) .nil) hc (by simp only [go_sem, simprocAttr]) ?_
 repeat (first | (with_reducible refine GA.go mixo rfl ?_) | simp only [he, decide_false, go_sem, simprocAttr])
 exact has_tup (.v rfl rfl (.v rfl rfl .nil))
theorem badPrunes {na : Nat} {ra : Nat → Nat → AV} {regs par er : Int} {cs : List In} (hf : few24 na regs cs = true) (hA : Has Tryz.prog 17 [codeV na ra regs par cs] [.v codeZ, .v (.n .i64 er)])
  (hB : Has Tryz.prog 18 [codeV na ra regs par cs] [.v codeZ, .v (.n .i64 er)]) :
  Has Tryz.prog 6 [codeV na ra regs par cs] [.v (.b true)] := by
 have hw := few24_has na ra regs par cs
 rw [hf] at hw
 refine hasQ_of' mixo x56ok ⟨by simp, by decide⟩ ?_
 simp only [argE, codeV, codeZ] at hw hA hB ⊢
 repeat (first | (with_reducible refine GA.go mixo rfl ?_) | simp only [go_sem, simprocAttr])
 refine gcall_has [] (.cons (.rfl (by rfl)) .nil) hw (by simp only [go_sem, simprocAttr]) ?_
 repeat (first | (with_reducible refine GA.go mixo rfl ?_) | simp only [go_sem, simprocAttr])
 refine gcall_has [] (.cons (.rfl (by rfl)) .nil) hA (by simp only [go_sem, simprocAttr]) ?_
 repeat (first | (with_reducible refine GA.go mixo rfl ?_) | simp only [go_sem, simprocAttr])
 refine gcall_has [] (.cons (.rfl (by rfl)) .nil) hB (by simp only [go_sem, simprocAttr]) ?_
 repeat (first | (with_reducible refine GA.go mixo rfl ?_) | simp only [go_sem, simprocAttr])
 refine gcall_has [] .nil awake_has (by simp only [go_sem, simprocAttr]) ?_
 repeat (first | (with_reducible refine GA.go mixo rfl ?_) | simp only [go_sem, simprocAttr])
 refine gcall_has [] (.cons cv_codeZ (.cons cv_codeZ .nil)) sameZ (by simp only [go_sem, simprocAttr]) ?_
 repeat (first | (with_reducible refine GA.go mixo rfl ?_) | simp only [decide_true, go_sem, simprocAttr])
 exact has_end1 rfl rfl
theorem lawPrunes_of {la : List (Bool × Int)} {regs par : Int} {cs : List In} (ha : argOk cs)
  (hgood : few24 la.length regs cs = true → (chkD la regs par cs).2 = 0 → Has Tryz.prog 6 [codeV la.length (aC la) regs par cs] [.v (.b true)]) : Has Tryz.prog 6 [codeV la.length (aC la) regs par cs] [.v (.b true)] := by
 cases hf : few24 la.length regs cs
 ·exact fewPrunes hf
 have hfew : la.length ≤ 20 ∧ cs.length ≤ 300 := by
  unfold few24 few23 at hf
  by_cases h1 : (la.length : Int) ≤ 20
  ·by_cases h2 : (cs.length : Int) ≤ 300
   ·exact ⟨by omega, by omega⟩
   ·simp [h1, h2] at hf
  ·simp [h1] at hf
 by_cases hz : (chkD la regs par cs).2 = 0
 ·exact hgood hf hz
 exact badPrunes hf (Prune_err (err_of (by omega) (by omega) hz ha)) (rPrune_err hz (rcheck_has la regs par cs (by omega) (by omega) ha))
end Go.Proofs.YtidhfimbnjaceaaGreat
