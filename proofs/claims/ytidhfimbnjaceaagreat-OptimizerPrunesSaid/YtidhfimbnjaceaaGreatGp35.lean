/- A part of the proof of OptimizerPrunes: LkA LkB LkC LkD FrE. No condition. -/
import Derived.Test.YtidhfimbnjaceaaGreatGp14
import Derived.Test.YtidhfimbnjaceaaGreatGp19
import Derived.Test.YtidhfimbnjaceaaGreatGp34
import Derived.Test.YtidhfimbnjaceaaGreatGp15
import Derived.Test.YtidhfimbnjaceaaGreatGp12
set_option linter.unusedSimpArgs false
set_option linter.unusedVariables false
set_option linter.constructorNameAsVariable false
set_option maxRecDepth 100000
set_option maxHeartbeats 4000000
namespace Go.Proofs.YtidhfimbnjaceaaGreat
open Go.RowKit
set_option linter.unusedVariables false
/-! ### code that Check accepts -/
structure COk (la : List (Bool × Int)) (regs par : Int) (cs : List In) : Prop where
 nA : la.length ≤ 8
 nregs : 0 ≤ regs ∧ regs ≤ 1024
 ncs : cs.length ≤ 16384
 ins : ∀ x ∈ cs, chkI regs par la.length (toRI x) = 0
 nest : (nestRun (cs.map toRI) 0 []).2 = false
theorem chkAll_none {regs spills nA : Int} : ∀ (l : List RI) (k : Nat), chkAll regs spills nA l k = none → ∀ i ∈ l, chkI regs spills nA i = 0
 |[], _, _, i, hi => by cases hi
 |x :: l, k, h, i, hi => by
  unfold chkAll at h
  split at h
  ·cases h
  rename_i h0
  rcases List.mem_cons.1 hi with rfl | hi
  ·exact Classical.not_not.1 h0
  ·exact chkAll_none l (k + 1) h i hi
theorem chkAll_err {regs spills nA : Int} : ∀ (l : List RI) (k : Nat) (r : Int × Int), chkAll regs spills nA l k = some r → r.2 ≠ 0
 |[], _, _, h => by cases h
 |x :: l, k, r, h => by
  unfold chkAll at h
  split at h
  ·rename_i h0; cases h; exact h0
  ·exact chkAll_err l (k + 1) r h
theorem chk_ok {la : List (Bool × Int)} {regs par : Int} {cs : List In} (h : (chkD la regs par cs).2 = 0) : COk la regs par cs := by
 unfold chkD chkCode at h
 split at h
 ·simp at h
 rename_i h8
 split at h
 ·simp at h
 split at h
 ·simp at h
 rename_i hr
 split at h
 ·simp at h
 rename_i hc
 rw [List.length_map] at h8 hc
 split at h
 ·rename_i r hr; exact absurd h (chkAll_err _ _ _ hr)
 rename_i hi
 split at h
 ·simp at h
 rename_i hn
 rw [List.length_map] at hi
 refine ⟨by omega, by omega, by omega, fun x hx => chkAll_none _ _ hi _ (List.mem_map.2 ⟨x, hx, rfl⟩), by simpa using hn⟩
theorem COk.tree {la : List (Bool × Int)} {regs par : Int} {cs : List In} (h : COk la regs par cs) : ∃ t : T, cs.map toRI = t.flat ∧ t.wf false 8 := parse_all _ h.nest
theorem shape_uses : ∀ op : Nat, op < 39 → (shapeT op).getD 1 false = usesTo op ∧ (shapeT op).getD 2 false = usesA op ∧ (shapeT op).getD 3 false = usesB op := by decide
structure InC (regs par nA : Int) (x : In) : Prop where
 op : 0 ≤ x.1 ∧ x.1 < 39
 to : if (shapeT x.1.toNat).getD 1 false = true then 0 ≤ x.2.1 ∧ x.2.1 < regs else x.2.1 = -1
 a : if usA x.1 = true then 0 ≤ x.2.2.1 ∧ x.2.2.1 < regs else x.2.2.1 = -1
 b : if usB x.1 = true then 0 ≤ x.2.2.2.1 ∧ x.2.2.2.1 < regs else x.2.2.2.1 = -1
 arg : x.2.2.2.2 ≤ mostArg nA par x.1
 isop : isOp x.1 = true
theorem rr_true {regs n : Int} {u : Bool} (h : ¬ rightReg regs n u = false) : if u = true then 0 ≤ n ∧ n < regs else n = -1 := by
 have h1 : rightReg regs n u = true := by simpa using h
 unfold rightReg at h1
 split at h1
 ·rename_i hu; rw [if_pos hu]; simpa using h1
 ·rename_i hu; rw [if_neg hu]; simpa using h1
theorem inC_of {regs par nA : Int} {x : In} (h : chkI regs par nA (toRI x) = 0) : InC regs par nA x := by
 unfold chkI at h
 split at h
 ·simp at h
 rename_i h1
 split at h
 ·simp at h
 rename_i h2
 simp only [not_or] at h2
 obtain ⟨g1, g2, g3, g4⟩ := h2
 have h1' : isOp x.1 = true := by simpa [toRI] using h1
 have hop : 0 ≤ x.1 ∧ x.1 < 39 := by
  simp only [isOp, decide_eq_true_eq] at h1'
  omega
 obtain ⟨k, hk⟩ : ∃ k : Nat, x.1 = (k : Int) := ⟨x.1.toNat, by omega⟩
 obtain ⟨s1, s2, s3⟩ := shape_uses k (by omega)
 have e : x.1.toNat = k := by omega
 refine ⟨hop, ?_, ?_, ?_, ?_, h1'⟩
 ·rw [e, s1, ← hk]; exact rr_true g1
 ·unfold usA; rw [e, s2, ← hk]; exact rr_true g2
 ·unfold usB; rw [e, s3, ← hk]; exact rr_true g3
 ·have : (toRI x).arg ≤ mostArg nA par (toRI x).op := by omega
  exact this
theorem InC.ok {regs : Nat} {par nA : Int} {x : In} (h : InC regs par nA x) (harg : 0 ≤ x.2.2.2.2 ∧ x.2.2.2.2 < 4294967296) : InOk regs x := by
 refine ⟨h.op, fun hu => ?_, fun hu => ?_, ?_, harg⟩
 ·have := h.a; rwa [if_pos hu] at this
 ·have := h.b; rwa [if_pos hu] at this
 ·have := h.to
  unfold writesI
  split
  ·rename_i hu; rw [if_pos hu] at this; exact this.2
  ·omega
theorem opD (cs : List In) (b : Nat) : (cs.getD b dIn).1 = opAt (cs.map toRI) b := (opAt_map cs b).symm
/-! ### the blocks -/
def shStep (cs : List In) (pt : List Int) (i : Nat) (op : Int) (d : Nat) : Option Nat :=
 if op = 27 then some (d + 1)
 else if op = 28 then (if 0 < d then some d else none)
 else if op = 29 then (if (i : Int) ≤ pt.getD i 0 ∧ pt.getD i 0 ≤ cs.length then some d else none)
 else if op = 31 then (if 0 ≤ pt.getD i 0 ∧ pt.getD i 0 ≤ i then (if (cs.getD (pt.getD i 0).toNat dIn).1 = 29 then some d else if 0 < d then some (d - 1) else none) else none)
 else some d
def shGo (cs : List In) (pt : List Int) : Nat → Nat → Nat → Option Nat
 |0, _, d => some d
 |n + 1, k, d => (shStep cs pt k (cs.getD k dIn).1 d).bind (shGo cs pt n (k + 1))
def PAt (pt : List Int) (k : Nat) (l : List Int) : Prop := ∀ j, j < l.length → pt.getD (k + j) 0 = l.getD j 0
theorem PAt.head {pt : List Int} {k : Nat} {x : Int} {l : List Int} (h : PAt pt k (x :: l)) : pt.getD k 0 = x := by simpa using h 0 (by simp)
theorem PAt.tail {pt : List Int} {k : Nat} {x : Int} {l : List Int} (h : PAt pt k (x :: l)) : PAt pt (k + 1) l := fun j hj => by
 have := h (j + 1) (by simp; omega)
 rw [show k + (j + 1) = k + 1 + j by omega] at this
 simpa using this
theorem PAt.left {pt : List Int} {k : Nat} {a b : List Int} (h : PAt pt k (a ++ b)) : PAt pt k a := fun j hj => by
 rw [h j (by rw [List.length_append]; omega), List.getD_eq_getElem?_getD, List.getElem?_append_left hj, ← List.getD_eq_getElem?_getD]
theorem PAt.right {pt : List Int} {k : Nat} {a b : List Int} (h : PAt pt k (a ++ b)) : PAt pt (k + a.length) b := fun j hj => by
 have := h (a.length + j) (by rw [List.length_append]; omega)
 rw [show k + (a.length + j) = k + a.length + j by omega] at this
 rw [this, List.getD_eq_getElem?_getD, List.getElem?_append_right (by omega), show a.length + j - a.length = j by omega, ← List.getD_eq_getElem?_getD]
theorem sh_tree {cs : List In} {pt : List Int} : ∀ (t : T) (w : Bool) (dd k : Nat) (e : Int) (m d : Nat), CdAt (cs.map toRI) k t.flat → PAt pt k (t.rq k e) → t.wf w dd → k + t.size ≤ cs.length →
  shGo cs pt (t.size + m) k d = shGo cs pt m (k + t.size) d
 |.nil, w, dd, k, e, m, d, hc, hp, hw, hl => by simp [T.size]
 |.plain i r, w, dd, k, e, m, d, hc, hp, hw, hl => by
  obtain ⟨⟨h1, h2, h3, h4⟩, h5, hr⟩ := hw
  have hi : (cs.getD k dIn).1 = i.op := by rw [opD]; show ((cs.map toRI).getD k default).op = _; rw [hc.head]
  simp only [T.size] at hl ⊢
  rw [show r.size + 1 + m = (r.size + m) + 1 by omega, shGo, hi]
  unfold shStep
  rw [if_neg h1, if_neg h2, if_neg h3, if_neg h4, Option.bind_some, sh_tree r w dd (k + 1) e m d hc.tail hp.tail hr (by omega), show k + 1 + r.size = k + (r.size + 1) by omega]
 |.ite i a j r, w, dd, k, e, m, d, hc, hp, hw, hl => by
  obtain ⟨h1, h2, h3, ha, hr⟩ := hw
  simp only [T.flat] at hc
  simp only [T.rq] at hp
  have hi : (cs.getD k dIn).1 = 27 := by rw [opD]; show ((cs.map toRI).getD k default).op = _; rw [hc.head, h1]
  have hcj := hc.tail.right
  rw [a.flat_length] at hcj
  have hj : (cs.getD (k + 1 + a.size) dIn).1 = 31 := by rw [opD]; show ((cs.map toRI).getD (k + 1 + a.size) default).op = _; rw [hcj.head, h2]
  have hpj := hp.tail.right
  rw [a.rq_length] at hpj
  simp only [T.size] at hl ⊢
  rw [show a.size + r.size + 2 + m = (a.size + (r.size + m + 1)) + 1 by omega, shGo, hi]
  unfold shStep
  rw [if_pos rfl, Option.bind_some, sh_tree a w (dd - 1) (k + 1) e (r.size + m + 1) (d + 1) hc.tail.left hp.tail.left ha (by omega), shGo, hj]
  unfold shStep
  rw [if_neg (by decide), if_neg (by decide), if_neg (by decide), if_pos rfl, hpj.head, if_pos (by omega), Int.toNat_natCast, hi, if_neg (by decide), if_pos (by omega), Option.bind_some, Nat.add_sub_cancel,
   sh_tree r w dd (k + 1 + a.size + 1) e m d hcj.tail (by have := hpj.tail; rw [show k + a.size + 2 = k + 1 + a.size + 1 by omega] at this; exact this) hr (by omega), show k + 1 + a.size + 1 + r.size = k + (a.size + r.size + 2) by omega]
 |.loop i a j r, w, dd, k, e, m, d, hc, hp, hw, hl => by
  obtain ⟨h1, h2, h3, ha, hr⟩ := hw
  simp only [T.flat] at hc
  simp only [T.rq] at hp
  have hi : (cs.getD k dIn).1 = 29 := by rw [opD]; show ((cs.map toRI).getD k default).op = _; rw [hc.head, h1]
  have hcj := hc.tail.right
  rw [a.flat_length] at hcj
  have hj : (cs.getD (k + 1 + a.size) dIn).1 = 31 := by rw [opD]; show ((cs.map toRI).getD (k + 1 + a.size) default).op = _; rw [hcj.head, h2]
  have hpj := hp.tail.right
  rw [a.rq_length] at hpj
  simp only [T.size] at hl ⊢
  rw [show a.size + r.size + 2 + m = (a.size + (r.size + m + 1)) + 1 by omega, shGo, hi]
  unfold shStep
  rw [if_neg (by decide), if_neg (by decide), if_pos rfl, hp.head, if_pos (by omega), Option.bind_some, sh_tree a true (dd - 1) (k + 1) _ (r.size + m + 1) d hc.tail.left hp.tail.left ha (by omega), shGo, hj]
  unfold shStep
  rw [if_neg (by decide), if_neg (by decide), if_neg (by decide), if_pos rfl, hpj.head, if_pos (by omega), Int.toNat_natCast, hi, if_pos rfl, Option.bind_some,
   sh_tree r w dd (k + 1 + a.size + 1) e m d hcj.tail (by have := hpj.tail; rw [show k + a.size + 2 = k + 1 + a.size + 1 by omega] at this; exact this) hr (by omega), show k + 1 + a.size + 1 + r.size = k + (a.size + r.size + 2) by omega]
 |.ite2 i a x b j r, w, dd, k, e, m, d, hc, hp, hw, hl => by
  obtain ⟨h1, hx, h2, h3, ha, hb, hr⟩ := hw
  simp only [T.flat] at hc
  simp only [T.rq] at hp
  have hi : (cs.getD k dIn).1 = 27 := by rw [opD]; show ((cs.map toRI).getD k default).op = _; rw [hc.head, h1]
  have hcx := hc.tail.right
  rw [a.flat_length] at hcx
  have hxo : (cs.getD (k + 1 + a.size) dIn).1 = 28 := by rw [opD]; show ((cs.map toRI).getD (k + 1 + a.size) default).op = _; rw [hcx.head, hx]
  have hcj := hcx.tail.right
  rw [b.flat_length] at hcj
  have hj : (cs.getD (k + 1 + a.size + 1 + b.size) dIn).1 = 31 := by rw [opD]; show ((cs.map toRI).getD (k + 1 + a.size + 1 + b.size) default).op = _; rw [hcj.head, h2]
  have hpx := hp.tail.right
  rw [a.rq_length] at hpx
  have hpj := hpx.tail.right
  rw [b.rq_length] at hpj
  simp only [T.size] at hl ⊢
  rw [show a.size + b.size + r.size + 3 + m = (a.size + (b.size + (r.size + m + 1) + 1)) + 1 by omega, shGo, hi]
  unfold shStep
  rw [if_pos rfl, Option.bind_some, sh_tree a w (dd - 1) (k + 1) e (b.size + (r.size + m + 1) + 1) (d + 1) hc.tail.left hp.tail.left ha (by omega), shGo, hxo]
  unfold shStep
  have r3 : k + a.size + 2 = k + 1 + a.size + 1 := by omega
  have r4 : k + a.size + b.size + 3 = k + 1 + a.size + 1 + b.size + 1 := by omega
  rw [if_neg (by decide), if_pos rfl, if_pos (by omega), Option.bind_some, sh_tree b w (dd - 1) (k + 1 + a.size + 1) e (r.size + m + 1) (d + 1) hcx.tail.left (by have := hpx.tail.left; rw [r3] at this; exact this) hb (by omega), shGo, hj]
  unfold shStep
  rw [if_neg (by decide), if_neg (by decide), if_neg (by decide), if_pos rfl, hpj.head, if_pos (by omega), Int.toNat_natCast, hi, if_neg (by decide), if_pos (by omega), Option.bind_some, Nat.add_sub_cancel,
   sh_tree r w dd (k + 1 + a.size + 1 + b.size + 1) e m d hcj.tail (by have := hpj.tail; rw [r4] at this; exact this) hr (by omega), show k + 1 + a.size + 1 + b.size + 1 + r.size = k + (a.size + b.size + r.size + 3) by omega]
theorem sh_ok {cs : List In} {t : T} (ht : cs.map toRI = t.flat) (hw : t.wf false 8) : shGo cs (t.rq 0 0) cs.length 0 0 = some 0 := by
 have hl : cs.length = t.size := by rw [← t.flat_length, ← ht, List.length_map]
 have := sh_tree (cs := cs) (pt := t.rq 0 0) t false 8 0 0 0 0 (fun j hj => by rw [ht, Nat.zero_add]) (fun j hj => by rw [Nat.zero_add]) hw (by omega)
 rw [hl]
 exact this
/-! ### two walks -/
def goS {S : Type} (f : Nat → In → S → Option S) : List In → Nat → S → Option S
 |[], _, s => some s
 |x :: l, i, s => (f i x s).bind (goS f l (i + 1))
theorem goS_walk {F : Type} (D : In → F → Bool) (E : F → F → Bool) (V : In → List F → In × Bool × List F) (cs : List In) (pt : List Int) : ∀ (l : List In) (i : Nat) (s : WSt F), walkGo D E V cs pt l i s = goS (walkStep D E V cs pt) l i s
 |[], i, s => rfl
 |x :: l, i, s => by
  unfold walkGo goS
  congr 1
  funext s
  exact goS_walk D E V cs pt l (i + 1) s
theorem lock {S1 S2 : Type} {cs : List In} {pt : List Int} {f1 : Nat → In → S1 → Option S1} {f2 : Nat → In → S2 → Option S2} (R : Nat → Nat → S1 → S2 → Prop)
  (h : ∀ i d d' s1 s2, i < cs.length → shStep cs pt i (cs.getD i dIn).1 d = some d' → R i d s1 s2 → ∃ a b, f1 i (cs.getD i dIn) s1 = some a ∧ f2 i (cs.getD i dIn) s2 = some b ∧ R (i + 1) d' a b) :
  ∀ (n k d d' : Nat) (s1 : S1) (s2 : S2), k + n = cs.length → shGo cs pt n k d = some d' → R k d s1 s2 → ∃ a b, goS f1 (cs.drop k) k s1 = some a ∧ goS f2 (cs.drop k) k s2 = some b ∧ R cs.length d' a b
 |0, k, d, d', s1, s2, hk, hs, hR => by
  have : k = cs.length := by omega
  subst this
  rw [shGo] at hs
  cases hs
  rw [List.drop_length]
  exact ⟨s1, s2, rfl, rfl, hR⟩
 |n + 1, k, d, d', s1, s2, hk, hs, hR => by
  rw [shGo] at hs
  obtain ⟨d1, h1, h2⟩ := Option.bind_eq_some_iff.1 hs
  obtain ⟨a, b, e1, e2, hR'⟩ := h k d d1 s1 s2 (by omega) h1 hR
  rw [drop_nx (d := dIn) (by omega), goS, goS, e1, e2, Option.bind_some, Option.bind_some]
  exact lock R h n (k + 1) d1 d' a b (by omega) h2 hR'
end Go.Proofs.YtidhfimbnjaceaaGreat

namespace Go.Proofs.YtidhfimbnjaceaaGreat
open Go.RowKit
set_option linter.unusedVariables false
theorem idx_spec {α : Type} (p : α → Bool) : ∀ (l : List α) (k : Nat), (idx p l k < 0 ∧ ∀ f ∈ l, p f = false) ∨ (∃ j, j < l.length ∧ idx p l k = ((k + j : Nat) : Int) ∧ ∃ f, l[j]? = some f ∧ p f = true)
 |[], k => .inl ⟨by simp [idx], fun f hf => by cases hf⟩
 |x :: l, k => by
  unfold idx
  split
  ·rename_i hp
   exact .inr ⟨0, by simp, by simp, x, rfl, hp⟩
  ·rename_i hp
   rcases idx_spec p l (k + 1) with ⟨h1, h2⟩ | ⟨j, h1, h2, f, h3, h4⟩
   ·refine .inl ⟨h1, fun f hf => ?_⟩
    rcases List.mem_cons.1 hf with rfl | hf
    ·simpa using hp
    ·exact h2 f hf
   ·exact .inr ⟨j + 1, by simp; omega, by rw [h2]; congr 1; omega, f, by simpa using h3, h4⟩
def DK (x : In) (f : Int × Int) : Bool := decide (writesI x.1 x.2.1 = f.1)
def EK (f g : Int × Int) : Bool := decide (f.1 = g.1) && decide (f.2 = g.2)
def VK (x : In) (fs : List (Int × Int)) : In × Bool × List (Int × Int) := (foldedI apI fs x, true, newFacts (foldedI apI fs x))
theorem facts0_mem (n : Nat) (r m : Int) : (r, m) ∈ facts0 n ↔ ∃ q : Nat, r = (q : Int) ∧ q < n ∧ m = 0 := by
 unfold facts0
 simp only [List.mem_map, List.mem_range, Prod.mk.injEq]
 constructor
 ·rintro ⟨q, h1, h2, h3⟩; exact ⟨q, h2.symm, h1, h3.symm⟩
 ·rintro ⟨q, h1, h2, h3⟩; exact ⟨q, h2, h1.symm, h3.symm⟩
end Go.Proofs.YtidhfimbnjaceaaGreat

namespace Go.Proofs.YtidhfimbnjaceaaGreat
open Go.RowKit
set_option linter.unusedVariables false
variable {F K : Type} {R : List F → K → Prop} {D : In → F → Bool} {E : F → F → Bool} {V : In → List F → In × Bool × List F} {wo : K → List In → K} {bo : K → K → K} {Fi : In → K → K → Option (In × K)} {cs : List In} {pt : List Int}
end Go.Proofs.YtidhfimbnjaceaaGreat

namespace Go.Proofs.YtidhfimbnjaceaaGreat
open Go.RowKit
set_option linter.unusedVariables false
end Go.Proofs.YtidhfimbnjaceaaGreat

namespace Go.Proofs.YtidhfimbnjaceaaGreat
open Go.RowKit
set_option linter.unusedVariables false
set_option linter.unusedSimpArgs false
end Go.Proofs.YtidhfimbnjaceaaGreat
