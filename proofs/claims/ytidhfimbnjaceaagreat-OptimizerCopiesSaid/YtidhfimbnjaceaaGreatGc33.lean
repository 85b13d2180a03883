/- A part of the proof of OptimizerCopies: LkA LkB PsA PsB AwA AwB AwC LaB LkC LkD FrE. No condition. -/
import Derived.Test.YtidhfimbnjaceaaGreatGc12
import Derived.Test.YtidhfimbnjaceaaGreatGc17
import Derived.Test.YtidhfimbnjaceaaGreatGc32
import Derived.Test.YtidhfimbnjaceaaGreatGc10
import Derived.Test.YtidhfimbnjaceaaGreatGc13
import Derived.Test.YtidhfimbnjaceaaGreatGc11
set_option linter.unusedSimpArgs false
set_option linter.unusedVariables false
set_option linter.constructorNameAsVariable false
set_option maxRecDepth 100000
set_option maxHeartbeats 4000000
namespace Go.Proofs.YtidhfimbnjaceaaGreat
open Go.RowKit
set_option linter.unusedVariables false
/-! ### code that Check accepts -/
structure COk (la : List (Bool × Int)) (regs par : Int) (cs : List In) : Prop where
 nA : la.length ≤ 8
 nregs : 0 ≤ regs ∧ regs ≤ 1024
 ncs : cs.length ≤ 16384
 ins : ∀ x ∈ cs, chkI regs par la.length (toRI x) = 0
 nest : (nestRun (cs.map toRI) 0 []).2 = false
theorem chkAll_none {regs spills nA : Int} : ∀ (l : List RI) (k : Nat), chkAll regs spills nA l k = none → ∀ i ∈ l, chkI regs spills nA i = 0
 |[], _, _, i, hi => by cases hi
 |x :: l, k, h, i, hi => by
  unfold chkAll at h
  split at h
  ·cases h
  rename_i h0
  rcases List.mem_cons.1 hi with rfl | hi
  ·exact Classical.not_not.1 h0
  ·exact chkAll_none l (k + 1) h i hi
theorem chkAll_err {regs spills nA : Int} : ∀ (l : List RI) (k : Nat) (r : Int × Int), chkAll regs spills nA l k = some r → r.2 ≠ 0
 |[], _, _, h => by cases h
 |x :: l, k, r, h => by
  unfold chkAll at h
  split at h
  ·rename_i h0; cases h; exact h0
  ·exact chkAll_err l (k + 1) r h
theorem chk_ok {la : List (Bool × Int)} {regs par : Int} {cs : List In} (h : (chkD la regs par cs).2 = 0) : COk la regs par cs := by
 unfold chkD chkCode at h
 split at h
 ·simp at h
 rename_i h8
 split at h
 ·simp at h
 split at h
 ·simp at h
 rename_i hr
 split at h
 ·simp at h
 rename_i hc
 rw [List.length_map] at h8 hc
 split at h
 ·rename_i r hr; exact absurd h (chkAll_err _ _ _ hr)
 rename_i hi
 split at h
 ·simp at h
 rename_i hn
 rw [List.length_map] at hi
 refine ⟨by omega, by omega, by omega, fun x hx => chkAll_none _ _ hi _ (List.mem_map.2 ⟨x, hx, rfl⟩), by simpa using hn⟩
theorem COk.tree {la : List (Bool × Int)} {regs par : Int} {cs : List In} (h : COk la regs par cs) : ∃ t : T, cs.map toRI = t.flat ∧ t.wf false 8 := parse_all _ h.nest
theorem shape_uses : ∀ op : Nat, op < 39 → (shapeT op).getD 1 false = usesTo op ∧ (shapeT op).getD 2 false = usesA op ∧ (shapeT op).getD 3 false = usesB op := by decide
structure InC (regs par nA : Int) (x : In) : Prop where
 op : 0 ≤ x.1 ∧ x.1 < 39
 to : if (shapeT x.1.toNat).getD 1 false = true then 0 ≤ x.2.1 ∧ x.2.1 < regs else x.2.1 = -1
 a : if usA x.1 = true then 0 ≤ x.2.2.1 ∧ x.2.2.1 < regs else x.2.2.1 = -1
 b : if usB x.1 = true then 0 ≤ x.2.2.2.1 ∧ x.2.2.2.1 < regs else x.2.2.2.1 = -1
 arg : x.2.2.2.2 ≤ mostArg nA par x.1
 isop : isOp x.1 = true
theorem rr_true {regs n : Int} {u : Bool} (h : ¬ rightReg regs n u = false) : if u = true then 0 ≤ n ∧ n < regs else n = -1 := by
 have h1 : rightReg regs n u = true := by simpa using h
 unfold rightReg at h1
 split at h1
 ·rename_i hu; rw [if_pos hu]; simpa using h1
 ·rename_i hu; rw [if_neg hu]; simpa using h1
theorem inC_of {regs par nA : Int} {x : In} (h : chkI regs par nA (toRI x) = 0) : InC regs par nA x := by
 unfold chkI at h
 split at h
 ·simp at h
 rename_i h1
 split at h
 ·simp at h
 rename_i h2
 simp only [not_or] at h2
 obtain ⟨g1, g2, g3, g4⟩ := h2
 have h1' : isOp x.1 = true := by simpa [toRI] using h1
 have hop : 0 ≤ x.1 ∧ x.1 < 39 := by
  simp only [isOp, decide_eq_true_eq] at h1'
  omega
 obtain ⟨k, hk⟩ : ∃ k : Nat, x.1 = (k : Int) := ⟨x.1.toNat, by omega⟩
 obtain ⟨s1, s2, s3⟩ := shape_uses k (by omega)
 have e : x.1.toNat = k := by omega
 refine ⟨hop, ?_, ?_, ?_, ?_, h1'⟩
 ·rw [e, s1, ← hk]; exact rr_true g1
 ·unfold usA; rw [e, s2, ← hk]; exact rr_true g2
 ·unfold usB; rw [e, s3, ← hk]; exact rr_true g3
 ·have : (toRI x).arg ≤ mostArg nA par (toRI x).op := by omega
  exact this
theorem InC.ok {regs : Nat} {par nA : Int} {x : In} (h : InC regs par nA x) (harg : 0 ≤ x.2.2.2.2 ∧ x.2.2.2.2 < 4294967296) : InOk regs x := by
 refine ⟨h.op, fun hu => ?_, fun hu => ?_, ?_, harg⟩
 ·have := h.a; rwa [if_pos hu] at this
 ·have := h.b; rwa [if_pos hu] at this
 ·have := h.to
  unfold writesI
  split
  ·rename_i hu; rw [if_pos hu] at this; exact this.2
  ·omega
theorem opD (cs : List In) (b : Nat) : (cs.getD b dIn).1 = opAt (cs.map toRI) b := (opAt_map cs b).symm
/-! ### the blocks -/
def shStep (cs : List In) (pt : List Int) (i : Nat) (op : Int) (d : Nat) : Option Nat :=
 if op = 27 then some (d + 1)
 else if op = 28 then (if 0 < d then some d else none)
 else if op = 29 then (if (i : Int) ≤ pt.getD i 0 ∧ pt.getD i 0 ≤ cs.length then some d else none)
 else if op = 31 then (if 0 ≤ pt.getD i 0 ∧ pt.getD i 0 ≤ i then (if (cs.getD (pt.getD i 0).toNat dIn).1 = 29 then some d else if 0 < d then some (d - 1) else none) else none)
 else some d
def shGo (cs : List In) (pt : List Int) : Nat → Nat → Nat → Option Nat
 |0, _, d => some d
 |n + 1, k, d => (shStep cs pt k (cs.getD k dIn).1 d).bind (shGo cs pt n (k + 1))
def PAt (pt : List Int) (k : Nat) (l : List Int) : Prop := ∀ j, j < l.length → pt.getD (k + j) 0 = l.getD j 0
theorem PAt.head {pt : List Int} {k : Nat} {x : Int} {l : List Int} (h : PAt pt k (x :: l)) : pt.getD k 0 = x := by simpa using h 0 (by simp)
theorem PAt.tail {pt : List Int} {k : Nat} {x : Int} {l : List Int} (h : PAt pt k (x :: l)) : PAt pt (k + 1) l := fun j hj => by
 have := h (j + 1) (by simp; omega)
 rw [show k + (j + 1) = k + 1 + j by omega] at this
 simpa using this
theorem PAt.left {pt : List Int} {k : Nat} {a b : List Int} (h : PAt pt k (a ++ b)) : PAt pt k a := fun j hj => by
 rw [h j (by rw [List.length_append]; omega), List.getD_eq_getElem?_getD, List.getElem?_append_left hj, ← List.getD_eq_getElem?_getD]
theorem PAt.right {pt : List Int} {k : Nat} {a b : List Int} (h : PAt pt k (a ++ b)) : PAt pt (k + a.length) b := fun j hj => by
 have := h (a.length + j) (by rw [List.length_append]; omega)
 rw [show k + (a.length + j) = k + a.length + j by omega] at this
 rw [this, List.getD_eq_getElem?_getD, List.getElem?_append_right (by omega), show a.length + j - a.length = j by omega, ← List.getD_eq_getElem?_getD]
theorem sh_tree {cs : List In} {pt : List Int} : ∀ (t : T) (w : Bool) (dd k : Nat) (e : Int) (m d : Nat), CdAt (cs.map toRI) k t.flat → PAt pt k (t.rq k e) → t.wf w dd → k + t.size ≤ cs.length →
  shGo cs pt (t.size + m) k d = shGo cs pt m (k + t.size) d
 |.nil, w, dd, k, e, m, d, hc, hp, hw, hl => by simp [T.size]
 |.plain i r, w, dd, k, e, m, d, hc, hp, hw, hl => by
  obtain ⟨⟨h1, h2, h3, h4⟩, h5, hr⟩ := hw
  have hi : (cs.getD k dIn).1 = i.op := by rw [opD]; show ((cs.map toRI).getD k default).op = _; rw [hc.head]
  simp only [T.size] at hl ⊢
  rw [show r.size + 1 + m = (r.size + m) + 1 by omega, shGo, hi]
  unfold shStep
  rw [if_neg h1, if_neg h2, if_neg h3, if_neg h4, Option.bind_some, sh_tree r w dd (k + 1) e m d hc.tail hp.tail hr (by omega), show k + 1 + r.size = k + (r.size + 1) by omega]
 |.ite i a j r, w, dd, k, e, m, d, hc, hp, hw, hl => by
  obtain ⟨h1, h2, h3, ha, hr⟩ := hw
  simp only [T.flat] at hc
  simp only [T.rq] at hp
  have hi : (cs.getD k dIn).1 = 27 := by rw [opD]; show ((cs.map toRI).getD k default).op = _; rw [hc.head, h1]
  have hcj := hc.tail.right
  rw [a.flat_length] at hcj
  have hj : (cs.getD (k + 1 + a.size) dIn).1 = 31 := by rw [opD]; show ((cs.map toRI).getD (k + 1 + a.size) default).op = _; rw [hcj.head, h2]
  have hpj := hp.tail.right
  rw [a.rq_length] at hpj
  simp only [T.size] at hl ⊢
  rw [show a.size + r.size + 2 + m = (a.size + (r.size + m + 1)) + 1 by omega, shGo, hi]
  unfold shStep
  rw [if_pos rfl, Option.bind_some, sh_tree a w (dd - 1) (k + 1) e (r.size + m + 1) (d + 1) hc.tail.left hp.tail.left ha (by omega), shGo, hj]
  unfold shStep
  rw [if_neg (by decide), if_neg (by decide), if_neg (by decide), if_pos rfl, hpj.head, if_pos (by omega), Int.toNat_natCast, hi, if_neg (by decide), if_pos (by omega), Option.bind_some, Nat.add_sub_cancel,
   sh_tree r w dd (k + 1 + a.size + 1) e m d hcj.tail (by have := hpj.tail; rw [show k + a.size + 2 = k + 1 + a.size + 1 by omega] at this; exact this) hr (by omega), show k + 1 + a.size + 1 + r.size = k + (a.size + r.size + 2) by omega]
 |.loop i a j r, w, dd, k, e, m, d, hc, hp, hw, hl => by
  obtain ⟨h1, h2, h3, ha, hr⟩ := hw
  simp only [T.flat] at hc
  simp only [T.rq] at hp
  have hi : (cs.getD k dIn).1 = 29 := by rw [opD]; show ((cs.map toRI).getD k default).op = _; rw [hc.head, h1]
  have hcj := hc.tail.right
  rw [a.flat_length] at hcj
  have hj : (cs.getD (k + 1 + a.size) dIn).1 = 31 := by rw [opD]; show ((cs.map toRI).getD (k + 1 + a.size) default).op = _; rw [hcj.head, h2]
  have hpj := hp.tail.right
  rw [a.rq_length] at hpj
  simp only [T.size] at hl ⊢
  rw [show a.size + r.size + 2 + m = (a.size + (r.size + m + 1)) + 1 by omega, shGo, hi]
  unfold shStep
  rw [if_neg (by decide), if_neg (by decide), if_pos rfl, hp.head, if_pos (by omega), Option.bind_some, sh_tree a true (dd - 1) (k + 1) _ (r.size + m + 1) d hc.tail.left hp.tail.left ha (by omega), shGo, hj]
  unfold shStep
  rw [if_neg (by decide), if_neg (by decide), if_neg (by decide), if_pos rfl, hpj.head, if_pos (by omega), Int.toNat_natCast, hi, if_pos rfl, Option.bind_some,
   sh_tree r w dd (k + 1 + a.size + 1) e m d hcj.tail (by have := hpj.tail; rw [show k + a.size + 2 = k + 1 + a.size + 1 by omega] at this; exact this) hr (by omega), show k + 1 + a.size + 1 + r.size = k + (a.size + r.size + 2) by omega]
 |.ite2 i a x b j r, w, dd, k, e, m, d, hc, hp, hw, hl => by
  obtain ⟨h1, hx, h2, h3, ha, hb, hr⟩ := hw
  simp only [T.flat] at hc
  simp only [T.rq] at hp
  have hi : (cs.getD k dIn).1 = 27 := by rw [opD]; show ((cs.map toRI).getD k default).op = _; rw [hc.head, h1]
  have hcx := hc.tail.right
  rw [a.flat_length] at hcx
  have hxo : (cs.getD (k + 1 + a.size) dIn).1 = 28 := by rw [opD]; show ((cs.map toRI).getD (k + 1 + a.size) default).op = _; rw [hcx.head, hx]
  have hcj := hcx.tail.right
  rw [b.flat_length] at hcj
  have hj : (cs.getD (k + 1 + a.size + 1 + b.size) dIn).1 = 31 := by rw [opD]; show ((cs.map toRI).getD (k + 1 + a.size + 1 + b.size) default).op = _; rw [hcj.head, h2]
  have hpx := hp.tail.right
  rw [a.rq_length] at hpx
  have hpj := hpx.tail.right
  rw [b.rq_length] at hpj
  simp only [T.size] at hl ⊢
  rw [show a.size + b.size + r.size + 3 + m = (a.size + (b.size + (r.size + m + 1) + 1)) + 1 by omega, shGo, hi]
  unfold shStep
  rw [if_pos rfl, Option.bind_some, sh_tree a w (dd - 1) (k + 1) e (b.size + (r.size + m + 1) + 1) (d + 1) hc.tail.left hp.tail.left ha (by omega), shGo, hxo]
  unfold shStep
  have r3 : k + a.size + 2 = k + 1 + a.size + 1 := by omega
  have r4 : k + a.size + b.size + 3 = k + 1 + a.size + 1 + b.size + 1 := by omega
  rw [if_neg (by decide), if_pos rfl, if_pos (by omega), Option.bind_some, sh_tree b w (dd - 1) (k + 1 + a.size + 1) e (r.size + m + 1) (d + 1) hcx.tail.left (by have := hpx.tail.left; rw [r3] at this; exact this) hb (by omega), shGo, hj]
  unfold shStep
  rw [if_neg (by decide), if_neg (by decide), if_neg (by decide), if_pos rfl, hpj.head, if_pos (by omega), Int.toNat_natCast, hi, if_neg (by decide), if_pos (by omega), Option.bind_some, Nat.add_sub_cancel,
   sh_tree r w dd (k + 1 + a.size + 1 + b.size + 1) e m d hcj.tail (by have := hpj.tail; rw [r4] at this; exact this) hr (by omega), show k + 1 + a.size + 1 + b.size + 1 + r.size = k + (a.size + b.size + r.size + 3) by omega]
theorem sh_ok {cs : List In} {t : T} (ht : cs.map toRI = t.flat) (hw : t.wf false 8) : shGo cs (t.rq 0 0) cs.length 0 0 = some 0 := by
 have hl : cs.length = t.size := by rw [← t.flat_length, ← ht, List.length_map]
 have := sh_tree (cs := cs) (pt := t.rq 0 0) t false 8 0 0 0 0 (fun j hj => by rw [ht, Nat.zero_add]) (fun j hj => by rw [Nat.zero_add]) hw (by omega)
 rw [hl]
 exact this
/-! ### two walks -/
def goS {S : Type} (f : Nat → In → S → Option S) : List In → Nat → S → Option S
 |[], _, s => some s
 |x :: l, i, s => (f i x s).bind (goS f l (i + 1))
theorem goS_walk {F : Type} (D : In → F → Bool) (E : F → F → Bool) (V : In → List F → In × Bool × List F) (cs : List In) (pt : List Int) : ∀ (l : List In) (i : Nat) (s : WSt F), walkGo D E V cs pt l i s = goS (walkStep D E V cs pt) l i s
 |[], i, s => rfl
 |x :: l, i, s => by
  unfold walkGo goS
  congr 1
  funext s
  exact goS_walk D E V cs pt l (i + 1) s
theorem lock {S1 S2 : Type} {cs : List In} {pt : List Int} {f1 : Nat → In → S1 → Option S1} {f2 : Nat → In → S2 → Option S2} (R : Nat → Nat → S1 → S2 → Prop)
  (h : ∀ i d d' s1 s2, i < cs.length → shStep cs pt i (cs.getD i dIn).1 d = some d' → R i d s1 s2 → ∃ a b, f1 i (cs.getD i dIn) s1 = some a ∧ f2 i (cs.getD i dIn) s2 = some b ∧ R (i + 1) d' a b) :
  ∀ (n k d d' : Nat) (s1 : S1) (s2 : S2), k + n = cs.length → shGo cs pt n k d = some d' → R k d s1 s2 → ∃ a b, goS f1 (cs.drop k) k s1 = some a ∧ goS f2 (cs.drop k) k s2 = some b ∧ R cs.length d' a b
 |0, k, d, d', s1, s2, hk, hs, hR => by
  have : k = cs.length := by omega
  subst this
  rw [shGo] at hs
  cases hs
  rw [List.drop_length]
  exact ⟨s1, s2, rfl, rfl, hR⟩
 |n + 1, k, d, d', s1, s2, hk, hs, hR => by
  rw [shGo] at hs
  obtain ⟨d1, h1, h2⟩ := Option.bind_eq_some_iff.1 hs
  obtain ⟨a, b, e1, e2, hR'⟩ := h k d d1 s1 s2 (by omega) h1 hR
  rw [drop_nx (d := dIn) (by omega), goS, goS, e1, e2, Option.bind_some, Option.bind_some]
  exact lock R h n (k + 1) d1 d' a b (by omega) h2 hR'
inductive All2 {α β : Type} (R : α → β → Prop) : List α → List β → Prop
 |nil : All2 R [] []
 |cons {a : α} {b : β} {l : List α} {m : List β} (h : R a b) (t : All2 R l m) : All2 R (a :: l) (b :: m)
end Go.Proofs.YtidhfimbnjaceaaGreat

namespace Go.Proofs.YtidhfimbnjaceaaGreat
open Go.RowKit
set_option linter.unusedVariables false
theorem idx_spec {α : Type} (p : α → Bool) : ∀ (l : List α) (k : Nat), (idx p l k < 0 ∧ ∀ f ∈ l, p f = false) ∨ (∃ j, j < l.length ∧ idx p l k = ((k + j : Nat) : Int) ∧ ∃ f, l[j]? = some f ∧ p f = true)
 |[], k => .inl ⟨by simp [idx], fun f hf => by cases hf⟩
 |x :: l, k => by
  unfold idx
  split
  ·rename_i hp
   exact .inr ⟨0, by simp, by simp, x, rfl, hp⟩
  ·rename_i hp
   rcases idx_spec p l (k + 1) with ⟨h1, h2⟩ | ⟨j, h1, h2, f, h3, h4⟩
   ·refine .inl ⟨h1, fun f hf => ?_⟩
    rcases List.mem_cons.1 hf with rfl | hf
    ·simpa using hp
    ·exact h2 f hf
   ·exact .inr ⟨j + 1, by simp; omega, by rw [h2]; congr 1; omega, f, by simpa using h3, h4⟩
def DK (x : In) (f : Int × Int) : Bool := decide (writesI x.1 x.2.1 = f.1)
def EK (f g : Int × Int) : Bool := decide (f.1 = g.1) && decide (f.2 = g.2)
def VK (x : In) (fs : List (Int × Int)) : In × Bool × List (Int × Int) := (foldedI apI fs x, true, newFacts (foldedI apI fs x))
theorem facts0_mem (n : Nat) (r m : Int) : (r, m) ∈ facts0 n ↔ ∃ q : Nat, r = (q : Int) ∧ q < n ∧ m = 0 := by
 unfold facts0
 simp only [List.mem_map, List.mem_range, Prod.mk.injEq]
 constructor
 ·rintro ⟨q, h1, h2, h3⟩; exact ⟨q, h2.symm, h1, h3.symm⟩
 ·rintro ⟨q, h1, h2, h3⟩; exact ⟨q, h2, h1.symm, h3.symm⟩
end Go.Proofs.YtidhfimbnjaceaaGreat

namespace Go.Proofs.YtidhfimbnjaceaaGreat
open Go.RowKit
set_option linter.unusedVariables false
def argOk (cs : List In) : Prop := ∀ x ∈ cs, 0 ≤ x.2.2.2.2 ∧ x.2.2.2.2 < 4294967296
theorem COk.inC {la : List (Bool × Int)} {regs par : Int} {cs : List In} (h : COk la regs par cs) : ∀ x ∈ cs, InC regs par la.length x := fun x hx => inC_of (h.ins x hx)
theorem COk.inOk {la : List (Bool × Int)} {regs : Nat} {par : Int} {cs : List In} (h : COk la regs par cs) (ha : argOk cs) : ∀ x ∈ cs, InOk regs x := fun x hx => (h.inC x hx).ok (ha x hx)
theorem COk.opOk {la : List (Bool × Int)} {regs par : Int} {cs : List In} (h : COk la regs par cs) : ∀ x ∈ cs, Proofs.YtidhfimbnjaceaaGreat.opOk x := fun x hx => (h.inC x hx).op
def ptC (cs : List In) : List Int := (pairsP cs).getD []
theorem COk.pt {la : List (Bool × Int)} {regs par : Int} {cs : List In} (h : COk la regs par cs) : pairsP cs = some (ptC cs) ∧ (ptC cs).length = cs.length ∧ shGo cs (ptC cs) cs.length 0 0 = some 0 ∧ ∃ t : T, cs.map toRI = t.flat ∧ t.wf false 8 ∧ ptC cs = t.rq 0 0 := by
 obtain ⟨t, ht, hw⟩ := h.tree
 have hp := pairs_tree ht hw
 have he : ptC cs = t.rq 0 0 := by unfold ptC; rw [hp]; rfl
 rw [he]
 have hl : cs.length = t.size := by rw [← t.flat_length, ← ht, List.length_map]
 exact ⟨hp, by rw [T.rq_length, hl], sh_ok ht hw, t, ht, hw, rfl⟩
theorem walk_some {F : Type} (D : In → F → Bool) (E : F → F → Bool) (V : In → List F → In × Bool × List F) {cs : List In} {pt : List Int} (hV : ∀ x ∈ cs, (x.1 = 27 ∨ x.1 = 28 ∨ x.1 = 29 ∨ x.1 = 31) → ∀ fs, (V x fs).2.1 = true) (hsh : shGo cs pt cs.length 0 0 = some 0) (fs0 : List F) :
  ∃ s, walkGo D E V cs pt cs 0 ⟨[], fs0, []⟩ = some s := by
 obtain ⟨a, b, e1, _, _⟩ := lock (cs := cs) (pt := pt) (f1 := walkStep D E V cs pt) (f2 := fun _ _ (s : Unit) => some s) (fun i d s _ => s.op.length = d) (fun i d d' s1 s2 hi hs hR => by
  have hmem : cs.getD i dIn ∈ cs := by rw [List.getD_eq_getElem?_getD, List.getElem?_eq_getElem hi]; exact List.getElem_mem _
  have hv := hV _ hmem
  generalize cs.getD i dIn = x at hs hv ⊢
  obtain ⟨out, fs, op⟩ := s1
  simp only at hR
  have hsw : ∃ q, walkSw D E cs pt i x.1 fs op = some q ∧ q.2.length = d' := by
   unfold shStep at hs
   unfold walkSw
   by_cases c27 : x.1 = 27
   ·rw [if_pos c27] at hs ⊢; cases hs; exact ⟨_, rfl, by simp [hR]⟩
   rw [if_neg c27] at hs ⊢
   by_cases c28 : x.1 = 28
   ·rw [if_pos c28] at hs ⊢
    split at hs
    rotate_left
    ·cases hs
    cases hs
    cases op with
    |nil => simp at hR; omega
    |cons t r => exact ⟨_, rfl, by simpa using hR⟩
   rw [if_neg c28] at hs ⊢
   by_cases c29 : x.1 = 29
   ·rw [if_pos c29] at hs ⊢
    split at hs
    rotate_left
    ·cases hs
    rename_i hp
    cases hs
    rw [if_pos hp]
    exact ⟨_, rfl, hR⟩
   rw [if_neg c29] at hs ⊢
   by_cases c31 : x.1 = 31
   ·rw [if_pos c31] at hs ⊢
    split at hs
    rotate_left
    ·cases hs
    rename_i hp
    rw [if_pos hp]
    split at hs
    ·rename_i hb
     cases hs
     rw [if_pos hb]
     exact ⟨_, rfl, hR⟩
    ·rename_i hb
     rw [if_neg hb]
     split at hs
     rotate_left
     ·cases hs
     cases hs
     cases op with
     |nil => simp at hR; omega
     |cons t r => exact ⟨_, rfl, by simp at hR ⊢; omega⟩
   rw [if_neg c31] at hs ⊢
   cases hs
   exact ⟨_, rfl, hR⟩
  by_cases hr : (V x fs).2.1 = true
  ·obtain ⟨q, hq, hl⟩ := hsw
   refine ⟨_, s2, by unfold walkStep; simp only [hr, if_true, hq, Option.map_some]; rfl, rfl, hl⟩
  ·refine ⟨_, s2, by unfold walkStep; rw [if_neg hr], rfl, ?_⟩
   have hns : ¬ (x.1 = 27 ∨ x.1 = 28 ∨ x.1 = 29 ∨ x.1 = 31) := fun h => hr (hv h fs)
   unfold shStep at hs
   rw [if_neg (by omega), if_neg (by omega), if_neg (by omega), if_neg (by omega)] at hs
   cases hs
   exact hR) cs.length 0 0 0 ⟨[], fs0, []⟩ () (by omega) hsh rfl
 rw [List.drop_zero] at e1
 exact ⟨a, by rw [goS_walk]; exact e1⟩
/-! ### Fold -/
def foldC (regs : Nat) (cs : List In) : List In := ((walkGo DK EK VK cs (ptC cs) cs 0 ⟨[], facts0 regs, []⟩).map (·.out)).getD []
theorem numsOf_rng {fs : List (Int × Int)} (hf : ∀ f ∈ fs, 0 ≤ f.2 ∧ f.2 < 4294967296) : ∀ {rs vs : List Int}, numsOf fs rs = some vs → ∀ v ∈ vs, 0 ≤ v ∧ v < 4294967296
 |[], vs, h, v, hv => by simp [numsOf] at h; subst h; cases hv
 |r :: rs, vs, h, v, hv => by
  rw [numsOf] at h
  split at h
  ·cases h
  rename_i hi
  obtain ⟨ws, hw, rfl⟩ := Option.map_eq_some_iff.1 h
  rcases List.mem_cons.1 hv with rfl | hv
  ·rcases idx_spec (fun f : Int × Int => decide (f.1 = r)) fs 0 with ⟨h1, _⟩ | ⟨j, h1, h2, f, h3, _⟩
   ·exact absurd h1 hi
   ·rw [h2, Int.toNat_natCast, Nat.zero_add, List.getD_eq_getElem?_getD, h3]
    exact hf f (List.mem_of_getElem? h3)
  ·exact numsOf_rng hf hw v hv
theorem getD_rng {vs : List Int} (h : ∀ v ∈ vs, 0 ≤ v ∧ v < 4294967296) (i : Nat) : 0 ≤ vs.getD i 0 ∧ vs.getD i 0 < 4294967296 := by
 rw [List.getD_eq_getElem?_getD]
 cases hi : vs[i]? with
 |none => simp
 |some v => exact h v (List.mem_of_getElem? hi)
theorem foldedI_ok {fs : List (Int × Int)} {x : In} (hf : ∀ f ∈ fs, 0 ≤ f.2 ∧ f.2 < 4294967296) (hx : Proofs.YtidhfimbnjaceaaGreat.opOk x) (harg : 0 ≤ x.2.2.2.2 ∧ x.2.2.2.2 < 4294967296) : Proofs.YtidhfimbnjaceaaGreat.opOk (foldedI apI fs x) ∧ 0 ≤ (foldedI apI fs x).2.2.2.2 ∧ (foldedI apI fs x).2.2.2.2 < 4294967296 := by
 unfold foldedI
 split
 ·exact ⟨hx, harg⟩
 split
 ·exact ⟨hx, harg⟩
 ·rename_i vs hv
  have hr := getD_rng (numsOf_rng hf hv)
  split
  ·split
   ·exact ⟨⟨by simp, by simp⟩, apI_rng _ _ _ (hr 0) (hr 1)⟩
   ·exact ⟨hx, harg⟩
  ·exact ⟨⟨by simp, by simp⟩, hr 0⟩
theorem foldP_has {la : List (Bool × Int)} {na : Nat} {ra : Nat → Nat → AV} {regs : Nat} {par : Int} {cs : List In} (h : COk la regs par cs) (ha : argOk cs) : Has Tryz.prog 25 [codeV na ra regs par cs] [.v (.fs 5 (foldC regs cs).length (cC (foldC regs cs)))] := by
 obtain ⟨hp, hpl, hsh, _⟩ := h.pt
 have hr := h.nregs
 have hn := h.ncs
 obtain ⟨s, hs⟩ := walk_some DK EK VK (fun x hx _ fs => rfl) hsh (facts0 regs)
 have he : foldC regs cs = s.out := by unfold foldC; rw [hs]; rfl
 rw [he]
 refine fold_has rfl (by omega) ?_
 refine has_frz (rs := [.o 37 5 s.out.length 0 (cC s.out)]) ?_ rfl
 refine walkK_has (n0 := regs) (pf := fun f => 0 ≤ f.2 ∧ f.2 < 4294967296) DK VK 56 58 cs (facts0 regs) (ptC cs) s ?_ ?_ ?_ ?_ (by omega) h.opOk (by rw [facts0_length]; exact Nat.le_refl _) (by omega) ?_ hp hpl hs
 ·intro x hx f
  obtain ⟨op, to, a, b, arg⟩ := x
  exact fold1_has op to a b arg f hx
 ·intro x hx fs hl hf
  exact fold2_has apI (fun op a b h h1 h2 => apply_has op a b h h1 h2) fs x hl hf (h.opOk x hx)
 ·intro x hx fs hf
  have hk := foldedI_ok hf (h.opOk x hx) (ha x hx)
  simp only [VK, newFacts]
  split
  ·refine ⟨by simp, fun f hm => ?_⟩
   rw [List.mem_singleton.1 hm]
   exact hk.2
  ·exact ⟨by simp, fun f hm => by cases hm⟩
 ·intro x hx fs hf
  exact (foldedI_ok hf (h.opOk x hx) (ha x hx)).1
 ·intro f hf
  obtain ⟨q, _, _, h3⟩ := (facts0_mem regs f.1 f.2).1 hf
  omega
/-! ### Copies -/
def copC (cs : List In) : List In := ((walkGo desS (fun f g => decide (f.1 = g.1) && decide (f.2 = g.2)) copV cs (ptC cs) cs 0 ⟨[], [], []⟩).map (·.out)).getD []
theorem copP_has {la : List (Bool × Int)} {na : Nat} {ra : Nat → Nat → AV} {regs par : Int} {cs : List In} (h : COk la regs par cs) : Has Tryz.prog 36 [codeV na ra regs par cs] [.v (.fs 5 (copC cs).length (cC (copC cs)))] := by
 obtain ⟨hp, hpl, hsh, _⟩ := h.pt
 have hn := h.ncs
 obtain ⟨s, hs⟩ := walk_some desS (fun f g => decide (f.1 = g.1) && decide (f.2 = g.2)) copV (fun x hx hst fs => by
  unfold copV copV5
  rw [if_neg (by omega)]) hsh []
 have he : copC cs = s.out := by unfold copC; rw [hs]; rfl
 rw [he]
 exact has_frz (copies_has (by omega) h.opOk hp hpl hs) rfl
/-! ### Share -/
def shaC (cs : List In) : List In := ((walkGo desV eqIn shaV cs (ptC cs) cs 0 ⟨[], [], []⟩).map (·.out)).getD []
theorem exp_struct {op : Int} (h : op = 27 ∨ op = 28 ∨ op = 29 ∨ op = 31) : expB op = false := by
 rcases h with rfl | rfl | rfl | rfl <;> rfl
theorem shaP_has {la : List (Bool × Int)} {na : Nat} {ra : Nat → Nat → AV} {regs par : Int} {cs : List In} (h : COk la regs par cs) : Has Tryz.prog 41 [codeV na ra regs par cs] [.v (.fs 5 (shaC cs).length (cC (shaC cs)))] := by
 obtain ⟨hp, hpl, hsh, _⟩ := h.pt
 have hn := h.ncs
 obtain ⟨s, hs⟩ := walk_some desV eqIn shaV (fun x hx hst fs => by
  unfold shaV
  rw [exp_struct hst]
  rfl) hsh []
 have he : shaC cs = s.out := by unfold shaC; rw [hs]; rfl
 rw [he]
 exact has_frz (share_has (by omega) h.opOk hp hpl hs) rfl
/-! ### Prune -/
def livC (fuel regs : Nat) (cs : List In) : Option Lv := rounds cs (ptC cs) regs fuel (fun _ _ => false)
def pruC (fuel regs : Nat) (cs : List In) : List In := match livC fuel regs cs with
 |some L => dels (prGo L cs 0).length (prGo L cs 0)
 |none => []
theorem follow_in {cs : List In} {pt : List Int} {i : Nat} (hi : i < cs.length) (hp : -1 ≤ pt.getD i 0 ∧ pt.getD i 0 < cs.length) : ∀ nx ∈ follP cs pt i, 0 ≤ nx ∧ nx ≤ cs.length := by
 intro nx hm
 unfold follP at hm
 split at hm
 ·simp only [List.mem_singleton] at hm; omega
 split at hm
 ·simp only [List.mem_cons, List.mem_singleton, List.not_mem_nil, or_false] at hm; omega
 ·simp only [List.mem_singleton] at hm; omega
/-! ### the exported functions -/
theorem cC_aC {la : List (Bool × Int)} : ∀ i j, i < la.length → j < 2 → (aC la i j).cell = true := fun i j _ hj => by
 have : j = 0 ∨ j = 1 := by omega
 rcases this with rfl | rfl <;> rfl
theorem full_of {la : List (Bool × Int)} {regs par : Int} {cs cs2 : List In} {g : FuncId} (h : COk la regs par cs) (hz : (chkD la regs par cs).2 = 0) (ha : argOk cs) (hl : cs2.length ≤ cs.length) (hg : Has Tryz.prog g [codeV la.length (aC la) regs par cs] [.v (.fs 5 cs2.length (cC cs2))]) :
  Has Tryz.prog 24 [codeV la.length (aC la) regs par cs, .f g [] []] [.v (codeV la.length (aC la) regs par cs2), .v (.n .i64 0)] := by
 have hn := h.ncs
 have hA := h.nA
 have hc := check_has la regs par cs (by omega) (by omega) ha
 rw [hz] at hc
 exact checked_has hc hg (copied_v (by omega) cC_aC (by omega))
theorem err_of {la : List (Bool × Int)} {regs par : Int} {cs : List In} {g : FuncId} (hla : la.length < 1000000) (hcs : cs.length < 1000000) (hz : ¬ (chkD la regs par cs).2 = 0) (ha : argOk cs) :
  Has Tryz.prog 24 [codeV la.length (aC la) regs par cs, .f g [] []] [.v codeZ, .v (.n .i64 (chkD la regs par cs).2)] :=
 checked_err hz (check_has la regs par cs hla hcs ha)
theorem walk_len {F : Type} {D : In → F → Bool} {E : F → F → Bool} {V : In → List F → In × Bool × List F} {cs : List In} {pt : List Int} : ∀ (l : List In) (i : Nat) (s s2 : WSt F), walkGo D E V cs pt l i s = some s2 → s2.out.length ≤ s.out.length + l.length
 |[], _, s, s2, h => by cases h; simp
 |x :: l, i, s, s2, h => by
  rw [walkGo] at h
  obtain ⟨s1, h1, h2⟩ := Option.bind_eq_some_iff.1 h
  have := walk_len l (i + 1) s1 s2 h2
  have h3 : s1.out.length ≤ s.out.length + 1 := by
   unfold walkStep at h1
   split at h1
   ·obtain ⟨q, _, rfl⟩ := Option.map_eq_some_iff.1 h1
    simp
   ·cases h1; omega
  simp only [List.length_cons]
  omega
theorem foldC_len {regs : Nat} {cs : List In} : (foldC regs cs).length ≤ cs.length := by
 unfold foldC
 cases h : walkGo DK EK VK cs (ptC cs) cs 0 ⟨[], facts0 regs, []⟩ with
 |none => simp
 |some s => simpa using walk_len _ _ _ _ h
theorem copC_len {cs : List In} : (copC cs).length ≤ cs.length := by
 unfold copC
 cases h : walkGo desS (fun f g => decide (f.1 = g.1) && decide (f.2 = g.2)) copV cs (ptC cs) cs 0 ⟨[], [], []⟩ with
 |none => simp
 |some s => simpa using walk_len _ _ _ _ h
theorem shaC_len {cs : List In} : (shaC cs).length ≤ cs.length := by
 unfold shaC
 cases h : walkGo desV eqIn shaV cs (ptC cs) cs 0 ⟨[], [], []⟩ with
 |none => simp
 |some s => simpa using walk_len _ _ _ _ h
theorem Fold_full {la : List (Bool × Int)} {regs : Nat} {par : Int} {cs : List In} (hz : (chkD la regs par cs).2 = 0) (ha : argOk cs) : Has Tryz.prog 10 [codeV la.length (aC la) regs par cs] [.v (codeV la.length (aC la) regs par (foldC regs cs)), .v (.n .i64 0)] :=
 Fold_has (full_of (chk_ok hz) hz ha foldC_len (foldP_has (chk_ok hz) ha))
theorem Copies_full {la : List (Bool × Int)} {regs par : Int} {cs : List In} (hz : (chkD la regs par cs).2 = 0) (ha : argOk cs) : Has Tryz.prog 13 [codeV la.length (aC la) regs par cs] [.v (codeV la.length (aC la) regs par (copC cs)), .v (.n .i64 0)] :=
 Copies_has (full_of (chk_ok hz) hz ha copC_len (copP_has (chk_ok hz)))
theorem Share_full {la : List (Bool × Int)} {regs par : Int} {cs : List In} (hz : (chkD la regs par cs).2 = 0) (ha : argOk cs) : Has Tryz.prog 15 [codeV la.length (aC la) regs par cs] [.v (codeV la.length (aC la) regs par (shaC cs)), .v (.n .i64 0)] :=
 Share_has (full_of (chk_ok hz) hz ha shaC_len (shaP_has (chk_ok hz)))
end Go.Proofs.YtidhfimbnjaceaaGreat

namespace Go.Proofs.YtidhfimbnjaceaaGreat
open Go.RowKit
set_option linter.unusedVariables false
/-! ### partners -/
theorem rq_rng {n : Int} : ∀ (t : T) (k : Nat) (e : Int), (-1 ≤ e ∧ e < n) → ((k + t.size : Nat) : Int) ≤ n → ∀ x ∈ t.rq k e, -1 ≤ x ∧ x < n
 |.nil, k, e, he, hk, x, hx => by cases hx
 |.plain i r, k, e, he, hk, x, hx => by
  simp only [T.rq, List.mem_cons] at hx
  simp only [T.size] at hk
  rcases hx with rfl | hx
  ·split <;> omega
  ·exact rq_rng r (k + 1) e he (by omega) x hx
 |.ite i a j r, k, e, he, hk, x, hx => by
  simp only [T.rq, List.mem_cons, List.mem_append] at hx
  simp only [T.size] at hk
  rcases hx with rfl | hx | rfl | hx
  ·omega
  ·exact rq_rng a (k + 1) e he (by omega) x hx
  ·omega
  ·exact rq_rng r _ e he (by omega) x hx
 |.ite2 i a y b j r, k, e, he, hk, x, hx => by
  simp only [T.rq, List.mem_cons, List.mem_append] at hx
  simp only [T.size] at hk
  rcases hx with rfl | hx | rfl | hx | rfl | hx
  ·omega
  ·exact rq_rng a (k + 1) e he (by omega) x hx
  ·omega
  ·exact rq_rng b _ e he (by omega) x hx
  ·omega
  ·exact rq_rng r _ e he (by omega) x hx
 |.loop i a j r, k, e, he, hk, x, hx => by
  simp only [T.rq, List.mem_cons, List.mem_append] at hx
  simp only [T.size] at hk
  rcases hx with rfl | hx | rfl | hx
  ·omega
  ·exact rq_rng a (k + 1) _ (by omega) (by omega) x hx
  ·omega
  ·exact rq_rng r _ e he (by omega) x hx
theorem sh_at {cs : List In} {pt : List Int} : ∀ (n k d d' : Nat), shGo cs pt n k d = some d' → ∀ i, k ≤ i → i < k + n → ∃ d1 d2, shStep cs pt i (cs.getD i dIn).1 d1 = some d2
 |0, k, d, d', h, i, h1, h2 => by omega
 |n + 1, k, d, d', h, i, h1, h2 => by
  rw [shGo] at h
  obtain ⟨d1, h3, h4⟩ := Option.bind_eq_some_iff.1 h
  by_cases hi : i = k
  ·subst hi; exact ⟨d, d1, h3⟩
  ·exact sh_at n (k + 1) d1 d' h4 i (by omega) (by omega)
theorem COk.ptr {la : List (Bool × Int)} {regs par : Int} {cs : List In} (h : COk la regs par cs) : ∀ i, i < cs.length → (-1 ≤ (ptC cs).getD i 0 ∧ (ptC cs).getD i 0 < cs.length) ∧ ((cs.getD i (0, 0, 0, 0, 0)).1 = 31 → 0 ≤ (ptC cs).getD i 0) := by
 obtain ⟨hp, hpl, hsh, t, ht, hw, he⟩ := h.pt
 intro i hi
 have hl : cs.length = t.size := by rw [← t.flat_length, ← ht, List.length_map]
 constructor
 ·have hm : (ptC cs).getD i 0 ∈ t.rq 0 0 := by
   rw [← he, List.getD_eq_getElem?_getD, List.getElem?_eq_getElem (by omega)]; exact List.getElem_mem _
  exact rq_rng t 0 0 (by omega) (by omega) _ hm
 ·intro h31
  obtain ⟨d1, d2, hs⟩ := sh_at cs.length 0 0 0 hsh i (by omega) (by omega)
  unfold shStep at hs
  have h31' : (cs.getD i dIn).1 = 31 := h31
  rw [h31', if_neg (by decide), if_neg (by decide), if_neg (by decide), if_pos rfl] at hs
  split at hs
  ·rename_i hp; exact hp.1
  ·cases hs
/-! ### the rounds -/
theorem idle_to {x : In} {regs : Nat} {par nA : Int} (h : InC regs par nA x) (hi : idleB x.1 = true) : 0 ≤ x.2.1 ∧ x.2.1 < regs := by
 have ht := h.to
 have hs : (shapeT x.1.toNat).getD 1 false = true := by
  obtain ⟨k, hk⟩ : ∃ k : Nat, x.1 = (k : Int) := ⟨x.1.toNat, by have := h.op; omega⟩
  have hk39 : k < 39 := by have := h.op; omega
  rw [hk] at hi ⊢
  rw [Int.toNat_natCast]
  have key : ∀ k : Nat, k < 39 → idleB (k : Int) = true → (shapeT k).getD 1 false = true := by decide
  exact key k hk39 hi
 rw [if_pos hs] at ht
 exact ht
theorem pruP_has {la : List (Bool × Int)} {regs : Nat} {par : Int} {cs : List In} (fuel : Nat) {L : Lv} (h : COk la regs par cs) (ha : argOk cs) (hL : livC fuel regs cs = some L)
  (hdel : holP (prGo L cs 0) ≠ none → DelOK Tryz.prog 77 37) :
  Has Tryz.prog 47 [codeV la.length (aC la) regs par cs] [.v (.fs 5 (pruC fuel regs cs).length (cC (pruC fuel regs cs)))] := by
 obtain ⟨hp, hpl, hsh, _⟩ := h.pt
 have hn := h.ncs
 have hr := h.nregs
 have hlv := live_has (na := la.length) (ra := aC la) (par := par) (fuel := fuel) (Lf := L) (by omega) (by omega) hp hpl (h.inOk ha) h.ptr (fun i hi => follow_in hi (h.ptr i hi).1) hL
 have he : pruC fuel regs cs = dels (prGo L cs 0).length (prGo L cs 0) := by unfold pruC; rw [hL]
 rw [he]
 exact has_frz (prune_has (by omega) (by omega) (h.inOk ha) (fun x hx hi => idle_to (h.inC x hx) hi) hlv hdel) rfl
theorem delP_le {cs : List In} {i d : Nat} : (delP cs i d).length ≤ cs.length := by
 unfold delP
 rw [List.length_append, List.length_take, List.length_drop]
 omega
theorem dels_le : ∀ (f : Nat) (l : List In), (dels f l).length ≤ l.length
 |0, l => Nat.le_refl _
 |f + 1, l => by
  rw [dels]
  split
  ·exact Nat.le_refl _
  ·exact Nat.le_trans (dels_le f _) delP_le
theorem pruC_len {fuel regs : Nat} {cs : List In} : (pruC fuel regs cs).length ≤ cs.length := by
 unfold pruC
 split
 ·exact Nat.le_trans (dels_le _ _) (prGo_len _ _ _)
 ·simp
theorem Prune_full {la : List (Bool × Int)} {regs : Nat} {par : Int} {cs : List In} (fuel : Nat) {L : Lv} (hz : (chkD la regs par cs).2 = 0) (ha : argOk cs) (hL : livC fuel regs cs = some L)
  (hdel : holP (prGo L cs 0) ≠ none → DelOK Tryz.prog 77 37) :
  Has Tryz.prog 17 [codeV la.length (aC la) regs par cs] [.v (codeV la.length (aC la) regs par (pruC fuel regs cs)), .v (.n .i64 0)] :=
 Prune_has (full_of (chk_ok hz) hz ha pruC_len (pruP_has fuel (chk_ok hz) ha hL hdel))
/-! ### Optimize -/
structure Ready (la : List (Bool × Int)) (regs : Nat) (par : Int) (cs : List In) : Prop where
 chk : (chkD la regs par cs).2 = 0
 arg : argOk cs
theorem Optimize_full {la : List (Bool × Int)} {regs : Nat} {par : Int} {cs : List In} (Good : List In → Prop) (hgood : ∀ c, Good c → Ready la regs par c) (h1 : ∀ c, Good c → Good (foldC regs c)) (h2 : ∀ c, Good c → Good (copC c)) (h3 : ∀ c, Good c → Good (shaC c)) (fuel : Nat) (hL : ∀ c, Good c → livC fuel regs c ≠ none)
  (h4 : ∀ c, Good c → Good (pruC fuel regs c)) (hdel : ∀ c L, Good c → livC fuel regs c = some L → holP (prGo L c 0) ≠ none → DelOK Tryz.prog 77 37) (hg : Good cs) (hlen : (optR (fun c => pruC fuel regs (shaC (copC (foldC regs c)))) 8 cs).length ≤ cs.length) :
  Has Tryz.prog 19 [codeV la.length (aC la) regs par cs] [.v (codeV la.length (aC la) regs par (optR (fun c => pruC fuel regs (shaC (copC (foldC regs c)))) 8 cs)), .v (.n .i64 0)] := by
 have hz := (hgood cs hg).chk
 have hk := chk_ok hz
 have hA := hk.nA
 refine Optimize_has (full_of hk hz (hgood cs hg).arg hlen ?_)
 refine opt1_has (Good := Good) (by omega) cC_aC (fun c hc => by have := (chk_ok (hgood c hc).chk).ncs; omega) (fun c hc => ⟨foldP_has (chk_ok (hgood c hc).chk) (hgood c hc).arg, h1 c hc⟩) (fun c hc => ⟨copP_has (chk_ok (hgood c hc).chk), h2 c hc⟩) (fun c hc => ⟨shaP_has (chk_ok (hgood c hc).chk), h3 c hc⟩) (fun c hc => ⟨?_, h4 c hc⟩) hg
 cases hLc : livC fuel regs c with
 |none => exact absurd hLc (hL c hc)
 |some L => exact pruP_has fuel (chk_ok (hgood c hc).chk) (hgood c hc).arg hLc (hdel c L hc hLc)
end Go.Proofs.YtidhfimbnjaceaaGreat

namespace Go.Proofs.YtidhfimbnjaceaaGreat
open Go.RowKit
set_option linter.unusedVariables false
set_option linter.unusedSimpArgs false
theorem has_cvs {P : Program} {f : FuncId} {args l l' : List AV} (h : Has P f args (l.map .v)) (hc : ∀ H, Cvs [] H l l') (hp : l'.all (AV.pu 3) = true) : Has P f args (l'.map .v) := by
 refine ⟨h.1, fun φ w args' hφ ha => (h.2 φ w args' hφ ha).mono fun e w' hq => ?_⟩
 cases e with
 |panicked c => exact hq.elim
 |outgrown => exact hq.elim
 |returned u =>
  obtain ⟨v, Hc, σ', ⟨l2, rfl, hr⟩, hv, hHc, hbel, hfz⟩ := hq
  have hl2 : ∀ {l l2 : List AV}, RRs (l.map RT.v) l2 Hc → l2 = l := fun {l l2} => by
   intro h
   induction l generalizing l2 with
   |nil => cases l2 with
    |nil => rfl
    |cons _ _ => exact h.elim
   |cons x l ih => cases l2 with
    |nil => exact h.elim
    |cons y l2 =>
     have h1 : y = x := h.1.1
     rw [h1, ih h.2]
  have := hl2 hr
  subst this
  obtain ⟨us, hus, hback⟩ := oneOf_inv hv
  obtain ⟨σ2, q1, q2, q3, q4, q5, q6, q7⟩ := hHc.marks []
  have hd := (hc Hc).ok hHc q1 q2 q7 hus
  refine ⟨_, markL Hc [], σ2, ⟨_, rfl, RRs_data _ hp⟩, hback (hc Hc).len.symm (hd.mono (Sg.bare_le _)), q6, hbel, fun c hc => ?_⟩
  rw [q4 c hc]; exact hfz c hc
theorem i_has (op to a b arg : Int) : Has Tryz.prog 23 [.n .i64 op, .n .i64 to, .n .i64 a, .n .i64 b, .n .u32 arg] [.v (insV (op, to, a, b, arg))] := by
 refine hasQ_of' mixo x76ok ⟨by simp, by decide⟩ ?_
 simp only [argE]
 repeat (first | (with_reducible refine GA.go mixo rfl ?_) | simp only [go_sem, simprocAttr])
 exact has_end1 rfl rfl
theorem code_has {cs : List In} : Has Tryz.prog 22 [.fs 5 cs.length (cC cs)] [.v (codeV 0 (aC []) 4 0 cs)] := by
 refine has_cvs (l := [.agg [.sl0, .n .i64 4, .n .i64 0, .fs 5 cs.length (cC cs)]]) (l' := [codeV 0 (aC []) 4 0 cs]) ?_ (fun H => .cons (.agg rfl fun i v v' h1 h2 => ?_) .nil) rfl
 ·refine hasQ_of' mixo x75ok ⟨by simp, by decide⟩ ?_
  simp only [argE]
  repeat (first | (with_reducible refine GA.go mixo rfl ?_) | simp only [go_sem, simprocAttr])
  exact has_end1 rfl rfl
 ·match i, h1, h2 with
  |0, h1, h2 => cases h1; cases h2; exact .sl0 _ _
  |1, h1, h2 => cases h1; cases h2; exact .rfl rfl
  |2, h1, h2 => cases h1; cases h2; exact .rfl rfl
  |3, h1, h2 => cases h1; cases h2; exact .rfl rfl
  |i + 4, h1, h2 => cases h1
def awOne : List In := [(0, 0, -1, -1, 2), (0, 1, -1, -1, 3), (8, 0, 0, 1, 0), (34, -1, 0, -1, 0)]
def awOneA : List In := [(0, 0, -1, -1, 2), (0, 1, -1, -1, 3), (0, 0, -1, -1, 5), (34, -1, 0, -1, 0)]
def awOneB : List In := [(0, 0, -1, -1, 5), (34, -1, 0, -1, 0)]
def awTwo : List In := [(32, 1, -1, -1, 0), (36, 2, 1, -1, 0), (34, -1, 2, -1, 0), (34, -1, 1, -1, 0)]
def awTwoC : List In := [(32, 1, -1, -1, 0), (36, 2, 1, -1, 0), (34, -1, 1, -1, 0), (34, -1, 1, -1, 0)]
def awTwoD : List In := [(32, 1, -1, -1, 0), (34, -1, 1, -1, 0), (34, -1, 1, -1, 0)]
def awThree : List In := [(32, 0, -1, -1, 0), (32, 1, -1, -1, 0), (8, 2, 0, 1, 0), (8, 3, 0, 1, 0), (34, -1, 3, -1, 0)]
def awThreeS : List In := [(32, 0, -1, -1, 0), (36, 1, 0, -1, 0), (8, 2, 0, 1, 0), (36, 3, 2, -1, 0), (34, -1, 3, -1, 0)]
def awThreeT : List In := [(32, 0, -1, -1, 0), (8, 2, 0, 0, 0), (34, -1, 2, -1, 0)]
def awFuel : Nat := 8
theorem aw_fold : foldC 4 awOne = awOneA := by kernel_rfl
theorem aw_prune : pruC awFuel 4 awOneA = awOneB := by kernel_rfl
theorem aw_copies : copC awTwo = awTwoC := by kernel_rfl
theorem aw_prune2 : pruC awFuel 4 awTwoC = awTwoD := by kernel_rfl
theorem aw_share : shaC awThree = awThreeS := by kernel_rfl
theorem aw_opt : optR (fun c => pruC awFuel 4 (shaC (copC (foldC 4 c)))) 8 awThree = awThreeT := by kernel_rfl
end Go.Proofs.YtidhfimbnjaceaaGreat

namespace Go.Proofs.YtidhfimbnjaceaaGreat
open Go.RowKit
set_option linter.unusedVariables false
def awL : List (List In) := [awThree, awThreeS, [(32, 0, -1, -1, 0), (32, 1, -1, -1, 0), (8, 3, 0, 1, 0), (34, -1, 3, -1, 0)], [(32, 0, -1, -1, 0), (36, 1, 0, -1, 0), (8, 2, 0, 0, 0), (36, 3, 2, -1, 0), (34, -1, 2, -1, 0)],
 [(32, 0, -1, -1, 0), (36, 1, 0, -1, 0), (8, 3, 0, 1, 0), (34, -1, 3, -1, 0)], awThreeT, [(32, 0, -1, -1, 0), (36, 1, 0, -1, 0), (8, 3, 0, 0, 0), (34, -1, 3, -1, 0)], [(32, 0, -1, -1, 0), (8, 3, 0, 0, 0), (34, -1, 3, -1, 0)]]
def argB (cs : List In) : Bool := cs.all fun x => decide (0 ≤ x.2.2.2.2) && decide (x.2.2.2.2 < 4294967296)
theorem argB_ok {cs : List In} (h : argB cs = true) : argOk cs := fun x hx => by
 have := List.all_eq_true.1 h x hx
 simpa using this
def holeB (cs : List In) : Bool := match livC awFuel 4 cs with
 |some L => decide (holP (prGo L cs 0) = none)
 |none => false
theorem holeB_ok {cs : List In} (h : holeB cs = true) : ∃ L, livC awFuel 4 cs = some L ∧ holP (prGo L cs 0) = none := by
 unfold holeB at h
 split at h
 ·rename_i L hL; exact ⟨L, hL, by simpa using h⟩
 ·cases h
def allB (p : List In → Bool) : Bool := awL.all p
theorem allB_ok {p : List In → Bool} (h : allB p = true) {c : List In} (hc : c ∈ awL) : p c = true := List.all_eq_true.1 h c hc
theorem awF : Has Tryz.prog 10 [codeV 0 (aC []) 4 0 awOne] [.v (codeV 0 (aC []) 4 0 awOneA), .v (.n .i64 0)] := by
 have h := Fold_full (la := []) (regs := 4) (par := 0) (cs := awOne) (by kernel_rfl) (argB_ok (by kernel_rfl))
 rw [aw_fold] at h
 exact h
theorem awP {cs cs2 : List In} (hz : (chkD [] 4 0 cs).2 = 0) (ha : argB cs = true) (hh : holeB cs = true) (he : pruC awFuel 4 cs = cs2) : Has Tryz.prog 17 [codeV 0 (aC []) 4 0 cs] [.v (codeV 0 (aC []) 4 0 cs2), .v (.n .i64 0)] := by
 obtain ⟨L, hL, hn⟩ := holeB_ok hh
 have h := Prune_full (la := []) (regs := 4) (par := 0) (cs := cs) awFuel hz (argB_ok ha) hL (fun hne => absurd hn hne)
 rw [he] at h
 exact h
theorem awP1 : Has Tryz.prog 17 [codeV 0 (aC []) 4 0 awOneA] [.v (codeV 0 (aC []) 4 0 awOneB), .v (.n .i64 0)] := awP (by kernel_rfl) (by kernel_rfl) (by kernel_rfl) aw_prune
theorem awC : Has Tryz.prog 13 [codeV 0 (aC []) 4 0 awTwo] [.v (codeV 0 (aC []) 4 0 awTwoC), .v (.n .i64 0)] := by
 have h := Copies_full (la := []) (regs := 4) (par := 0) (cs := awTwo) (by kernel_rfl) (argB_ok (by kernel_rfl))
 rw [aw_copies] at h
 exact h
theorem awP2 : Has Tryz.prog 17 [codeV 0 (aC []) 4 0 awTwoC] [.v (codeV 0 (aC []) 4 0 awTwoD), .v (.n .i64 0)] := awP (by kernel_rfl) (by kernel_rfl) (by kernel_rfl) aw_prune2
theorem awS : Has Tryz.prog 15 [codeV 0 (aC []) 4 0 awThree] [.v (codeV 0 (aC []) 4 0 awThreeS), .v (.n .i64 0)] := by
 have h := Share_full (la := []) (regs := 4) (par := 0) (cs := awThree) (by kernel_rfl) (argB_ok (by kernel_rfl))
 rw [aw_share] at h
 exact h
theorem awO : Has Tryz.prog 19 [codeV 0 (aC []) 4 0 awThree] [.v (codeV 0 (aC []) 4 0 awThreeT), .v (.n .i64 0)] := by
 have h := Optimize_full (la := []) (regs := 4) (par := 0) (cs := awThree) (fun c => c ∈ awL)
  (fun c hc => ⟨of_decide_eq_true (allB_ok (p := fun c => decide ((chkD [] 4 0 c).2 = 0)) (by kernel_rfl) hc), argB_ok (allB_ok (p := argB) (by kernel_rfl) hc)⟩)
  (fun c hc => of_decide_eq_true (allB_ok (p := fun c => decide (foldC 4 c ∈ awL)) (by kernel_rfl) hc))
  (fun c hc => of_decide_eq_true (allB_ok (p := fun c => decide (copC c ∈ awL)) (by kernel_rfl) hc))
  (fun c hc => of_decide_eq_true (allB_ok (p := fun c => decide (shaC c ∈ awL)) (by kernel_rfl) hc)) awFuel
  (fun c hc => by
   obtain ⟨L, hL, _⟩ := holeB_ok (allB_ok (p := holeB) (by kernel_rfl) hc)
   rw [hL]; simp)
  (fun c hc => of_decide_eq_true (allB_ok (p := fun c => decide (pruC awFuel 4 c ∈ awL)) (by kernel_rfl) hc))
  (fun c L hc hL hne => by
   obtain ⟨L', hL', hn⟩ := holeB_ok (allB_ok (p := holeB) (by kernel_rfl) hc)
   rw [hL] at hL'
   cases hL'
   exact absurd hn hne)
  (of_decide_eq_true (by kernel_rfl)) (by rw [aw_opt]; exact of_decide_eq_true (by kernel_rfl))
 rw [aw_opt] at h
 exact h
theorem awSame (cs : List In) (h : cs.length < 1000000) : Has Tryz.prog 12 [codeV 0 (aC []) 4 0 cs, codeV 0 (aC []) 4 0 cs] [.v (.b true)] := by
 have := same_any [] (by decide) 4 0 cs cs h
 rw [decide_eq_true rfl] at this
 exact this
end Go.Proofs.YtidhfimbnjaceaaGreat

namespace Go.Proofs.YtidhfimbnjaceaaGreat
open Go.RowKit
set_option linter.unusedVariables false
set_option linter.unusedSimpArgs false
theorem lt4a {i : Nat} (h : i < 4) : i = 0 ∨ i = 1 ∨ i = 2 ∨ i = 3 := by omega
abbrev awV (cs : List In) : List AV := [.fs 2 0 (aC []), .n .i64 4, .n .i64 0, .fs 5 cs.length (cC cs)]
abbrev cellsI (x : In) : List AV := [.n .i64 x.1, .n .i64 x.2.1, .n .i64 x.2.2.1, .n .i64 x.2.2.2.1, .n .u32 x.2.2.2.2]
theorem lt_2 {i : Nat} (h : i < 2) : i = 0 ∨ i = 1 := by omega
theorem lt_3 {i : Nat} (h : i < 3) : i = 0 ∨ i = 1 ∨ i = 2 := by omega
theorem lt_4 {i : Nat} (h : i < 4) : i = 0 ∨ i = 1 ∨ i = 2 ∨ i = 3 := by omega
theorem lt_5 {i : Nat} (h : i < 5) : i = 0 ∨ i = 1 ∨ i = 2 ∨ i = 3 ∨ i = 4 := by omega
theorem aw_add : IntKind.wrap .i64 ((0 : Int) + 0) = 0 := by decide
theorem aw_w0 : IntKind.wrap .i64 0 = 0 := by decide
theorem awake_has : Has Tryz.prog 9 [] [.v (.b true)] := by
 refine hasQ_of' mixo x77ok ⟨by simp, by decide⟩ ?_
 simp only [argE]
 repeat (first | (with_reducible refine GA.go mixo rfl ?_) | simp only [go_sem, simprocAttr])
 refine gcall_has [] (.cons (.rfl rfl) (.cons (.rfl rfl) (.cons (.rfl rfl) (.cons (.rfl rfl) (.cons (.rfl rfl) .nil))))) (i_has _ _ _ _ _) (by simp only [go_sem, simprocAttr]) ?_
 simp only [insV, go_sem, simprocAttr]
 refine gcall_has [] (.cons (.rfl rfl) (.cons (.rfl rfl) (.cons (.rfl rfl) (.cons (.rfl rfl) (.cons (.rfl rfl) .nil))))) (i_has _ _ _ _ _) (by simp only [go_sem, simprocAttr]) ?_
 simp only [insV, go_sem, simprocAttr]
 refine gcall_has [] (.cons (.rfl rfl) (.cons (.rfl rfl) (.cons (.rfl rfl) (.cons (.rfl rfl) (.cons (.rfl rfl) .nil))))) (i_has _ _ _ _ _) (by simp only [go_sem, simprocAttr]) ?_
 simp only [insV, go_sem, simprocAttr]
 refine gcall_has [] (.cons (.rfl rfl) (.cons (.rfl rfl) (.cons (.rfl rfl) (.cons (.rfl rfl) (.cons (.rfl rfl) .nil))))) (i_has _ _ _ _ _) (by simp only [go_sem, simprocAttr]) ?_
 simp only [insV, go_sem, simprocAttr]
 refine gcall_has [0] (fargs := [.fs 5 awOne.length (cC awOne)]) (.cons (.sl (x := _) (by simp) (by simp only [go_sem, simprocAttr] <;> rfl) (by simp only [awOne, go_sem, simprocAttr] <;> decide) (by decide) (by simp only [go_sem, simprocAttr] <;> decide) (fun i j hi hj => ?_) (fun i j _ hj => cC_cell i hj)) .nil) code_has (by simp only [go_sem, simprocAttr]) ?_
 ·rcases lt_4 hi with rfl | rfl | rfl | rfl <;> rcases lt5 hj with rfl | rfl | rfl | rfl | rfl <;> rfl
 simp only [codeV, insV, go_sem, simprocAttr]
 refine GA.wk (Wk.mk (L := [(1, .p 0 0)]) (bl := [lstB 0 25 (awV awOne)]) [1] [] ?_ ?_ ?_) ?_
 ·simp only [WkE, WkH, go_sem, simprocAttr]
  repeat' refine and_of ?_ ?_
  all_goals first | exact wku | skip
 ·exact .cons rfl (.lsti (x := _) (by simp only [go_sem, simprocAttr] <;> rfl) (by rfl) (by rfl) (by rfl) (by rfl) (by rfl) (by rfl) (by simp) (fun i hi => by rcases lt4a hi with rfl | rfl | rfl | rfl <;> (simp only [awV, go_sem, simprocAttr]; first | done | rfl)) (by rfl)) (.nil)
 ·simp
 have hF := awF
 have hP1 := awP1
 simp only [codeV] at hF hP1
 repeat (first | (with_reducible refine GA.go mixo rfl ?_) | simp only [go_sem, simprocAttr])
 refine gcall_has [] (.cons (.rfl (by rfl)) .nil) hF (by simp only [go_sem, simprocAttr]) ?_
 simp only [codeV, go_sem, simprocAttr]
 refine GA.wk (Wk.mk (L := [(1, .p 0 0), (2, .p 1 0), (3, .n .i64 0)]) (bl := [lstB 0 25 (awV awOneA), lstB 0 25 (awV awOne)]) [1, 0] [] ?_ ?_ ?_) ?_
 ·simp only [WkE, WkH, go_sem, simprocAttr]
  repeat' refine and_of ?_ ?_
  all_goals first | exact wku | skip
 ·exact .cons rfl (.lsti (x := _) (by simp only [go_sem, simprocAttr] <;> rfl) (by rfl) (by rfl) (by rfl) (by rfl) (by rfl) (by rfl) (by simp) (fun i hi => by rcases lt4a hi with rfl | rfl | rfl | rfl <;> (simp only [awV, go_sem, simprocAttr]; first | done | rfl)) (by rfl)) (.cons rfl (.lsti (x := _) (by simp only [go_sem, simprocAttr] <;> rfl) (by rfl) (by rfl) (by rfl) (by rfl) (by rfl) (by rfl) (by simp) (fun i hi => by rcases lt4a hi with rfl | rfl | rfl | rfl <;> (simp only [awV, go_sem, simprocAttr]; first | done | rfl)) (by rfl)) (.nil))
 ·simp
 repeat (first | (with_reducible refine GA.go mixo rfl ?_) | simp only [go_sem, simprocAttr])
 refine gcall_has [] (.cons (.rfl (by rfl)) .nil) hP1 (by simp only [go_sem, simprocAttr]) ?_
 simp only [codeV, go_sem, simprocAttr]
 refine GA.wk (Wk.mk (L := [(1, .p 0 0), (2, .p 1 0), (4, .p 2 0), (3, .n .i64 0), (5, .n .i64 0)]) (bl := [lstB 0 25 (awV awOneB), lstB 0 25 (awV awOneA), lstB 0 25 (awV awOne)]) [2, 1, 0] [] ?_ ?_ ?_) ?_
 ·simp only [WkE, WkH, go_sem, simprocAttr]
  repeat' refine and_of ?_ ?_
  all_goals first | exact wku | skip
 ·exact .cons rfl (.lsti (x := _) (by simp only [go_sem, simprocAttr] <;> rfl) (by rfl) (by rfl) (by rfl) (by rfl) (by rfl) (by rfl) (by simp) (fun i hi => by rcases lt4a hi with rfl | rfl | rfl | rfl <;> (simp only [awV, go_sem, simprocAttr]; first | done | rfl)) (by rfl)) (.cons rfl (.lsti (x := _) (by simp only [go_sem, simprocAttr] <;> rfl) (by rfl) (by rfl) (by rfl) (by rfl) (by rfl) (by rfl) (by simp) (fun i hi => by rcases lt4a hi with rfl | rfl | rfl | rfl <;> (simp only [awV, go_sem, simprocAttr]; first | done | rfl)) (by rfl)) (.cons rfl (.lsti (x := _) (by simp only [go_sem, simprocAttr] <;> rfl) (by rfl) (by rfl) (by rfl) (by rfl) (by rfl) (by rfl) (by simp) (fun i hi => by rcases lt4a hi with rfl | rfl | rfl | rfl <;> (simp only [awV, go_sem, simprocAttr]; first | done | rfl)) (by rfl)) (.nil)))
 ·simp
 repeat (first | (with_reducible refine GA.go mixo rfl ?_) | simp only [go_sem, simprocAttr])
 refine gcall_has [] (.cons (.rfl rfl) (.cons (.rfl rfl) (.cons (.rfl rfl) (.cons (.rfl rfl) (.cons (.rfl rfl) .nil))))) (i_has _ _ _ _ _) (by simp only [go_sem, simprocAttr]) ?_
 simp only [insV, go_sem, simprocAttr]
 refine GA.wk (Wk.mk (L := [(1, .p 0 0), (2, .p 1 0), (4, .p 2 0), (6, .p 3 0), (3, .n .i64 0), (5, .n .i64 0)]) (bl := [lstB 0 37 (cellsI (0, 0, -1, -1, 5)), lstB 0 25 (awV awOneB), lstB 0 25 (awV awOneA), lstB 0 25 (awV awOne)]) [3, 2, 1, 0] [] ?_ ?_ ?_) ?_
 ·simp only [WkE, WkH, go_sem, simprocAttr]
  repeat' refine and_of ?_ ?_
  all_goals first | exact wku | skip
 ·exact .cons rfl (.lsti (x := _) (by simp only [go_sem, simprocAttr] <;> rfl) (by rfl) (by rfl) (by rfl) (by rfl) (by rfl) (by rfl) (by simp) (fun i hi => by rcases lt5 hi with rfl | rfl | rfl | rfl | rfl <;> (simp only [cellsI, go_sem, simprocAttr]; first | done | rfl)) (by rfl)) (.cons rfl (.lsti (x := _) (by simp only [go_sem, simprocAttr] <;> rfl) (by rfl) (by rfl) (by rfl) (by rfl) (by rfl) (by rfl) (by simp) (fun i hi => by rcases lt4a hi with rfl | rfl | rfl | rfl <;> (simp only [awV, go_sem, simprocAttr]; first | done | rfl)) (by rfl)) (.cons rfl (.lsti (x := _) (by simp only [go_sem, simprocAttr] <;> rfl) (by rfl) (by rfl) (by rfl) (by rfl) (by rfl) (by rfl) (by simp) (fun i hi => by rcases lt4a hi with rfl | rfl | rfl | rfl <;> (simp only [awV, go_sem, simprocAttr]; first | done | rfl)) (by rfl)) (.cons rfl (.lsti (x := _) (by simp only [go_sem, simprocAttr] <;> rfl) (by rfl) (by rfl) (by rfl) (by rfl) (by rfl) (by rfl) (by simp) (fun i hi => by rcases lt4a hi with rfl | rfl | rfl | rfl <;> (simp only [awV, go_sem, simprocAttr]; first | done | rfl)) (by rfl)) (.nil))))
 ·simp
 have hl0 : (0 : Int) < (awOne.length : Int) := by decide
 have hp0 : (0 : Int) ≤ 0 := by decide
 have hn0 : Int.toNat 0 = 0 := rfl
 have hc00 : cC awOne 0 0 = .n .i64 (0) := rfl
 have hc01 : cC awOne 0 1 = .n .i64 (0) := rfl
 have hc02 : cC awOne 0 2 = .n .i64 (-1) := rfl
 have hc03 : cC awOne 0 3 = .n .i64 (-1) := rfl
 have hc04 : cC awOne 0 4 = .n .u32 (2) := rfl
 have hl1 : (1 : Int) < (awOne.length : Int) := by decide
 have hp1 : (0 : Int) ≤ 1 := by decide
 have hn1 : Int.toNat 1 = 1 := rfl
 have hc10 : cC awOne 1 0 = .n .i64 (0) := rfl
 have hc11 : cC awOne 1 1 = .n .i64 (1) := rfl
 have hc12 : cC awOne 1 2 = .n .i64 (-1) := rfl
 have hc13 : cC awOne 1 3 = .n .i64 (-1) := rfl
 have hc14 : cC awOne 1 4 = .n .u32 (3) := rfl
 have hl3 : (3 : Int) < (awOne.length : Int) := by decide
 have hp3 : (0 : Int) ≤ 3 := by decide
 have hn3 : Int.toNat 3 = 3 := rfl
 have hc30 : cC awOne 3 0 = .n .i64 (34) := rfl
 have hc31 : cC awOne 3 1 = .n .i64 (-1) := rfl
 have hc32 : cC awOne 3 2 = .n .i64 (0) := rfl
 have hc33 : cC awOne 3 3 = .n .i64 (-1) := rfl
 have hc34 : cC awOne 3 4 = .n .u32 (0) := rfl
 with_reducible refine GA.seq ?_
 with_reducible refine GA.seq ?_
 with_reducible refine GA.mixv mixo ?_ ?_
 ·rfl
 try simp only [gMixV_nil, gdV_true, gdV_false, kMixV_app, ldV_some, puK_some, puV_none, puV_u, puV_n, puV_b, puV_p, puV_fp, puV_fs, puV_tup, puV_agg, aprun_ap, erV_ld, hl0, hp0, hn0, hc00, hc01, hc02, hc03, hc04, hl1, hp1, hn1, hc10, hc11, hc12, hc13, hc14, hl3, hp3, hn3, hc30, hc31, hc32, hc33, hc34, aw_add, aw_w0, decide_true, decide_false, go_sem, simprocAttr]
 repeat (rw [gMixV_cons]; simp only [gMixV_nil, gdV_true, gdV_false, kMixV_app, ldV_some, puK_some, puV_none, puV_u, puV_n, puV_b, puV_p, puV_fp, puV_fs, puV_tup, puV_agg, aprun_ap, erV_ld, hl0, hp0, hn0, hc00, hc01, hc02, hc03, hc04, hl1, hp1, hn1, hc10, hc11, hc12, hc13, hc14, hl3, hp3, hn3, hc30, hc31, hc32, hc33, hc34, aw_add, aw_w0, decide_true, decide_false, go_sem, simprocAttr])
 refine gcall_has [4] (fargs := [.fs 5 awOneA.length (cC awOneA)]) (.cons (.sl (x := _) (by simp) (by simp only [go_sem, simprocAttr] <;> rfl) (by simp only [awOneA, go_sem, simprocAttr] <;> decide) (by decide) (by simp only [go_sem, simprocAttr] <;> decide) (fun i j hi hj => ?_) (fun i j _ hj => cC_cell i hj)) .nil) code_has (by simp only [go_sem, simprocAttr]) ?_
 ·rcases lt_4 hi with rfl | rfl | rfl | rfl <;> rcases lt5 hj with rfl | rfl | rfl | rfl | rfl <;> rfl
 simp only [codeV, insV, gMixV_nil, gdV_true, gdV_false, kMixV_app, ldV_some, puK_some, puV_none, puV_u, puV_n, puV_b, puV_p, puV_fp, puV_fs, puV_tup, puV_agg, aprun_ap, erV_ld, hl0, hp0, hn0, hc00, hc01, hc02, hc03, hc04, hl1, hp1, hn1, hc10, hc11, hc12, hc13, hc14, hl3, hp3, hn3, hc30, hc31, hc32, hc33, hc34, aw_add, aw_w0, decide_true, decide_false, go_sem, simprocAttr]
 try simp only [gMixV_nil, gdV_true, gdV_false, kMixV_app, ldV_some, puK_some, puV_none, puV_u, puV_n, puV_b, puV_p, puV_fp, puV_fs, puV_tup, puV_agg, aprun_ap, erV_ld, hl0, hp0, hn0, hc00, hc01, hc02, hc03, hc04, hl1, hp1, hn1, hc10, hc11, hc12, hc13, hc14, hl3, hp3, hn3, hc30, hc31, hc32, hc33, hc34, aw_add, aw_w0, decide_true, decide_false, go_sem, simprocAttr]
 repeat (rw [gMixV_cons]; simp only [gMixV_nil, gdV_true, gdV_false, kMixV_app, ldV_some, puK_some, puV_none, puV_u, puV_n, puV_b, puV_p, puV_fp, puV_fs, puV_tup, puV_agg, aprun_ap, erV_ld, hl0, hp0, hn0, hc00, hc01, hc02, hc03, hc04, hl1, hp1, hn1, hc10, hc11, hc12, hc13, hc14, hl3, hp3, hn3, hc30, hc31, hc32, hc33, hc34, aw_add, aw_w0, decide_true, decide_false, go_sem, simprocAttr])
 refine gcall_has [] (.cons (.rfl (by rfl)) (.cons (.rfl (by rfl)) .nil)) (by have := awSame awOneA (by decide); simp only [codeV] at this; exact this) (by simp only [go_sem, simprocAttr]) ?_
 try simp only [gMixV_nil, gdV_true, gdV_false, kMixV_app, ldV_some, puK_some, puV_none, puV_u, puV_n, puV_b, puV_p, puV_fp, puV_fs, puV_tup, puV_agg, aprun_ap, erV_ld, hl0, hp0, hn0, hc00, hc01, hc02, hc03, hc04, hl1, hp1, hn1, hc10, hc11, hc12, hc13, hc14, hl3, hp3, hn3, hc30, hc31, hc32, hc33, hc34, aw_add, aw_w0, decide_true, decide_false, go_sem, simprocAttr]
 repeat (rw [gMixV_cons]; simp only [gMixV_nil, gdV_true, gdV_false, kMixV_app, ldV_some, puK_some, puV_none, puV_u, puV_n, puV_b, puV_p, puV_fp, puV_fs, puV_tup, puV_agg, aprun_ap, erV_ld, hl0, hp0, hn0, hc00, hc01, hc02, hc03, hc04, hl1, hp1, hn1, hc10, hc11, hc12, hc13, hc14, hl3, hp3, hn3, hc30, hc31, hc32, hc33, hc34, aw_add, aw_w0, decide_true, decide_false, go_sem, simprocAttr])
 refine gcall_has [5] (fargs := [.fs 5 awOneB.length (cC awOneB)]) (.cons (.sl (x := _) (by simp) (by simp only [go_sem, simprocAttr] <;> rfl) (by simp only [awOneB, go_sem, simprocAttr] <;> decide) (by decide) (by simp only [go_sem, simprocAttr] <;> decide) (fun i j hi hj => ?_) (fun i j _ hj => cC_cell i hj)) .nil) code_has (by simp only [go_sem, simprocAttr]) ?_
 ·rcases lt_2 hi with rfl | rfl <;> rcases lt5 hj with rfl | rfl | rfl | rfl | rfl <;> rfl
 simp only [codeV, insV, gMixV_nil, gdV_true, gdV_false, kMixV_app, ldV_some, puK_some, puV_none, puV_u, puV_n, puV_b, puV_p, puV_fp, puV_fs, puV_tup, puV_agg, aprun_ap, erV_ld, hl0, hp0, hn0, hc00, hc01, hc02, hc03, hc04, hl1, hp1, hn1, hc10, hc11, hc12, hc13, hc14, hl3, hp3, hn3, hc30, hc31, hc32, hc33, hc34, aw_add, aw_w0, decide_true, decide_false, go_sem, simprocAttr]
 try simp only [gMixV_nil, gdV_true, gdV_false, kMixV_app, ldV_some, puK_some, puV_none, puV_u, puV_n, puV_b, puV_p, puV_fp, puV_fs, puV_tup, puV_agg, aprun_ap, erV_ld, hl0, hp0, hn0, hc00, hc01, hc02, hc03, hc04, hl1, hp1, hn1, hc10, hc11, hc12, hc13, hc14, hl3, hp3, hn3, hc30, hc31, hc32, hc33, hc34, aw_add, aw_w0, decide_true, decide_false, go_sem, simprocAttr]
 repeat (rw [gMixV_cons]; simp only [gMixV_nil, gdV_true, gdV_false, kMixV_app, ldV_some, puK_some, puV_none, puV_u, puV_n, puV_b, puV_p, puV_fp, puV_fs, puV_tup, puV_agg, aprun_ap, erV_ld, hl0, hp0, hn0, hc00, hc01, hc02, hc03, hc04, hl1, hp1, hn1, hc10, hc11, hc12, hc13, hc14, hl3, hp3, hn3, hc30, hc31, hc32, hc33, hc34, aw_add, aw_w0, decide_true, decide_false, go_sem, simprocAttr])
 refine gcall_has [] (.cons (.rfl (by rfl)) (.cons (.rfl (by rfl)) .nil)) (by have := awSame awOneB (by decide); simp only [codeV] at this; exact this) (by simp only [go_sem, simprocAttr]) ?_
 try simp only [gMixV_nil, gdV_true, gdV_false, kMixV_app, ldV_some, puK_some, puV_none, puV_u, puV_n, puV_b, puV_p, puV_fp, puV_fs, puV_tup, puV_agg, aprun_ap, erV_ld, hl0, hp0, hn0, hc00, hc01, hc02, hc03, hc04, hl1, hp1, hn1, hc10, hc11, hc12, hc13, hc14, hl3, hp3, hn3, hc30, hc31, hc32, hc33, hc34, aw_add, aw_w0, decide_true, decide_false, go_sem, simprocAttr]
 repeat (rw [gMixV_cons]; simp only [gMixV_nil, gdV_true, gdV_false, kMixV_app, ldV_some, puK_some, puV_none, puV_u, puV_n, puV_b, puV_p, puV_fp, puV_fs, puV_tup, puV_agg, aprun_ap, erV_ld, hl0, hp0, hn0, hc00, hc01, hc02, hc03, hc04, hl1, hp1, hn1, hc10, hc11, hc12, hc13, hc14, hl3, hp3, hn3, hc30, hc31, hc32, hc33, hc34, aw_add, aw_w0, decide_true, decide_false, go_sem, simprocAttr])
 (try simp only [go_sem, simprocAttr])
 iterate 2 (with_reducible refine GA.go mixo rfl ?_; try simp only [go_sem, simprocAttr])
 refine GA.wk (Wk.mk (L := []) (bl := []) [] [] ?_ ?_ ?_) ?_
 ·simp only [WkE, WkH, go_sem, simprocAttr]
  repeat' refine and_of ?_ ?_
  all_goals first | exact wku | skip
 ·exact True.intro
 ·simp
 clear hF hP1 hl0 hp0 hn0 hc00 hc01 hc02 hc03 hc04 hl1 hp1 hn1 hc10 hc11 hc12 hc13 hc14 hl3 hp3 hn3 hc30 hc31 hc32 hc33 hc34
 repeat (first | (with_reducible refine GA.go mixo rfl ?_) | simp only [go_sem, simprocAttr])
 refine gcall_has [] (.cons (.rfl rfl) (.cons (.rfl rfl) (.cons (.rfl rfl) (.cons (.rfl rfl) (.cons (.rfl rfl) .nil))))) (i_has _ _ _ _ _) (by simp only [go_sem, simprocAttr]) ?_
 simp only [insV, go_sem, simprocAttr]
 refine gcall_has [] (.cons (.rfl rfl) (.cons (.rfl rfl) (.cons (.rfl rfl) (.cons (.rfl rfl) (.cons (.rfl rfl) .nil))))) (i_has _ _ _ _ _) (by simp only [go_sem, simprocAttr]) ?_
 simp only [insV, go_sem, simprocAttr]
 refine gcall_has [] (.cons (.rfl rfl) (.cons (.rfl rfl) (.cons (.rfl rfl) (.cons (.rfl rfl) (.cons (.rfl rfl) .nil))))) (i_has _ _ _ _ _) (by simp only [go_sem, simprocAttr]) ?_
 simp only [insV, go_sem, simprocAttr]
 refine gcall_has [] (.cons (.rfl rfl) (.cons (.rfl rfl) (.cons (.rfl rfl) (.cons (.rfl rfl) (.cons (.rfl rfl) .nil))))) (i_has _ _ _ _ _) (by simp only [go_sem, simprocAttr]) ?_
 simp only [insV, go_sem, simprocAttr]
 refine gcall_has [0] (fargs := [.fs 5 awTwo.length (cC awTwo)]) (.cons (.sl (x := _) (by simp) (by simp only [go_sem, simprocAttr] <;> rfl) (by simp only [awTwo, go_sem, simprocAttr] <;> decide) (by decide) (by simp only [go_sem, simprocAttr] <;> decide) (fun i j hi hj => ?_) (fun i j _ hj => cC_cell i hj)) .nil) code_has (by simp only [go_sem, simprocAttr]) ?_
 ·rcases lt_4 hi with rfl | rfl | rfl | rfl <;> rcases lt5 hj with rfl | rfl | rfl | rfl | rfl <;> rfl
 simp only [codeV, insV, go_sem, simprocAttr]
 refine GA.wk (Wk.mk (L := [(7, .p 0 0)]) (bl := [lstB 0 25 (awV awTwo)]) [1] [] ?_ ?_ ?_) ?_
 ·simp only [WkE, WkH, go_sem, simprocAttr]
  repeat' refine and_of ?_ ?_
  all_goals first | exact wku | skip
 ·exact .cons rfl (.lsti (x := _) (by simp only [go_sem, simprocAttr] <;> rfl) (by rfl) (by rfl) (by rfl) (by rfl) (by rfl) (by rfl) (by simp) (fun i hi => by rcases lt4a hi with rfl | rfl | rfl | rfl <;> (simp only [awV, go_sem, simprocAttr]; first | done | rfl)) (by rfl)) (.nil)
 ·simp
 have hF := awC
 have hP1 := awP2
 simp only [codeV] at hF hP1
 repeat (first | (with_reducible refine GA.go mixo rfl ?_) | simp only [go_sem, simprocAttr])
 refine gcall_has [] (.cons (.rfl (by rfl)) .nil) hF (by simp only [go_sem, simprocAttr]) ?_
 simp only [codeV, go_sem, simprocAttr]
 refine GA.wk (Wk.mk (L := [(7, .p 0 0), (8, .p 1 0), (3, .n .i64 0)]) (bl := [lstB 0 25 (awV awTwoC), lstB 0 25 (awV awTwo)]) [1, 0] [] ?_ ?_ ?_) ?_
 ·simp only [WkE, WkH, go_sem, simprocAttr]
  repeat' refine and_of ?_ ?_
  all_goals first | exact wku | skip
 ·exact .cons rfl (.lsti (x := _) (by simp only [go_sem, simprocAttr] <;> rfl) (by rfl) (by rfl) (by rfl) (by rfl) (by rfl) (by rfl) (by simp) (fun i hi => by rcases lt4a hi with rfl | rfl | rfl | rfl <;> (simp only [awV, go_sem, simprocAttr]; first | done | rfl)) (by rfl)) (.cons rfl (.lsti (x := _) (by simp only [go_sem, simprocAttr] <;> rfl) (by rfl) (by rfl) (by rfl) (by rfl) (by rfl) (by rfl) (by simp) (fun i hi => by rcases lt4a hi with rfl | rfl | rfl | rfl <;> (simp only [awV, go_sem, simprocAttr]; first | done | rfl)) (by rfl)) (.nil))
 ·simp
 repeat (first | (with_reducible refine GA.go mixo rfl ?_) | simp only [go_sem, simprocAttr])
 refine gcall_has [] (.cons (.rfl (by rfl)) .nil) hP1 (by simp only [go_sem, simprocAttr]) ?_
 simp only [codeV, go_sem, simprocAttr]
 refine GA.wk (Wk.mk (L := [(7, .p 0 0), (8, .p 1 0), (9, .p 2 0), (3, .n .i64 0), (5, .n .i64 0)]) (bl := [lstB 0 25 (awV awTwoD), lstB 0 25 (awV awTwoC), lstB 0 25 (awV awTwo)]) [2, 1, 0] [] ?_ ?_ ?_) ?_
 ·simp only [WkE, WkH, go_sem, simprocAttr]
  repeat' refine and_of ?_ ?_
  all_goals first | exact wku | skip
 ·exact .cons rfl (.lsti (x := _) (by simp only [go_sem, simprocAttr] <;> rfl) (by rfl) (by rfl) (by rfl) (by rfl) (by rfl) (by rfl) (by simp) (fun i hi => by rcases lt4a hi with rfl | rfl | rfl | rfl <;> (simp only [awV, go_sem, simprocAttr]; first | done | rfl)) (by rfl)) (.cons rfl (.lsti (x := _) (by simp only [go_sem, simprocAttr] <;> rfl) (by rfl) (by rfl) (by rfl) (by rfl) (by rfl) (by rfl) (by simp) (fun i hi => by rcases lt4a hi with rfl | rfl | rfl | rfl <;> (simp only [awV, go_sem, simprocAttr]; first | done | rfl)) (by rfl)) (.cons rfl (.lsti (x := _) (by simp only [go_sem, simprocAttr] <;> rfl) (by rfl) (by rfl) (by rfl) (by rfl) (by rfl) (by rfl) (by simp) (fun i hi => by rcases lt4a hi with rfl | rfl | rfl | rfl <;> (simp only [awV, go_sem, simprocAttr]; first | done | rfl)) (by rfl)) (.nil)))
 ·simp
 have hl0 : (0 : Int) < (awTwo.length : Int) := by decide
 have hp0 : (0 : Int) ≤ 0 := by decide
 have hn0 : Int.toNat 0 = 0 := rfl
 have hc00 : cC awTwo 0 0 = .n .i64 (32) := rfl
 have hc01 : cC awTwo 0 1 = .n .i64 (1) := rfl
 have hc02 : cC awTwo 0 2 = .n .i64 (-1) := rfl
 have hc03 : cC awTwo 0 3 = .n .i64 (-1) := rfl
 have hc04 : cC awTwo 0 4 = .n .u32 (0) := rfl
 have hl1 : (1 : Int) < (awTwo.length : Int) := by decide
 have hp1 : (0 : Int) ≤ 1 := by decide
 have hn1 : Int.toNat 1 = 1 := rfl
 have hc10 : cC awTwo 1 0 = .n .i64 (36) := rfl
 have hc11 : cC awTwo 1 1 = .n .i64 (2) := rfl
 have hc12 : cC awTwo 1 2 = .n .i64 (1) := rfl
 have hc13 : cC awTwo 1 3 = .n .i64 (-1) := rfl
 have hc14 : cC awTwo 1 4 = .n .u32 (0) := rfl
 have hl3 : (3 : Int) < (awTwo.length : Int) := by decide
 have hp3 : (0 : Int) ≤ 3 := by decide
 have hn3 : Int.toNat 3 = 3 := rfl
 have hc30 : cC awTwo 3 0 = .n .i64 (34) := rfl
 have hc31 : cC awTwo 3 1 = .n .i64 (-1) := rfl
 have hc32 : cC awTwo 3 2 = .n .i64 (1) := rfl
 have hc33 : cC awTwo 3 3 = .n .i64 (-1) := rfl
 have hc34 : cC awTwo 3 4 = .n .u32 (0) := rfl
 with_reducible refine GA.seq ?_
 with_reducible refine GA.reg ?_
 simp only [hl0, hp0, hn0, hc00, hc01, hc02, hc03, hc04, hl1, hp1, hn1, hc10, hc11, hc12, hc13, hc14, hl3, hp3, hn3, hc30, hc31, hc32, hc33, hc34, aw_add, aw_w0, decide_true, decide_false, go_sem, simprocAttr]
 refine GA.wk (Wk.mk (L := [(7, .p 0 0), (8, .p 1 0), (9, .p 2 0), (10, .p 3 0), (3, .n .i64 0), (5, .n .i64 0)]) (bl := [lstB 0 37 (cellsI (34, -1, 1, -1, 0)), lstB 0 25 (awV awTwoD), lstB 0 25 (awV awTwoC), lstB 0 25 (awV awTwo)]) [3, 2, 1, 0] [] ?_ ?_ ?_) ?_
 ·simp only [WkE, WkH, go_sem, simprocAttr]
  repeat' refine and_of ?_ ?_
  all_goals first | exact wku | skip
 ·exact .cons rfl (.lsti (x := _) (by simp only [go_sem, simprocAttr] <;> rfl) (by rfl) (by rfl) (by rfl) (by rfl) (by rfl) (by rfl) (by simp) (fun i hi => by rcases lt5 hi with rfl | rfl | rfl | rfl | rfl <;> (simp only [cellsI, go_sem, simprocAttr]; first | done | rfl)) (by rfl)) (.cons rfl (.lsti (x := _) (by simp only [go_sem, simprocAttr] <;> rfl) (by rfl) (by rfl) (by rfl) (by rfl) (by rfl) (by rfl) (by simp) (fun i hi => by rcases lt4a hi with rfl | rfl | rfl | rfl <;> (simp only [awV, go_sem, simprocAttr]; first | done | rfl)) (by rfl)) (.cons rfl (.lsti (x := _) (by simp only [go_sem, simprocAttr] <;> rfl) (by rfl) (by rfl) (by rfl) (by rfl) (by rfl) (by rfl) (by simp) (fun i hi => by rcases lt4a hi with rfl | rfl | rfl | rfl <;> (simp only [awV, go_sem, simprocAttr]; first | done | rfl)) (by rfl)) (.cons rfl (.lsti (x := _) (by simp only [go_sem, simprocAttr] <;> rfl) (by rfl) (by rfl) (by rfl) (by rfl) (by rfl) (by rfl) (by simp) (fun i hi => by rcases lt4a hi with rfl | rfl | rfl | rfl <;> (simp only [awV, go_sem, simprocAttr]; first | done | rfl)) (by rfl)) (.nil))))
 ·simp
 with_reducible refine GA.seq ?_
 with_reducible refine GA.seq ?_
 with_reducible refine GA.mixv mixo ?_ ?_
 ·rfl
 try simp only [gMixV_nil, gdV_true, gdV_false, kMixV_app, ldV_some, puK_some, puV_none, puV_u, puV_n, puV_b, puV_p, puV_fp, puV_fs, puV_tup, puV_agg, aprun_ap, erV_ld, hl0, hp0, hn0, hc00, hc01, hc02, hc03, hc04, hl1, hp1, hn1, hc10, hc11, hc12, hc13, hc14, hl3, hp3, hn3, hc30, hc31, hc32, hc33, hc34, aw_add, aw_w0, decide_true, decide_false, go_sem, simprocAttr]
 repeat (rw [gMixV_cons]; simp only [gMixV_nil, gdV_true, gdV_false, kMixV_app, ldV_some, puK_some, puV_none, puV_u, puV_n, puV_b, puV_p, puV_fp, puV_fs, puV_tup, puV_agg, aprun_ap, erV_ld, hl0, hp0, hn0, hc00, hc01, hc02, hc03, hc04, hl1, hp1, hn1, hc10, hc11, hc12, hc13, hc14, hl3, hp3, hn3, hc30, hc31, hc32, hc33, hc34, aw_add, aw_w0, decide_true, decide_false, go_sem, simprocAttr])
 refine gcall_has [4] (fargs := [.fs 5 awTwoC.length (cC awTwoC)]) (.cons (.sl (x := _) (by simp) (by simp only [go_sem, simprocAttr] <;> rfl) (by simp only [awTwoC, go_sem, simprocAttr] <;> decide) (by decide) (by simp only [go_sem, simprocAttr] <;> decide) (fun i j hi hj => ?_) (fun i j _ hj => cC_cell i hj)) .nil) code_has (by simp only [go_sem, simprocAttr]) ?_
 ·rcases lt_4 hi with rfl | rfl | rfl | rfl <;> rcases lt5 hj with rfl | rfl | rfl | rfl | rfl <;> rfl
 simp only [codeV, insV, gMixV_nil, gdV_true, gdV_false, kMixV_app, ldV_some, puK_some, puV_none, puV_u, puV_n, puV_b, puV_p, puV_fp, puV_fs, puV_tup, puV_agg, aprun_ap, erV_ld, hl0, hp0, hn0, hc00, hc01, hc02, hc03, hc04, hl1, hp1, hn1, hc10, hc11, hc12, hc13, hc14, hl3, hp3, hn3, hc30, hc31, hc32, hc33, hc34, aw_add, aw_w0, decide_true, decide_false, go_sem, simprocAttr]
 try simp only [gMixV_nil, gdV_true, gdV_false, kMixV_app, ldV_some, puK_some, puV_none, puV_u, puV_n, puV_b, puV_p, puV_fp, puV_fs, puV_tup, puV_agg, aprun_ap, erV_ld, hl0, hp0, hn0, hc00, hc01, hc02, hc03, hc04, hl1, hp1, hn1, hc10, hc11, hc12, hc13, hc14, hl3, hp3, hn3, hc30, hc31, hc32, hc33, hc34, aw_add, aw_w0, decide_true, decide_false, go_sem, simprocAttr]
 repeat (rw [gMixV_cons]; simp only [gMixV_nil, gdV_true, gdV_false, kMixV_app, ldV_some, puK_some, puV_none, puV_u, puV_n, puV_b, puV_p, puV_fp, puV_fs, puV_tup, puV_agg, aprun_ap, erV_ld, hl0, hp0, hn0, hc00, hc01, hc02, hc03, hc04, hl1, hp1, hn1, hc10, hc11, hc12, hc13, hc14, hl3, hp3, hn3, hc30, hc31, hc32, hc33, hc34, aw_add, aw_w0, decide_true, decide_false, go_sem, simprocAttr])
 refine gcall_has [] (.cons (.rfl (by rfl)) (.cons (.rfl (by rfl)) .nil)) (by have := awSame awTwoC (by decide); simp only [codeV] at this; exact this) (by simp only [go_sem, simprocAttr]) ?_
 try simp only [gMixV_nil, gdV_true, gdV_false, kMixV_app, ldV_some, puK_some, puV_none, puV_u, puV_n, puV_b, puV_p, puV_fp, puV_fs, puV_tup, puV_agg, aprun_ap, erV_ld, hl0, hp0, hn0, hc00, hc01, hc02, hc03, hc04, hl1, hp1, hn1, hc10, hc11, hc12, hc13, hc14, hl3, hp3, hn3, hc30, hc31, hc32, hc33, hc34, aw_add, aw_w0, decide_true, decide_false, go_sem, simprocAttr]
 repeat (rw [gMixV_cons]; simp only [gMixV_nil, gdV_true, gdV_false, kMixV_app, ldV_some, puK_some, puV_none, puV_u, puV_n, puV_b, puV_p, puV_fp, puV_fs, puV_tup, puV_agg, aprun_ap, erV_ld, hl0, hp0, hn0, hc00, hc01, hc02, hc03, hc04, hl1, hp1, hn1, hc10, hc11, hc12, hc13, hc14, hl3, hp3, hn3, hc30, hc31, hc32, hc33, hc34, aw_add, aw_w0, decide_true, decide_false, go_sem, simprocAttr])
 refine gcall_has [5] (fargs := [.fs 5 awTwoD.length (cC awTwoD)]) (.cons (.sl (x := _) (by simp) (by simp only [go_sem, simprocAttr] <;> rfl) (by simp only [awTwoD, go_sem, simprocAttr] <;> decide) (by decide) (by simp only [go_sem, simprocAttr] <;> decide) (fun i j hi hj => ?_) (fun i j _ hj => cC_cell i hj)) .nil) code_has (by simp only [go_sem, simprocAttr]) ?_
 ·rcases lt_3 hi with rfl | rfl | rfl <;> rcases lt5 hj with rfl | rfl | rfl | rfl | rfl <;> rfl
 simp only [codeV, insV, gMixV_nil, gdV_true, gdV_false, kMixV_app, ldV_some, puK_some, puV_none, puV_u, puV_n, puV_b, puV_p, puV_fp, puV_fs, puV_tup, puV_agg, aprun_ap, erV_ld, hl0, hp0, hn0, hc00, hc01, hc02, hc03, hc04, hl1, hp1, hn1, hc10, hc11, hc12, hc13, hc14, hl3, hp3, hn3, hc30, hc31, hc32, hc33, hc34, aw_add, aw_w0, decide_true, decide_false, go_sem, simprocAttr]
 try simp only [gMixV_nil, gdV_true, gdV_false, kMixV_app, ldV_some, puK_some, puV_none, puV_u, puV_n, puV_b, puV_p, puV_fp, puV_fs, puV_tup, puV_agg, aprun_ap, erV_ld, hl0, hp0, hn0, hc00, hc01, hc02, hc03, hc04, hl1, hp1, hn1, hc10, hc11, hc12, hc13, hc14, hl3, hp3, hn3, hc30, hc31, hc32, hc33, hc34, aw_add, aw_w0, decide_true, decide_false, go_sem, simprocAttr]
 repeat (rw [gMixV_cons]; simp only [gMixV_nil, gdV_true, gdV_false, kMixV_app, ldV_some, puK_some, puV_none, puV_u, puV_n, puV_b, puV_p, puV_fp, puV_fs, puV_tup, puV_agg, aprun_ap, erV_ld, hl0, hp0, hn0, hc00, hc01, hc02, hc03, hc04, hl1, hp1, hn1, hc10, hc11, hc12, hc13, hc14, hl3, hp3, hn3, hc30, hc31, hc32, hc33, hc34, aw_add, aw_w0, decide_true, decide_false, go_sem, simprocAttr])
 refine gcall_has [] (.cons (.rfl (by rfl)) (.cons (.rfl (by rfl)) .nil)) (by have := awSame awTwoD (by decide); simp only [codeV] at this; exact this) (by simp only [go_sem, simprocAttr]) ?_
 try simp only [gMixV_nil, gdV_true, gdV_false, kMixV_app, ldV_some, puK_some, puV_none, puV_u, puV_n, puV_b, puV_p, puV_fp, puV_fs, puV_tup, puV_agg, aprun_ap, erV_ld, hl0, hp0, hn0, hc00, hc01, hc02, hc03, hc04, hl1, hp1, hn1, hc10, hc11, hc12, hc13, hc14, hl3, hp3, hn3, hc30, hc31, hc32, hc33, hc34, aw_add, aw_w0, decide_true, decide_false, go_sem, simprocAttr]
 repeat (rw [gMixV_cons]; simp only [gMixV_nil, gdV_true, gdV_false, kMixV_app, ldV_some, puK_some, puV_none, puV_u, puV_n, puV_b, puV_p, puV_fp, puV_fs, puV_tup, puV_agg, aprun_ap, erV_ld, hl0, hp0, hn0, hc00, hc01, hc02, hc03, hc04, hl1, hp1, hn1, hc10, hc11, hc12, hc13, hc14, hl3, hp3, hn3, hc30, hc31, hc32, hc33, hc34, aw_add, aw_w0, decide_true, decide_false, go_sem, simprocAttr])
 (try simp only [go_sem, simprocAttr])
 iterate 2 (with_reducible refine GA.go mixo rfl ?_; try simp only [go_sem, simprocAttr])
 refine GA.wk (Wk.mk (L := []) (bl := []) [] [] ?_ ?_ ?_) ?_
 ·simp only [WkE, WkH, go_sem, simprocAttr]
  repeat' refine and_of ?_ ?_
  all_goals first | exact wku | skip
 ·exact True.intro
 ·simp
 clear hF hP1 hl0 hp0 hn0 hc00 hc01 hc02 hc03 hc04 hl1 hp1 hn1 hc10 hc11 hc12 hc13 hc14 hl3 hp3 hn3 hc30 hc31 hc32 hc33 hc34
 repeat (first | (with_reducible refine GA.go mixo rfl ?_) | simp only [go_sem, simprocAttr])
 refine gcall_has [] (.cons (.rfl rfl) (.cons (.rfl rfl) (.cons (.rfl rfl) (.cons (.rfl rfl) (.cons (.rfl rfl) .nil))))) (i_has _ _ _ _ _) (by simp only [go_sem, simprocAttr]) ?_
 simp only [insV, go_sem, simprocAttr]
 refine gcall_has [] (.cons (.rfl rfl) (.cons (.rfl rfl) (.cons (.rfl rfl) (.cons (.rfl rfl) (.cons (.rfl rfl) .nil))))) (i_has _ _ _ _ _) (by simp only [go_sem, simprocAttr]) ?_
 simp only [insV, go_sem, simprocAttr]
 refine gcall_has [] (.cons (.rfl rfl) (.cons (.rfl rfl) (.cons (.rfl rfl) (.cons (.rfl rfl) (.cons (.rfl rfl) .nil))))) (i_has _ _ _ _ _) (by simp only [go_sem, simprocAttr]) ?_
 simp only [insV, go_sem, simprocAttr]
 refine gcall_has [] (.cons (.rfl rfl) (.cons (.rfl rfl) (.cons (.rfl rfl) (.cons (.rfl rfl) (.cons (.rfl rfl) .nil))))) (i_has _ _ _ _ _) (by simp only [go_sem, simprocAttr]) ?_
 simp only [insV, go_sem, simprocAttr]
 refine gcall_has [] (.cons (.rfl rfl) (.cons (.rfl rfl) (.cons (.rfl rfl) (.cons (.rfl rfl) (.cons (.rfl rfl) .nil))))) (i_has _ _ _ _ _) (by simp only [go_sem, simprocAttr]) ?_
 simp only [insV, go_sem, simprocAttr]
 refine gcall_has [0] (fargs := [.fs 5 awThree.length (cC awThree)]) (.cons (.sl (x := _) (by simp) (by simp only [go_sem, simprocAttr] <;> rfl) (by simp only [awThree, go_sem, simprocAttr] <;> decide) (by decide) (by simp only [go_sem, simprocAttr] <;> decide) (fun i j hi hj => ?_) (fun i j _ hj => cC_cell i hj)) .nil) code_has (by simp only [go_sem, simprocAttr]) ?_
 ·rcases lt_5 hi with rfl | rfl | rfl | rfl | rfl <;> rcases lt5 hj with rfl | rfl | rfl | rfl | rfl <;> rfl
 simp only [codeV, insV, go_sem, simprocAttr]
 refine GA.wk (Wk.mk (L := [(11, .p 0 0)]) (bl := [lstB 0 25 (awV awThree)]) [1] [] ?_ ?_ ?_) ?_
 ·simp only [WkE, WkH, go_sem, simprocAttr]
  repeat' refine and_of ?_ ?_
  all_goals first | exact wku | skip
 ·exact .cons rfl (.lsti (x := _) (by simp only [go_sem, simprocAttr] <;> rfl) (by rfl) (by rfl) (by rfl) (by rfl) (by rfl) (by rfl) (by simp) (fun i hi => by rcases lt4a hi with rfl | rfl | rfl | rfl <;> (simp only [awV, go_sem, simprocAttr]; first | done | rfl)) (by rfl)) (.nil)
 ·simp
 have hF := awS
 have hP1 := awO
 simp only [codeV] at hF hP1
 repeat (first | (with_reducible refine GA.go mixo rfl ?_) | simp only [go_sem, simprocAttr])
 refine gcall_has [] (.cons (.rfl (by rfl)) .nil) hF (by simp only [go_sem, simprocAttr]) ?_
 simp only [codeV, go_sem, simprocAttr]
 refine GA.wk (Wk.mk (L := [(11, .p 0 0), (12, .p 1 0), (3, .n .i64 0)]) (bl := [lstB 0 25 (awV awThreeS), lstB 0 25 (awV awThree)]) [1, 0] [] ?_ ?_ ?_) ?_
 ·simp only [WkE, WkH, go_sem, simprocAttr]
  repeat' refine and_of ?_ ?_
  all_goals first | exact wku | skip
 ·exact .cons rfl (.lsti (x := _) (by simp only [go_sem, simprocAttr] <;> rfl) (by rfl) (by rfl) (by rfl) (by rfl) (by rfl) (by rfl) (by simp) (fun i hi => by rcases lt4a hi with rfl | rfl | rfl | rfl <;> (simp only [awV, go_sem, simprocAttr]; first | done | rfl)) (by rfl)) (.cons rfl (.lsti (x := _) (by simp only [go_sem, simprocAttr] <;> rfl) (by rfl) (by rfl) (by rfl) (by rfl) (by rfl) (by rfl) (by simp) (fun i hi => by rcases lt4a hi with rfl | rfl | rfl | rfl <;> (simp only [awV, go_sem, simprocAttr]; first | done | rfl)) (by rfl)) (.nil))
 ·simp
 repeat (first | (with_reducible refine GA.go mixo rfl ?_) | simp only [go_sem, simprocAttr])
 refine gcall_has [] (.cons (.rfl (by rfl)) .nil) hP1 (by simp only [go_sem, simprocAttr]) ?_
 simp only [codeV, go_sem, simprocAttr]
 refine GA.wk (Wk.mk (L := [(11, .p 0 0), (12, .p 1 0), (13, .p 2 0), (3, .n .i64 0), (5, .n .i64 0)]) (bl := [lstB 0 25 (awV awThreeT), lstB 0 25 (awV awThreeS), lstB 0 25 (awV awThree)]) [2, 1, 0] [] ?_ ?_ ?_) ?_
 ·simp only [WkE, WkH, go_sem, simprocAttr]
  repeat' refine and_of ?_ ?_
  all_goals first | exact wku | skip
 ·exact .cons rfl (.lsti (x := _) (by simp only [go_sem, simprocAttr] <;> rfl) (by rfl) (by rfl) (by rfl) (by rfl) (by rfl) (by rfl) (by simp) (fun i hi => by rcases lt4a hi with rfl | rfl | rfl | rfl <;> (simp only [awV, go_sem, simprocAttr]; first | done | rfl)) (by rfl)) (.cons rfl (.lsti (x := _) (by simp only [go_sem, simprocAttr] <;> rfl) (by rfl) (by rfl) (by rfl) (by rfl) (by rfl) (by rfl) (by simp) (fun i hi => by rcases lt4a hi with rfl | rfl | rfl | rfl <;> (simp only [awV, go_sem, simprocAttr]; first | done | rfl)) (by rfl)) (.cons rfl (.lsti (x := _) (by simp only [go_sem, simprocAttr] <;> rfl) (by rfl) (by rfl) (by rfl) (by rfl) (by rfl) (by rfl) (by simp) (fun i hi => by rcases lt4a hi with rfl | rfl | rfl | rfl <;> (simp only [awV, go_sem, simprocAttr]; first | done | rfl)) (by rfl)) (.nil)))
 ·simp
 have hl0 : (0 : Int) < (awThree.length : Int) := by decide
 have hp0 : (0 : Int) ≤ 0 := by decide
 have hn0 : Int.toNat 0 = 0 := rfl
 have hc00 : cC awThree 0 0 = .n .i64 (32) := rfl
 have hc01 : cC awThree 0 1 = .n .i64 (0) := rfl
 have hc02 : cC awThree 0 2 = .n .i64 (-1) := rfl
 have hc03 : cC awThree 0 3 = .n .i64 (-1) := rfl
 have hc04 : cC awThree 0 4 = .n .u32 (0) := rfl
 have hl2 : (2 : Int) < (awThree.length : Int) := by decide
 have hp2 : (0 : Int) ≤ 2 := by decide
 have hn2 : Int.toNat 2 = 2 := rfl
 have hc20 : cC awThree 2 0 = .n .i64 (8) := rfl
 have hc21 : cC awThree 2 1 = .n .i64 (2) := rfl
 have hc22 : cC awThree 2 2 = .n .i64 (0) := rfl
 have hc23 : cC awThree 2 3 = .n .i64 (1) := rfl
 have hc24 : cC awThree 2 4 = .n .u32 (0) := rfl
 have hl4 : (4 : Int) < (awThree.length : Int) := by decide
 have hp4 : (0 : Int) ≤ 4 := by decide
 have hn4 : Int.toNat 4 = 4 := rfl
 have hc40 : cC awThree 4 0 = .n .i64 (34) := rfl
 have hc41 : cC awThree 4 1 = .n .i64 (-1) := rfl
 have hc42 : cC awThree 4 2 = .n .i64 (3) := rfl
 have hc43 : cC awThree 4 3 = .n .i64 (-1) := rfl
 have hc44 : cC awThree 4 4 = .n .u32 (0) := rfl
 have ht : (1 : Nat) = 1 := rfl
 refine GA.cut (envOf [(11, .p 0 0), (12, .p 1 0), (13, .p 2 0), (3, .n .i64 0), (5, .n .i64 0), (14, .p 3 0)]) (heapOf [lstB 0 25 (awV awThreeS), lstB 0 25 (awV awThreeT), lstB 0 25 (awV awThreeS), lstB 0 25 (awV awThree)]) ?_ ?_
 ·refine GA.frkm mixo 3 (by simp only [topL, go_sem, simprocAttr]) ?_
  simp only [hl0, hp0, hn0, hc00, hc01, hc02, hc03, hc04, hl2, hp2, hn2, hc20, hc21, hc22, hc23, hc24, hl4, hp4, hn4, hc40, hc41, hc42, hc43, hc44, aw_add, aw_w0, decide_true, decide_false, go_sem, simprocAttr]
  repeat' with_reducible refine and_of ?_ ?_
  all_goals (refine gcall_has [] (.cons (.rfl rfl) (.cons (.rfl rfl) (.cons (.rfl rfl) (.cons (.rfl rfl) (.cons (.rfl rfl) .nil))))) (i_has _ _ _ _ _) (by simp only [go_sem, simprocAttr]) ?_; simp only [insV, hl0, hp0, hn0, hc00, hc01, hc02, hc03, hc04, hl2, hp2, hn2, hc20, hc21, hc22, hc23, hc24, hl4, hp4, hn4, hc40, hc41, hc42, hc43, hc44, aw_add, aw_w0, decide_true, decide_false, go_sem, simprocAttr]; repeat' with_reducible refine and_of ?_ ?_)
  all_goals (refine gcall_has [] (.cons (.rfl rfl) (.cons (.rfl rfl) (.cons (.rfl rfl) (.cons (.rfl rfl) (.cons (.rfl rfl) .nil))))) (i_has _ _ _ _ _) (by simp only [go_sem, simprocAttr]) ?_; simp only [insV, hl0, hp0, hn0, hc00, hc01, hc02, hc03, hc04, hl2, hp2, hn2, hc20, hc21, hc22, hc23, hc24, hl4, hp4, hn4, hc40, hc41, hc42, hc43, hc44, aw_add, aw_w0, decide_true, decide_false, go_sem, simprocAttr]; repeat' with_reducible refine and_of ?_ ?_)
  ·refine gcall_has [3] (fargs := [.fs 5 awThreeS.length (cC awThreeS)]) (.cons (.sl (x := _) (by simp) (by simp only [go_sem, simprocAttr] <;> rfl) (by simp only [go_sem, simprocAttr] <;> decide) (by decide) (by simp only [go_sem, simprocAttr] <;> decide) (fun i j hi hj => by rcases lt_5 hi with rfl | rfl | rfl | rfl | rfl <;> rcases lt5 hj with rfl | rfl | rfl | rfl | rfl <;> rfl) (fun i j _ hj => cC_cell i hj)) .nil) code_has (by simp only [go_sem, simprocAttr]) ?_
   simp only [codeV, insV, hl0, hp0, hn0, hc00, hc01, hc02, hc03, hc04, hl2, hp2, hn2, hc20, hc21, hc22, hc23, hc24, hl4, hp4, hn4, hc40, hc41, hc42, hc43, hc44, aw_add, aw_w0, decide_true, decide_false, go_sem, simprocAttr]
   repeat' with_reducible refine and_of ?_ ?_
   all_goals try decide
   refine Wk.mk [4, 2, 1, 0] [] ?_ ?_ (by simp)
   ·simp only [WkE, WkH, go_sem, simprocAttr]
    repeat' refine and_of ?_ ?_
    all_goals first | exact wku | skip
   ·exact .cons rfl (.lsti (x := _) (by simp only [go_sem, simprocAttr] <;> rfl) (by rfl) (by rfl) (by rfl) (by rfl) (by rfl) (by rfl) (by simp) (fun i hi => by rcases lt4a hi with rfl | rfl | rfl | rfl <;> (simp only [awV, go_sem, simprocAttr]; first | done | rfl)) (by rfl)) (.cons rfl (.lsti (x := _) (by simp only [go_sem, simprocAttr] <;> rfl) (by rfl) (by rfl) (by rfl) (by rfl) (by rfl) (by rfl) (by simp) (fun i hi => by rcases lt4a hi with rfl | rfl | rfl | rfl <;> (simp only [awV, go_sem, simprocAttr]; first | done | rfl)) (by rfl)) (.cons rfl (.lsti (x := _) (by simp only [go_sem, simprocAttr] <;> rfl) (by rfl) (by rfl) (by rfl) (by rfl) (by rfl) (by rfl) (by simp) (fun i hi => by rcases lt4a hi with rfl | rfl | rfl | rfl <;> (simp only [awV, go_sem, simprocAttr]; first | done | rfl)) (by rfl)) (.cons rfl (.lsti (x := _) (by simp only [go_sem, simprocAttr] <;> rfl) (by rfl) (by rfl) (by rfl) (by rfl) (by rfl) (by rfl) (by simp) (fun i hi => by rcases lt4a hi with rfl | rfl | rfl | rfl <;> (simp only [awV, go_sem, simprocAttr]; first | done | rfl)) (by rfl)) .nil)))
  ·refine gcall_has [3] (fargs := [.fs 5 awThreeS.length (cC awThreeS)]) (.cons (.sl (x := _) (by simp) (by simp only [go_sem, simprocAttr] <;> rfl) (by simp only [go_sem, simprocAttr] <;> decide) (by decide) (by simp only [go_sem, simprocAttr] <;> decide) (fun i j hi hj => by rcases lt_5 hi with rfl | rfl | rfl | rfl | rfl <;> rcases lt5 hj with rfl | rfl | rfl | rfl | rfl <;> rfl) (fun i j _ hj => cC_cell i hj)) .nil) code_has (by simp only [go_sem, simprocAttr]) ?_
   simp only [codeV, insV, hl0, hp0, hn0, hc00, hc01, hc02, hc03, hc04, hl2, hp2, hn2, hc20, hc21, hc22, hc23, hc24, hl4, hp4, hn4, hc40, hc41, hc42, hc43, hc44, aw_add, aw_w0, decide_true, decide_false, go_sem, simprocAttr]
   repeat' with_reducible refine and_of ?_ ?_
   all_goals try decide
   refine Wk.mk [4, 2, 1, 0] [] ?_ ?_ (by simp)
   ·simp only [WkE, WkH, go_sem, simprocAttr]
    repeat' refine and_of ?_ ?_
    all_goals first | exact wku | skip
   ·exact .cons rfl (.lsti (x := _) (by simp only [go_sem, simprocAttr] <;> rfl) (by rfl) (by rfl) (by rfl) (by rfl) (by rfl) (by rfl) (by simp) (fun i hi => by rcases lt4a hi with rfl | rfl | rfl | rfl <;> (simp only [awV, go_sem, simprocAttr]; first | done | rfl)) (by rfl)) (.cons rfl (.lsti (x := _) (by simp only [go_sem, simprocAttr] <;> rfl) (by rfl) (by rfl) (by rfl) (by rfl) (by rfl) (by rfl) (by simp) (fun i hi => by rcases lt4a hi with rfl | rfl | rfl | rfl <;> (simp only [awV, go_sem, simprocAttr]; first | done | rfl)) (by rfl)) (.cons rfl (.lsti (x := _) (by simp only [go_sem, simprocAttr] <;> rfl) (by rfl) (by rfl) (by rfl) (by rfl) (by rfl) (by rfl) (by simp) (fun i hi => by rcases lt4a hi with rfl | rfl | rfl | rfl <;> (simp only [awV, go_sem, simprocAttr]; first | done | rfl)) (by rfl)) (.cons rfl (.lsti (x := _) (by simp only [go_sem, simprocAttr] <;> rfl) (by rfl) (by rfl) (by rfl) (by rfl) (by rfl) (by rfl) (by simp) (fun i hi => by rcases lt4a hi with rfl | rfl | rfl | rfl <;> (simp only [awV, go_sem, simprocAttr]; first | done | rfl)) (by rfl)) .nil)))
  ·refine gcall_has [4] (fargs := [.fs 5 awThreeS.length (cC awThreeS)]) (.cons (.sl (x := _) (by simp) (by simp only [go_sem, simprocAttr] <;> rfl) (by simp only [go_sem, simprocAttr] <;> decide) (by decide) (by simp only [go_sem, simprocAttr] <;> decide) (fun i j hi hj => by rcases lt_5 hi with rfl | rfl | rfl | rfl | rfl <;> rcases lt5 hj with rfl | rfl | rfl | rfl | rfl <;> rfl) (fun i j _ hj => cC_cell i hj)) .nil) code_has (by simp only [go_sem, simprocAttr]) ?_
   simp only [codeV, insV, hl0, hp0, hn0, hc00, hc01, hc02, hc03, hc04, hl2, hp2, hn2, hc20, hc21, hc22, hc23, hc24, hl4, hp4, hn4, hc40, hc41, hc42, hc43, hc44, aw_add, aw_w0, decide_true, decide_false, go_sem, simprocAttr]
   repeat' with_reducible refine and_of ?_ ?_
   all_goals try decide
   refine Wk.mk [3, 2, 1, 0] [] ?_ ?_ (by simp)
   ·simp only [WkE, WkH, go_sem, simprocAttr]
    repeat' refine and_of ?_ ?_
    all_goals first | exact wku | skip
   ·exact .cons rfl (.lsti (x := _) (by simp only [go_sem, simprocAttr] <;> rfl) (by rfl) (by rfl) (by rfl) (by rfl) (by rfl) (by rfl) (by simp) (fun i hi => by rcases lt4a hi with rfl | rfl | rfl | rfl <;> (simp only [awV, go_sem, simprocAttr]; first | done | rfl)) (by rfl)) (.cons rfl (.lsti (x := _) (by simp only [go_sem, simprocAttr] <;> rfl) (by rfl) (by rfl) (by rfl) (by rfl) (by rfl) (by rfl) (by simp) (fun i hi => by rcases lt4a hi with rfl | rfl | rfl | rfl <;> (simp only [awV, go_sem, simprocAttr]; first | done | rfl)) (by rfl)) (.cons rfl (.lsti (x := _) (by simp only [go_sem, simprocAttr] <;> rfl) (by rfl) (by rfl) (by rfl) (by rfl) (by rfl) (by rfl) (by simp) (fun i hi => by rcases lt4a hi with rfl | rfl | rfl | rfl <;> (simp only [awV, go_sem, simprocAttr]; first | done | rfl)) (by rfl)) (.cons rfl (.lsti (x := _) (by simp only [go_sem, simprocAttr] <;> rfl) (by rfl) (by rfl) (by rfl) (by rfl) (by rfl) (by rfl) (by simp) (fun i hi => by rcases lt4a hi with rfl | rfl | rfl | rfl <;> (simp only [awV, go_sem, simprocAttr]; first | done | rfl)) (by rfl)) .nil)))
  ·refine gcall_has [4] (fargs := [.fs 5 awThreeS.length (cC awThreeS)]) (.cons (.sl (x := _) (by simp) (by simp only [go_sem, simprocAttr] <;> rfl) (by simp only [go_sem, simprocAttr] <;> decide) (by decide) (by simp only [go_sem, simprocAttr] <;> decide) (fun i j hi hj => by rcases lt_5 hi with rfl | rfl | rfl | rfl | rfl <;> rcases lt5 hj with rfl | rfl | rfl | rfl | rfl <;> rfl) (fun i j _ hj => cC_cell i hj)) .nil) code_has (by simp only [go_sem, simprocAttr]) ?_
   simp only [codeV, insV, hl0, hp0, hn0, hc00, hc01, hc02, hc03, hc04, hl2, hp2, hn2, hc20, hc21, hc22, hc23, hc24, hl4, hp4, hn4, hc40, hc41, hc42, hc43, hc44, aw_add, aw_w0, decide_true, decide_false, go_sem, simprocAttr]
   repeat' with_reducible refine and_of ?_ ?_
   all_goals try decide
   refine Wk.mk [3, 2, 1, 0] [] ?_ ?_ (by simp)
   ·simp only [WkE, WkH, go_sem, simprocAttr]
    repeat' refine and_of ?_ ?_
    all_goals first | exact wku | skip
   ·exact .cons rfl (.lsti (x := _) (by simp only [go_sem, simprocAttr] <;> rfl) (by rfl) (by rfl) (by rfl) (by rfl) (by rfl) (by rfl) (by simp) (fun i hi => by rcases lt4a hi with rfl | rfl | rfl | rfl <;> (simp only [awV, go_sem, simprocAttr]; first | done | rfl)) (by rfl)) (.cons rfl (.lsti (x := _) (by simp only [go_sem, simprocAttr] <;> rfl) (by rfl) (by rfl) (by rfl) (by rfl) (by rfl) (by rfl) (by simp) (fun i hi => by rcases lt4a hi with rfl | rfl | rfl | rfl <;> (simp only [awV, go_sem, simprocAttr]; first | done | rfl)) (by rfl)) (.cons rfl (.lsti (x := _) (by simp only [go_sem, simprocAttr] <;> rfl) (by rfl) (by rfl) (by rfl) (by rfl) (by rfl) (by rfl) (by simp) (fun i hi => by rcases lt4a hi with rfl | rfl | rfl | rfl <;> (simp only [awV, go_sem, simprocAttr]; first | done | rfl)) (by rfl)) (.cons rfl (.lsti (x := _) (by simp only [go_sem, simprocAttr] <;> rfl) (by rfl) (by rfl) (by rfl) (by rfl) (by rfl) (by rfl) (by simp) (fun i hi => by rcases lt4a hi with rfl | rfl | rfl | rfl <;> (simp only [awV, go_sem, simprocAttr]; first | done | rfl)) (by rfl)) .nil)))
  ·refine gcall_has [4] (fargs := [.fs 5 awThreeS.length (cC awThreeS)]) (.cons (.sl (x := _) (by simp) (by simp only [go_sem, simprocAttr] <;> rfl) (by simp only [go_sem, simprocAttr] <;> decide) (by decide) (by simp only [go_sem, simprocAttr] <;> decide) (fun i j hi hj => by rcases lt_5 hi with rfl | rfl | rfl | rfl | rfl <;> rcases lt5 hj with rfl | rfl | rfl | rfl | rfl <;> rfl) (fun i j _ hj => cC_cell i hj)) .nil) code_has (by simp only [go_sem, simprocAttr]) ?_
   simp only [codeV, insV, hl0, hp0, hn0, hc00, hc01, hc02, hc03, hc04, hl2, hp2, hn2, hc20, hc21, hc22, hc23, hc24, hl4, hp4, hn4, hc40, hc41, hc42, hc43, hc44, aw_add, aw_w0, decide_true, decide_false, go_sem, simprocAttr]
   repeat' with_reducible refine and_of ?_ ?_
   all_goals try decide
   refine Wk.mk [3, 2, 1, 0] [] ?_ ?_ (by simp)
   ·simp only [WkE, WkH, go_sem, simprocAttr]
    repeat' refine and_of ?_ ?_
    all_goals first | exact wku | skip
   ·exact .cons rfl (.lsti (x := _) (by simp only [go_sem, simprocAttr] <;> rfl) (by rfl) (by rfl) (by rfl) (by rfl) (by rfl) (by rfl) (by simp) (fun i hi => by rcases lt4a hi with rfl | rfl | rfl | rfl <;> (simp only [awV, go_sem, simprocAttr]; first | done | rfl)) (by rfl)) (.cons rfl (.lsti (x := _) (by simp only [go_sem, simprocAttr] <;> rfl) (by rfl) (by rfl) (by rfl) (by rfl) (by rfl) (by rfl) (by simp) (fun i hi => by rcases lt4a hi with rfl | rfl | rfl | rfl <;> (simp only [awV, go_sem, simprocAttr]; first | done | rfl)) (by rfl)) (.cons rfl (.lsti (x := _) (by simp only [go_sem, simprocAttr] <;> rfl) (by rfl) (by rfl) (by rfl) (by rfl) (by rfl) (by rfl) (by simp) (fun i hi => by rcases lt4a hi with rfl | rfl | rfl | rfl <;> (simp only [awV, go_sem, simprocAttr]; first | done | rfl)) (by rfl)) (.cons rfl (.lsti (x := _) (by simp only [go_sem, simprocAttr] <;> rfl) (by rfl) (by rfl) (by rfl) (by rfl) (by rfl) (by rfl) (by simp) (fun i hi => by rcases lt4a hi with rfl | rfl | rfl | rfl <;> (simp only [awV, go_sem, simprocAttr]; first | done | rfl)) (by rfl)) .nil)))
 with_reducible refine GA.seq ?_
 with_reducible refine GA.mixv mixo ?_ ?_
 ·rfl
 try simp only [gMixV_nil, gdV_true, gdV_false, kMixV_app, ldV_some, puK_some, puV_none, puV_u, puV_n, puV_b, puV_p, puV_fp, puV_fs, puV_tup, puV_agg, aprun_ap, erV_ld, hl0, hp0, hn0, hc00, hc01, hc02, hc03, hc04, hl2, hp2, hn2, hc20, hc21, hc22, hc23, hc24, hl4, hp4, hn4, hc40, hc41, hc42, hc43, hc44, aw_add, aw_w0, decide_true, decide_false, go_sem, simprocAttr]
 repeat (rw [gMixV_cons]; simp only [gMixV_nil, gdV_true, gdV_false, kMixV_app, ldV_some, puK_some, puV_none, puV_u, puV_n, puV_b, puV_p, puV_fp, puV_fs, puV_tup, puV_agg, aprun_ap, erV_ld, hl0, hp0, hn0, hc00, hc01, hc02, hc03, hc04, hl2, hp2, hn2, hc20, hc21, hc22, hc23, hc24, hl4, hp4, hn4, hc40, hc41, hc42, hc43, hc44, aw_add, aw_w0, decide_true, decide_false, go_sem, simprocAttr])
 refine gcall_has [] (.cons (.rfl (by rfl)) (.cons (.rfl (by rfl)) .nil)) (by have := awSame awThreeS (by decide); simp only [codeV] at this; exact this) (by simp only [go_sem, simprocAttr]) ?_
 try simp only [gMixV_nil, gdV_true, gdV_false, kMixV_app, ldV_some, puK_some, puV_none, puV_u, puV_n, puV_b, puV_p, puV_fp, puV_fs, puV_tup, puV_agg, aprun_ap, erV_ld, hl0, hp0, hn0, hc00, hc01, hc02, hc03, hc04, hl2, hp2, hn2, hc20, hc21, hc22, hc23, hc24, hl4, hp4, hn4, hc40, hc41, hc42, hc43, hc44, aw_add, aw_w0, decide_true, decide_false, go_sem, simprocAttr]
 repeat (rw [gMixV_cons]; simp only [gMixV_nil, gdV_true, gdV_false, kMixV_app, ldV_some, puK_some, puV_none, puV_u, puV_n, puV_b, puV_p, puV_fp, puV_fs, puV_tup, puV_agg, aprun_ap, erV_ld, hl0, hp0, hn0, hc00, hc01, hc02, hc03, hc04, hl2, hp2, hn2, hc20, hc21, hc22, hc23, hc24, hl4, hp4, hn4, hc40, hc41, hc42, hc43, hc44, aw_add, aw_w0, decide_true, decide_false, go_sem, simprocAttr])
 refine gcall_has [] (.cons (.rfl rfl) (.cons (.rfl rfl) (.cons (.rfl rfl) (.cons (.rfl rfl) (.cons (.rfl rfl) .nil))))) (i_has _ _ _ _ _) (by simp only [go_sem, simprocAttr]) ?_
 simp only [insV, gMixV_nil, gdV_true, gdV_false, kMixV_app, ldV_some, puK_some, puV_none, puV_u, puV_n, puV_b, puV_p, puV_fp, puV_fs, puV_tup, puV_agg, aprun_ap, erV_ld, hl0, hp0, hn0, hc00, hc01, hc02, hc03, hc04, hl2, hp2, hn2, hc20, hc21, hc22, hc23, hc24, hl4, hp4, hn4, hc40, hc41, hc42, hc43, hc44, aw_add, aw_w0, decide_true, decide_false, go_sem, simprocAttr]
 try simp only [gMixV_nil, gdV_true, gdV_false, kMixV_app, ldV_some, puK_some, puV_none, puV_u, puV_n, puV_b, puV_p, puV_fp, puV_fs, puV_tup, puV_agg, aprun_ap, erV_ld, hl0, hp0, hn0, hc00, hc01, hc02, hc03, hc04, hl2, hp2, hn2, hc20, hc21, hc22, hc23, hc24, hl4, hp4, hn4, hc40, hc41, hc42, hc43, hc44, aw_add, aw_w0, decide_true, decide_false, go_sem, simprocAttr]
 repeat (rw [gMixV_cons]; simp only [gMixV_nil, gdV_true, gdV_false, kMixV_app, ldV_some, puK_some, puV_none, puV_u, puV_n, puV_b, puV_p, puV_fp, puV_fs, puV_tup, puV_agg, aprun_ap, erV_ld, hl0, hp0, hn0, hc00, hc01, hc02, hc03, hc04, hl2, hp2, hn2, hc20, hc21, hc22, hc23, hc24, hl4, hp4, hn4, hc40, hc41, hc42, hc43, hc44, aw_add, aw_w0, decide_true, decide_false, go_sem, simprocAttr])
 refine gcall_has [] (.cons (.rfl rfl) (.cons (.rfl rfl) (.cons (.rfl rfl) (.cons (.rfl rfl) (.cons (.rfl rfl) .nil))))) (i_has _ _ _ _ _) (by simp only [go_sem, simprocAttr]) ?_
 simp only [insV, gMixV_nil, gdV_true, gdV_false, kMixV_app, ldV_some, puK_some, puV_none, puV_u, puV_n, puV_b, puV_p, puV_fp, puV_fs, puV_tup, puV_agg, aprun_ap, erV_ld, hl0, hp0, hn0, hc00, hc01, hc02, hc03, hc04, hl2, hp2, hn2, hc20, hc21, hc22, hc23, hc24, hl4, hp4, hn4, hc40, hc41, hc42, hc43, hc44, aw_add, aw_w0, decide_true, decide_false, go_sem, simprocAttr]
 try simp only [gMixV_nil, gdV_true, gdV_false, kMixV_app, ldV_some, puK_some, puV_none, puV_u, puV_n, puV_b, puV_p, puV_fp, puV_fs, puV_tup, puV_agg, aprun_ap, erV_ld, hl0, hp0, hn0, hc00, hc01, hc02, hc03, hc04, hl2, hp2, hn2, hc20, hc21, hc22, hc23, hc24, hl4, hp4, hn4, hc40, hc41, hc42, hc43, hc44, aw_add, aw_w0, decide_true, decide_false, go_sem, simprocAttr]
 repeat (rw [gMixV_cons]; simp only [gMixV_nil, gdV_true, gdV_false, kMixV_app, ldV_some, puK_some, puV_none, puV_u, puV_n, puV_b, puV_p, puV_fp, puV_fs, puV_tup, puV_agg, aprun_ap, erV_ld, hl0, hp0, hn0, hc00, hc01, hc02, hc03, hc04, hl2, hp2, hn2, hc20, hc21, hc22, hc23, hc24, hl4, hp4, hn4, hc40, hc41, hc42, hc43, hc44, aw_add, aw_w0, decide_true, decide_false, go_sem, simprocAttr])
 refine gcall_has [4] (fargs := [.fs 5 awThreeT.length (cC awThreeT)]) (.cons (.sl (x := _) (by simp) (by simp only [go_sem, simprocAttr] <;> rfl) (by simp only [awThreeT, go_sem, simprocAttr] <;> decide) (by decide) (by simp only [go_sem, simprocAttr] <;> decide) (fun i j hi hj => ?_) (fun i j _ hj => cC_cell i hj)) .nil) code_has (by simp only [go_sem, simprocAttr]) ?_
 ·rcases lt_3 hi with rfl | rfl | rfl <;> rcases lt5 hj with rfl | rfl | rfl | rfl | rfl <;> rfl
 simp only [codeV, insV, gMixV_nil, gdV_true, gdV_false, kMixV_app, ldV_some, puK_some, puV_none, puV_u, puV_n, puV_b, puV_p, puV_fp, puV_fs, puV_tup, puV_agg, aprun_ap, erV_ld, hl0, hp0, hn0, hc00, hc01, hc02, hc03, hc04, hl2, hp2, hn2, hc20, hc21, hc22, hc23, hc24, hl4, hp4, hn4, hc40, hc41, hc42, hc43, hc44, aw_add, aw_w0, decide_true, decide_false, go_sem, simprocAttr]
 try simp only [gMixV_nil, gdV_true, gdV_false, kMixV_app, ldV_some, puK_some, puV_none, puV_u, puV_n, puV_b, puV_p, puV_fp, puV_fs, puV_tup, puV_agg, aprun_ap, erV_ld, hl0, hp0, hn0, hc00, hc01, hc02, hc03, hc04, hl2, hp2, hn2, hc20, hc21, hc22, hc23, hc24, hl4, hp4, hn4, hc40, hc41, hc42, hc43, hc44, aw_add, aw_w0, decide_true, decide_false, go_sem, simprocAttr]
 repeat (rw [gMixV_cons]; simp only [gMixV_nil, gdV_true, gdV_false, kMixV_app, ldV_some, puK_some, puV_none, puV_u, puV_n, puV_b, puV_p, puV_fp, puV_fs, puV_tup, puV_agg, aprun_ap, erV_ld, hl0, hp0, hn0, hc00, hc01, hc02, hc03, hc04, hl2, hp2, hn2, hc20, hc21, hc22, hc23, hc24, hl4, hp4, hn4, hc40, hc41, hc42, hc43, hc44, aw_add, aw_w0, decide_true, decide_false, go_sem, simprocAttr])
 refine gcall_has [] (.cons (.rfl (by rfl)) (.cons (.rfl (by rfl)) .nil)) (by have := awSame awThreeT (by decide); simp only [codeV] at this; exact this) (by simp only [go_sem, simprocAttr]) ?_
 try simp only [gMixV_nil, gdV_true, gdV_false, kMixV_app, ldV_some, puK_some, puV_none, puV_u, puV_n, puV_b, puV_p, puV_fp, puV_fs, puV_tup, puV_agg, aprun_ap, erV_ld, hl0, hp0, hn0, hc00, hc01, hc02, hc03, hc04, hl2, hp2, hn2, hc20, hc21, hc22, hc23, hc24, hl4, hp4, hn4, hc40, hc41, hc42, hc43, hc44, aw_add, aw_w0, decide_true, decide_false, go_sem, simprocAttr]
 repeat (rw [gMixV_cons]; simp only [gMixV_nil, gdV_true, gdV_false, kMixV_app, ldV_some, puK_some, puV_none, puV_u, puV_n, puV_b, puV_p, puV_fp, puV_fs, puV_tup, puV_agg, aprun_ap, erV_ld, hl0, hp0, hn0, hc00, hc01, hc02, hc03, hc04, hl2, hp2, hn2, hc20, hc21, hc22, hc23, hc24, hl4, hp4, hn4, hc40, hc41, hc42, hc43, hc44, aw_add, aw_w0, decide_true, decide_false, go_sem, simprocAttr])
 with_reducible refine GA.ret ?_
 simp only [go_sem, simprocAttr]
 exact has_end1 rfl rfl
end Go.Proofs.YtidhfimbnjaceaaGreat

namespace Go.Proofs.YtidhfimbnjaceaaGreat
open Go.RowKit
set_option linter.unusedVariables false
set_option linter.unusedSimpArgs false
theorem fewFolds {na : Nat} {ra : Nat → Nat → AV} {regs par : Int} {cs : List In} (hf : few24 na regs cs = false) : Has Tryz.prog 3 [codeV na ra regs par cs] [.v (.b true)] := by
 have hw := few24_has na ra regs par cs
 rw [hf] at hw
 refine hasQ_of' mixo x33ok ⟨by simp, by decide⟩ ?_
 simp only [argE, codeV] at hw ⊢
 repeat (first | (with_reducible refine GA.go mixo rfl ?_) | simp only [go_sem, simprocAttr])
 refine gcall_has [] (.cons (.rfl (by rfl)) .nil) hw (by simp only [go_sem, simprocAttr]) ?_
 repeat (first | (with_reducible refine GA.go mixo rfl ?_) | simp only [go_sem, simprocAttr])
 refine gcall_has [] .nil awake_has (by simp only [go_sem, simprocAttr]) ?_
 repeat (first | (with_reducible refine GA.go mixo rfl ?_) | simp only [go_sem, simprocAttr])
 exact has_end1 rfl rfl
theorem fewCopies {na : Nat} {ra : Nat → Nat → AV} {regs par : Int} {cs : List In} (hf : few24 na regs cs = false) : Has Tryz.prog 4 [codeV na ra regs par cs] [.v (.b true)] := by
 have hw := few24_has na ra regs par cs
 rw [hf] at hw
 refine hasQ_of' mixo x50ok ⟨by simp, by decide⟩ ?_
 simp only [argE, codeV] at hw ⊢
 repeat (first | (with_reducible refine GA.go mixo rfl ?_) | simp only [go_sem, simprocAttr])
 refine gcall_has [] (.cons (.rfl (by rfl)) .nil) hw (by simp only [go_sem, simprocAttr]) ?_
 repeat (first | (with_reducible refine GA.go mixo rfl ?_) | simp only [go_sem, simprocAttr])
 refine gcall_has [] .nil awake_has (by simp only [go_sem, simprocAttr]) ?_
 repeat (first | (with_reducible refine GA.go mixo rfl ?_) | simp only [go_sem, simprocAttr])
 exact has_end1 rfl rfl
theorem goodCopies {na : Nat} {ra : Nat → Nat → AV} {regs par : Int} {cs c2 c3 : List In} (hf : few24 na regs cs = true) (hA : Has Tryz.prog 13 [codeV na ra regs par cs] [.v (codeV na ra regs par c2), .v (.n .i64 0)])
  (hB : Has Tryz.prog 14 [codeV na ra regs par cs] [.v (codeV na ra regs par c3), .v (.n .i64 0)]) (hS : Has Tryz.prog 12 [codeV na ra regs par c2, codeV na ra regs par c3] [.v (.b true)]) :
  Has Tryz.prog 4 [codeV na ra regs par cs] [.v (.b true)] := by
 have hw := few24_has na ra regs par cs
 rw [hf] at hw
 refine hasQ_of' mixo x50ok ⟨by simp, by decide⟩ ?_
 simp only [argE, codeV] at hw hA hB hS ⊢
 repeat (first | (with_reducible refine GA.go mixo rfl ?_) | simp only [go_sem, simprocAttr])
 refine gcall_has [] (.cons (.rfl (by rfl)) .nil) hw (by simp only [go_sem, simprocAttr]) ?_
 repeat (first | (with_reducible refine GA.go mixo rfl ?_) | simp only [go_sem, simprocAttr])
 refine gcall_has [] (.cons (.rfl (by rfl)) .nil) hA (by simp only [go_sem, simprocAttr]) ?_
 repeat (first | (with_reducible refine GA.go mixo rfl ?_) | simp only [go_sem, simprocAttr])
 refine gcall_has [] (.cons (.rfl (by rfl)) .nil) hB (by simp only [go_sem, simprocAttr]) ?_
 repeat (first | (with_reducible refine GA.go mixo rfl ?_) | simp only [go_sem, simprocAttr])
 refine gcall_has [] .nil awake_has (by simp only [go_sem, simprocAttr]) ?_
 repeat (first | (with_reducible refine GA.go mixo rfl ?_) | simp only [go_sem, simprocAttr])
 refine gcall_has [] (.cons (.rfl (by rfl)) (.cons (.rfl (by rfl)) .nil)) hS (by simp only [go_sem, simprocAttr]) ?_
 repeat (first | (with_reducible refine GA.go mixo rfl ?_) | simp only [decide_true, go_sem, simprocAttr])
 exact has_end1 rfl rfl
end Go.Proofs.YtidhfimbnjaceaaGreat

namespace Go.Proofs.YtidhfimbnjaceaaGreat
open Go.RowKit
set_option linter.unusedVariables false
structure GSt (K : Type) where
 out : List In
 k : K
 st : List K
def gSw {K : Type} (wo : K → List In → K) (bo : K → K → K) (cs : List In) (pt : List Int) (i : Nat) (op : Int) (k : K) (st : List K) : Option (K × List K) :=
 if op = 27 then some (k, k :: st)
 else if op = 28 then match st with
  |t :: r => some (t, k :: r)
  |[] => none
 else if op = 29 then (if (i : Int) ≤ pt.getD i 0 ∧ pt.getD i 0 ≤ cs.length then some (wo k ((cs.take (pt.getD i 0).toNat).drop i), st) else none)
 else if op = 31 then (if 0 ≤ pt.getD i 0 ∧ pt.getD i 0 ≤ i then
   (if (cs.getD (pt.getD i 0).toNat dIn).1 = 29 then some (wo k ((cs.take i).drop (pt.getD i 0).toNat), st)
   else match st with
    |t :: r => some (bo k t, r)
    |[] => none)
  else none)
 else some (k, st)
def gEnd {K : Type} (F : In → K → K → Option (In × K)) (x : In) (s : GSt K) (q : K × List K) : GSt K := match F x s.k q.1 with
 |some r => ⟨s.out ++ [r.1], r.2, q.2⟩
 |none => ⟨s.out, q.1, q.2⟩
def gStep {K : Type} (wo : K → List In → K) (bo : K → K → K) (F : In → K → K → Option (In × K)) (cs : List In) (pt : List Int) (i : Nat) (x : In) (s : GSt K) : Option (GSt K) :=
 (gSw wo bo cs pt i x.1 s.k s.st).map (gEnd F x s)
def gGo {K : Type} (wo : K → List In → K) (bo : K → K → K) (F : In → K → K → Option (In × K)) (cs : List In) (pt : List Int) : List In → Nat → GSt K → Option (GSt K)
 |[], _, s => some s
 |x :: l, i, s => (gStep wo bo F cs pt i x s).bind (gGo wo bo F cs pt l (i + 1))
theorem goS_g {K : Type} (wo : K → List In → K) (bo : K → K → K) (F : In → K → K → Option (In × K)) (cs : List In) (pt : List Int) : ∀ (l : List In) (i : Nat) (s : GSt K), gGo wo bo F cs pt l i s = goS (gStep wo bo F cs pt) l i s
 |[], i, s => rfl
 |x :: l, i, s => by
  unfold gGo goS
  congr 1
  funext s
  exact goS_g wo bo F cs pt l (i + 1) s
def isStr (op : Int) : Prop := op = 27 ∨ op = 28 ∨ op = 29 ∨ op = 31
structure GR {F K : Type} (R : List F → K → Prop) (d : Nat) (s : WSt F) (r : GSt K) : Prop where
 out : s.out = r.out
 k : R s.fs r.k
 d : s.op.length = d
 st : All2 R s.op r.st
variable {F K : Type} {R : List F → K → Prop} {D : In → F → Bool} {E : F → F → Bool} {V : In → List F → In × Bool × List F} {wo : K → List In → K} {bo : K → K → K} {Fi : In → K → K → Option (In × K)} {cs : List In} {pt : List Int}
theorem sw_step {i d d' : Nat} {x : In} {fs : List F} {op : List (List F)} {k : K} {st : List K}
  (hwo : ∀ fs k xs, (∀ x ∈ xs, x ∈ cs) → R fs k → R (woF D fs xs) (wo k xs)) (hbo : ∀ fs k t k2, R fs k → R t k2 → R (boF E fs t) (bo k k2))
  (hs : shStep cs pt i x.1 d = some d') (h3 : R fs k) (h4 : op.length = d) (h5 : All2 R op st) :
  ∃ q1 q2, walkSw D E cs pt i x.1 fs op = some q1 ∧ gSw wo bo cs pt i x.1 k st = some q2 ∧ R q1.1 q2.1 ∧ q1.2.length = d' ∧ All2 R q1.2 q2.2 ∧ (isStr x.1 ∨ (q1 = (fs, op) ∧ q2 = (k, st) ∧ d' = d)) := by
 have sub1 : ∀ a b, ∀ x ∈ (cs.take a).drop b, x ∈ cs := fun a b x hx => List.mem_of_mem_take (List.mem_of_mem_drop hx)
 unfold shStep at hs
 unfold walkSw gSw isStr
 by_cases c27 : x.1 = 27
 ·rw [if_pos c27] at hs ⊢
  rw [if_pos c27]
  cases hs
  exact ⟨_, _, rfl, rfl, h3, by simp [h4], .cons h3 h5, .inl (.inl c27)⟩
 rw [if_neg c27] at hs ⊢
 rw [if_neg c27]
 by_cases c28 : x.1 = 28
 ·rw [if_pos c28] at hs ⊢
  rw [if_pos c28]
  split at hs
  rotate_left
  ·cases hs
  cases hs
  cases h5 with
  |nil => simp at h4; omega
  |@cons t k r r2 ht hr => exact ⟨_, _, rfl, rfl, ht, by simpa using h4, .cons h3 hr, .inl (.inr (.inl c28))⟩
 rw [if_neg c28] at hs ⊢
 rw [if_neg c28]
 by_cases c29 : x.1 = 29
 ·rw [if_pos c29] at hs ⊢
  rw [if_pos c29]
  split at hs
  rotate_left
  ·cases hs
  rename_i hp
  cases hs
  rw [if_pos hp, if_pos hp]
  exact ⟨_, _, rfl, rfl, hwo _ _ _ (sub1 _ _) h3, h4, h5, .inl (.inr (.inr (.inl c29)))⟩
 rw [if_neg c29] at hs ⊢
 rw [if_neg c29]
 by_cases c31 : x.1 = 31
 ·rw [if_pos c31] at hs ⊢
  rw [if_pos c31]
  split at hs
  rotate_left
  ·cases hs
  rename_i hp
  rw [if_pos hp, if_pos hp]
  split at hs
  ·rename_i hb
   cases hs
   rw [if_pos hb, if_pos hb]
   exact ⟨_, _, rfl, rfl, hwo _ _ _ (sub1 _ _) h3, h4, h5, .inl (.inr (.inr (.inr c31)))⟩
  ·rename_i hb
   rw [if_neg hb, if_neg hb]
   split at hs
   rotate_left
   ·cases hs
   cases hs
   cases h5 with
   |nil => simp at h4; omega
   |@cons t k r r2 ht hr => exact ⟨_, _, rfl, rfl, hbo _ _ _ _ h3 ht, by simp at h4 ⊢; omega, hr, .inl (.inr (.inr (.inr c31)))⟩
 rw [if_neg c31] at hs ⊢
 rw [if_neg c31]
 cases hs
 exact ⟨_, _, rfl, rfl, h3, h4, h5, .inr ⟨rfl, rfl, rfl⟩⟩
theorem walk_same {fs0 : List F} {k0 : K}
  (hwo : ∀ fs k xs, (∀ x ∈ xs, x ∈ cs) → R fs k → R (woF D fs xs) (wo k xs)) (hbo : ∀ fs k t k2, R fs k → R t k2 → R (boF E fs t) (bo k k2))
  (hv : ∀ x ∈ cs, ∀ fs k fs' k', R fs k → R fs' k' → (isStr x.1 ∨ (fs' = fs ∧ k' = k)) →
   if (V x fs).2.1 = true then ∃ k2, Fi x k k' = some ((V x fs).1, k2) ∧ R (woF D fs' [(V x fs).1] ++ (V x fs).2.2) k2 else Fi x k k' = none ∧ ¬ isStr x.1)
  (h0 : R fs0 k0) (hsh : shGo cs pt cs.length 0 0 = some 0) :
  ∃ a b, walkGo D E V cs pt cs 0 ⟨[], fs0, []⟩ = some a ∧ gGo wo bo Fi cs pt cs 0 ⟨[], k0, []⟩ = some b ∧ a.out = b.out := by
 obtain ⟨a, b, e1, e2, hR⟩ := lock (cs := cs) (pt := pt) (f1 := walkStep D E V cs pt) (f2 := gStep wo bo Fi cs pt) (fun i d s r => GR R d s r) (fun i d d' s1 s2 hi hs hR => by
   have hmem : cs.getD i dIn ∈ cs := by rw [List.getD_eq_getElem?_getD, List.getElem?_eq_getElem hi]; exact List.getElem_mem _
   generalize cs.getD i dIn = x at hs hmem ⊢
   obtain ⟨out, fs, op⟩ := s1
   obtain ⟨rout, k, st⟩ := s2
   obtain ⟨h1, h3, h4, h5⟩ := hR
   simp only at h1 h3 h4 h5
   obtain ⟨q1, q2, g1, g2, g3, g4, g5, g6⟩ := sw_step (D := D) (E := E) (wo := wo) (bo := bo) hwo hbo hs h3 h4 h5
   have hv := hv x hmem fs k q1.1 q2.1 h3 g3 (g6.imp id fun g => by rw [g.1, g.2.1]; exact ⟨rfl, rfl⟩)
   unfold walkStep gStep
   simp only
   rw [g1, g2]
   by_cases hr : (V x fs).2.1 = true
   ·rw [if_pos hr] at hv ⊢
    obtain ⟨k2, e1, e2⟩ := hv
    refine ⟨_, _, rfl, rfl, ?_⟩
    unfold gEnd
    simp only
    rw [e1]
    exact ⟨by rw [h1], e2, g4, g5⟩
   ·rw [if_neg hr] at hv ⊢
    rcases g6 with g6 | ⟨rfl, rfl, rfl⟩
    ·exact absurd g6 hv.2
    refine ⟨_, _, rfl, rfl, ?_⟩
    unfold gEnd
    simp only
    rw [hv.1]
    exact ⟨h1, h3, h4, h5⟩) cs.length 0 0 0 ⟨[], fs0, []⟩ ⟨[], k0, []⟩ (by omega) hsh ⟨rfl, h0, rfl, .nil⟩
 rw [List.drop_zero] at e1 e2
 exact ⟨a, b, by rw [goS_walk]; exact e1, by rw [goS_g]; exact e2, hR.out⟩
end Go.Proofs.YtidhfimbnjaceaaGreat

namespace Go.Proofs.YtidhfimbnjaceaaGreat
open Go.RowKit
set_option linter.unusedVariables false
def SR (regs : Nat) (fs : List (Int × Int)) (l : Nat → Int) : Prop := (∀ r s, (r, s) ∈ fs ↔ ∃ q : Nat, r = (q : Int) ∧ q < regs ∧ 0 ≤ l q ∧ l q = s) ∧ ∀ q, q < regs → l q < regs
theorem srcI_spec : ∀ (fs : List (Int × Int)) (r : Int), (∃ f ∈ fs, f.1 = r ∧ srcI fs r = f.2) ∨ ((∀ f ∈ fs, f.1 ≠ r) ∧ srcI fs r = r)
 |[], r => .inr ⟨fun f hf => (by cases hf), rfl⟩
 |f :: l, r => by
  rw [srcI]
  by_cases h : f.1 = r
  ·rw [if_pos h]; exact .inl ⟨f, List.mem_cons_self .., h, rfl⟩
  ·rw [if_neg h]
   rcases srcI_spec l r with ⟨g, hg, e1, e2⟩ | ⟨h1, h2⟩
   ·exact .inl ⟨g, List.mem_cons_of_mem _ hg, e1, e2⟩
   ·refine .inr ⟨fun g hg => ?_, h2⟩
    rcases List.mem_cons.1 hg with rfl | hg
    ·exact h
    ·exact h1 g hg
theorem src_eq {regs : Nat} {fs : List (Int × Int)} {l : Nat → Int} (h : SR regs fs l) {r : Int} (hr : r < regs) : srcI fs r = srcF l r := by
 rcases srcI_spec fs r with ⟨f, hf, e1, e2⟩ | ⟨h1, h2⟩
 ·obtain ⟨q, g1, g2, g3, g4⟩ := (h.1 f.1 f.2).1 hf
  rw [e2]
  unfold srcF
  have : r = (q : Int) := by omega
  subst this
  rw [Int.toNat_natCast, if_pos ⟨by omega, g3⟩, g4]
 ·rw [h2]
  unfold srcF
  rw [if_neg]
  rintro ⟨g1, g2⟩
  refine h1 (r, l r.toNat) ((h.1 _ _).2 ⟨r.toNat, by omega, by omega, g2, rfl⟩) rfl
theorem srcF_lt {regs : Nat} {fs : List (Int × Int)} {l : Nat → Int} (h : SR regs fs l) {r : Int} (hr : r < regs) : srcF l r < regs := by
 unfold srcF
 split
 ·rename_i g; exact h.2 _ (by omega)
 ·exact hr
theorem wsF_lt {regs : Nat} {l : Nat → Int} {w : Nat → Bool} (h : ∀ q, q < regs → l q < regs) (q : Nat) (hq : q < regs) : wsF l w q < regs := by
 unfold wsF; split
 ·omega
 ·exact h q hq
theorem SR.wo {regs : Nat} {fs : List (Int × Int)} {l : Nat → Int} (h : SR regs fs l) (xs : List In) : SR regs (woF desS fs xs) (wsF l (wrB xs)) := by
 refine ⟨fun r s => ?_, wsF_lt h.2⟩
 unfold woF
 rw [List.mem_filter, h.1 r s]
 simp only [Bool.not_eq_true', List.any_eq_false, desS, Bool.or_eq_true, decide_eq_true_eq, not_or]
 constructor
 ·rintro ⟨⟨q, rfl, h1, h2, rfl⟩, h4⟩
  have hn : ¬ (0 ≤ l q ∧ (wrB xs q = true ∨ wrB xs (l q).toNat = true)) := by
   rintro ⟨_, g | g⟩
   ·simp only [wrB, List.any_eq_true, decide_eq_true_eq] at g
    obtain ⟨x, hx, e⟩ := g
    exact (h4 x hx).1 e
   ·simp only [wrB, List.any_eq_true, decide_eq_true_eq] at g
    obtain ⟨x, hx, e⟩ := g
    exact (h4 x hx).2 (by omega)
  exact ⟨q, rfl, h1, by unfold wsF; rw [if_neg hn]; exact h2, by unfold wsF; rw [if_neg hn]⟩
 ·rintro ⟨q, rfl, h1, h2, h3⟩
  unfold wsF at h2 h3
  split at h3
  ·rename_i g; rw [if_pos g] at h2; omega
  ·rename_i g
   rw [if_neg g] at h2
   refine ⟨⟨q, rfl, h1, h2, h3⟩, fun x hx => ⟨fun e => g ⟨h2, .inl ?_⟩, fun e => g ⟨h2, .inr ?_⟩⟩⟩
   ·simp only [wrB, List.any_eq_true, decide_eq_true_eq]; exact ⟨x, hx, e⟩
   ·simp only [wrB, List.any_eq_true, decide_eq_true_eq]; exact ⟨x, hx, by omega⟩
theorem SR.bo {regs : Nat} {fs t : List (Int × Int)} {l l2 : Nat → Int} (h : SR regs fs l) (h2 : SR regs t l2) : SR regs (boF EK fs t) (bsF l l2) := by
 refine ⟨fun r s => ?_, fun q hq => (by
  unfold bsF
  split
  ·exact h.2 q hq
  ·omega)⟩
 unfold boF
 rw [List.mem_filter, h.1 r s]
 simp only [EK, List.any_eq_true, Bool.and_eq_true, decide_eq_true_eq]
 constructor
 ·rintro ⟨⟨q, rfl, h3, h4, rfl⟩, g, hg, e1, e2⟩
  obtain ⟨q', e3, e4, e5, e6⟩ := (h2.1 g.1 g.2).1 hg
  have : q' = q := by omega
  subst this
  have e : l q' = l2 q' := by omega
  exact ⟨q', rfl, h3, by unfold bsF; rw [if_pos e]; exact h4, by unfold bsF; rw [if_pos e]⟩
 ·rintro ⟨q, rfl, h3, h4, h5⟩
  unfold bsF at h4 h5
  split at h5
  ·rename_i e
   rw [if_pos e] at h4
   exact ⟨⟨q, rfl, h3, h4, h5⟩, ((q : Int), s), (h2.1 _ _).2 ⟨q, rfl, h3, by omega, by omega⟩, rfl, rfl⟩
  ·rename_i e
   rw [if_neg e] at h4; omega
def cWo (l : Nat → Int) (xs : List In) : Nat → Int := wsF l (wrB xs)
def cF (x : In) (l l' : Nat → Int) : Option (In × (Nat → Int)) :=
 if x.1 = 36 ∧ srcF l x.2.2.1 = x.2.1 then none
 else some ((x.1, x.2.1, srcF l x.2.2.1, srcF l x.2.2.2.1, x.2.2.2.2), if 0 ≤ writesI x.1 x.2.1 then upd (wsF l' (fun i => decide (i = (writesI x.1 x.2.1).toNat))) (writesI x.1 x.2.1).toNat (if x.1 = 36 then srcF l x.2.2.1 else -1) else l')
theorem SR.none {regs : Nat} {fs : List (Int × Int)} {l : Nat → Int} (h : SR regs fs l) {y : In} (hw : writesI y.1 y.2.1 < 0) : woF desS fs [y] = fs := by
 unfold woF
 rw [List.filter_eq_self]
 intro f hf
 obtain ⟨q, e, _, e2, e3⟩ := (h.1 f.1 f.2).1 hf
 simp only [desS, List.any_cons, List.any_nil, Bool.or_false, Bool.not_eq_true', Bool.or_eq_false_iff, decide_eq_false_iff_not]
 omega
theorem SR.put {regs : Nat} {fs : List (Int × Int)} {l : Nat → Int} (h : SR regs fs l) {y : In} {q0 : Nat} {s : Int} {new : List (Int × Int)} (hw : writesI y.1 y.2.1 = (q0 : Int)) (hq : q0 < regs)
  (hs : s < regs) (hn : new = if 0 ≤ s then [((q0 : Int), s)] else []) (hne : s ≠ (q0 : Int)) : SR regs (woF desS fs [y] ++ new) (upd (wsF l (fun i => decide (i = q0))) q0 s) := by
 have hwo := h.wo [y]
 have hwr : wrB [y] = fun i => decide (i = q0) := by
  funext i
  simp only [wrB, List.any_cons, List.any_nil, Bool.or_false, hw]
  rw [Bool.eq_iff_iff]; simp only [decide_eq_true_eq]; omega
 rw [hwr] at hwo
 refine ⟨fun r n => ?_, fun q hq => (by
  unfold upd
  split
  ·exact hs
  ·exact hwo.2 q hq)⟩
 rw [List.mem_append, hwo.1 r n, hn]
 constructor
 ·rintro (⟨q, rfl, h1, h2, h3⟩ | h1)
  ·have hqq : q ≠ q0 := by
    rintro rfl
    unfold wsF at h2
    split at h2
    ·omega
    ·rename_i g; exact g ⟨h2, .inl (by simp)⟩
   exact ⟨q, rfl, h1, by simp only [upd]; rw [if_neg hqq]; exact h2, by simp only [upd]; rw [if_neg hqq]; exact h3⟩
  ·split at h1
   ·rename_i g
    simp only [List.mem_singleton, Prod.mk.injEq] at h1
    exact ⟨q0, h1.1, hq, by simp only [upd, if_true]; exact g, by simp only [upd, if_true]; exact h1.2.symm⟩
   ·cases h1
 ·rintro ⟨q, rfl, h1, h2, h3⟩
  simp only [upd] at h2 h3
  by_cases e : q = q0
  ·subst e
   rw [if_pos rfl] at h2 h3
   right
   rw [if_pos h2]; simp [h3]
  ·rw [if_neg e] at h2 h3
   exact .inl ⟨q, rfl, h1, h2, h3⟩
theorem copies_same {regs : Nat} {par nA : Int} {cs : List In} {pt : List Int} (hin : ∀ x ∈ cs, InC regs par nA x) (hsh : shGo cs pt cs.length 0 0 = some 0) :
  ∃ a b, walkGo desS EK copV cs pt cs 0 ⟨[], [], []⟩ = some a ∧ gGo cWo bsF cF cs pt cs 0 ⟨[], fun _ => -1, []⟩ = some b ∧ a.out = b.out := by
 refine walk_same (R := SR regs) (fun fs k xs _ h => h.wo xs) (fun fs k t k2 h h2 => h.bo h2) (fun x hx fs l fs' l' h h' hcase => ?_) ⟨fun r s => ⟨fun h => (by cases h), fun ⟨q, _, _, h, _⟩ => (by simp at h)⟩, fun q _ => (by show (-1 : Int) < _; omega)⟩ hsh
 have hc := hin x hx
 have ha : x.2.2.1 < regs := by
  have := hc.a
  split at this <;> omega
 have hb : x.2.2.2.1 < regs := by
  have := hc.b
  split at this <;> omega
 have ea := src_eq h ha
 have eb := src_eq h hb
 have hal := srcF_lt h ha
 have hto := hc.to
 have hV : copV x fs = copV5 x.1 x.2.1 (srcF l x.2.2.1) (srcF l x.2.2.2.1) x.2.2.2.2 := by unfold copV; rw [ea, eb]
 rw [hV]
 by_cases h36 : x.1 = 36
 ·have hns : ¬ isStr x.1 := by unfold isStr; omega
  rcases hcase with hcase | ⟨rfl, rfl⟩
  ·exact absurd hcase hns
  have hto : 0 ≤ x.2.1 ∧ x.2.1 < regs := by rw [h36] at hto; exact hto
  have ha0 : 0 ≤ x.2.2.1 := by
   have := hc.a
   rw [h36, if_pos (show usA 36 = true from us_36.1)] at this
   exact this.1
  have hs0 : 0 ≤ srcF l' x.2.2.1 := by unfold srcF; split <;> omega
  unfold copV5
  rw [if_pos h36]
  by_cases e : srcF l' x.2.2.1 = x.2.1
  ·rw [if_pos e]
   simp only [Bool.false_eq_true, if_false]
   exact ⟨by unfold cF; rw [if_pos ⟨h36, e⟩], hns⟩
  ·rw [if_neg e]
   simp only [if_true]
   have hw : writesI x.1 x.2.1 = x.2.1 := by rw [h36]; rfl
   refine ⟨_, by unfold cF; rw [if_neg (fun g => e g.2)], ?_⟩
   rw [if_pos (by rw [hw]; exact hto.1), if_pos h36, hw]
   exact h.put (by show writesI x.1 x.2.1 = _; rw [hw]; omega) (by omega) hal (by rw [if_pos hs0]; congr 2; omega) (by omega)
 ·have hw : ∀ z : In, z.1 = x.1 → z.2.1 = x.2.1 → writesI z.1 z.2.1 = writesI x.1 x.2.1 := fun z e1 e2 => by rw [e1, e2]
  unfold copV5
  rw [if_neg h36]
  simp only [if_true, List.append_nil]
  refine ⟨_, by unfold cF; rw [if_neg (fun g => h36 g.1)], ?_⟩
  by_cases h0 : 0 ≤ writesI x.1 x.2.1
  ·rw [if_pos h0, if_neg h36]
   obtain ⟨q0, hq0⟩ : ∃ q : Nat, writesI x.1 x.2.1 = (q : Int) := ⟨(writesI x.1 x.2.1).toNat, by omega⟩
   have hqr : q0 < regs := by
    unfold writesI at hq0
    split at hq0
    ·rename_i g; rw [if_pos g] at hto; omega
    ·omega
   have := h'.put (y := (x.1, x.2.1, srcF l x.2.2.1, srcF l x.2.2.2.1, x.2.2.2.2)) (q0 := q0) (s := -1) (new := []) hq0 hqr (by omega) (by simp) (by omega)
   rw [List.append_nil] at this
   rw [hq0, Int.toNat_natCast]
   exact this
  ·rw [if_neg h0, h'.none (by show writesI x.1 x.2.1 < 0; omega)]
   exact h'
end Go.Proofs.YtidhfimbnjaceaaGreat

namespace Go.Proofs.YtidhfimbnjaceaaGreat
open Go.RowKit
set_option linter.unusedVariables false
set_option linter.unusedSimpArgs false
def sO (n : Nat) (st : List (Nat → Int)) (i _j : Nat) : AV := .fs 1 n (nF (st.reverse.getD i (fun _ => 0)))
theorem sO_pu (n : Nat) (st : List (Nat → Int)) (i j : Nat) : (sO n st i j).pu 3 = true := rfl
theorem sO_cons (n : Nat) (st : List (Nat → Int)) (t : Nat → Int) (i j : Nat) (hi : i < st.length) : sO n (t :: st) i j = sO n st i j := by
 unfold sO; rw [List.reverse_cons, getD_app_lt (by simpa using hi)]
theorem sO_top (n : Nat) (st : List (Nat → Int)) (t : Nat → Int) (j : Nat) : sO n (t :: st) st.length j = .fs 1 n (nF t) := by
 unfold sO; rw [List.reverse_cons]
 have := getD_app_eq (l := st.reverse) (x := t) (d := (fun _ => 0))
 rw [List.length_reverse] at this
 rw [this]
structure CInv (regs k : Nat) (s : GSt (Nat → Int)) : Prop where
 out : s.out.length ≤ k
 st : s.st.length ≤ k
 k : ∀ q, q < regs → s.k q < regs
 kst : ∀ t ∈ s.st, ∀ q, q < regs → t q < regs
theorem bsF_lt {regs : Nat} {l t : Nat → Int} (h : ∀ q, q < regs → l q < regs) (q : Nat) (hq : q < regs) : bsF l t q < regs := by
 unfold bsF; split
 ·exact h q hq
 ·omega
theorem csw_inv {regs : Nat} {cs : List In} {pt : List Int} {k i : Nat} {op : Int} {l : Nat → Int} {st : List (Nat → Int)} {q : (Nat → Int) × List (Nat → Int)} (h1 : st.length ≤ k) (h2 : ∀ q, q < regs → l q < regs) (h3 : ∀ t ∈ st, ∀ q, q < regs → t q < regs)
  (h : gSw cWo bsF cs pt i op l st = some q) : q.2.length ≤ k + 1 ∧ (∀ r, r < regs → q.1 r < regs) ∧ ∀ t ∈ q.2, ∀ r, r < regs → t r < regs := by
 unfold gSw at h
 split at h
 ·cases h
  refine ⟨by simp; omega, h2, fun t ht => ?_⟩
  rcases List.mem_cons.1 ht with rfl | ht
  ·exact h2
  ·exact h3 t ht
 split at h
 ·split at h
  ·rename_i t r
   cases h
   refine ⟨by simp at h1 ⊢; omega, h3 t (List.mem_cons_self ..), fun t' ht => ?_⟩
   rcases List.mem_cons.1 ht with rfl | ht
   ·exact h2
   ·exact h3 t' (List.mem_cons_of_mem _ ht)
  ·cases h
 split at h
 ·split at h
  ·cases h; exact ⟨by simp only; omega, fun r hr => wsF_lt h2 r hr, h3⟩
  ·cases h
 split at h
 ·split at h
  ·split at h
   ·cases h; exact ⟨by simp only; omega, fun r hr => wsF_lt h2 r hr, h3⟩
   ·split at h
    ·rename_i t r
     cases h
     exact ⟨by simp at h1 ⊢; omega, fun r hr => bsF_lt h2 r hr, fun t' ht => h3 t' (List.mem_cons_of_mem _ ht)⟩
    ·cases h
  ·cases h
 cases h
 exact ⟨by simp only; omega, h2, h3⟩
theorem srcF_rng {regs : Nat} {l : Nat → Int} (h : ∀ q, q < regs → l q < regs) {r : Int} (hr : r < regs) : srcF l r < regs := by
 unfold srcF; split
 ·exact h _ (by omega)
 ·exact hr
theorem cend_inv {regs : Nat} {k : Nat} {x : In} {s : GSt (Nat → Int)} {q : (Nat → Int) × List (Nat → Int)} (h : CInv regs k s) (ha : x.2.2.1 < regs) (h1 : q.2.length ≤ k + 1) (h2 : ∀ r, r < regs → q.1 r < regs) (h3 : ∀ t ∈ q.2, ∀ r, r < regs → t r < regs) : CInv regs (k + 1) (gEnd cF x s q) := by
 have ho := h.out
 unfold gEnd cF
 by_cases c : x.1 = 36 ∧ srcF s.k x.2.2.1 = x.2.1
 ·rw [if_pos c]
  exact ⟨by simp only; omega, h1, h2, h3⟩
 ·rw [if_neg c]
  refine ⟨by simp; omega, h1, fun r hr => ?_, h3⟩
  simp only
  split
  ·simp only [upd]
   split
   ·split
    ·exact srcF_rng h.k ha
    ·omega
   ·exact wsF_lt h2 r hr
  ·exact h2 r hr
theorem put_put1 {x : AB} {o : Nat} (u1 v : AV) (h : o + 1 < 1000000) (i : Nat) : ((x.putN o [u1]).putN o [v]).get i = (x.putN o [v]).get i := by
 have hl : ∀ z : AV, o + [z].length < 1000000 := fun z => by simpa using h
 rw [putN_get (hl v), putN_get (hl u1), putN_get (hl v)]
 simp only [List.length_cons, List.length_nil]
 split
 ·rfl
 ·rfl
theorem put_row1 {ty n z q i : Nat} {row : Nat → Nat → AV} {v : AV} (hq : q < n) (hn : n * 1 < 1000000) (hi : i < n) : ((rowB ty 1 n z row).putN q [v]).get (i * 1 + 0) = if i = q then v else row i 0 := by
 have := put_row (ty := ty) (esz := 1) (z := z) (row := row) (l := [v]) rfl hq hn i 0 hi (by decide)
 rw [Nat.mul_one q] at this
 rw [this]
 rfl
theorem rCopies_has {na : Nat} {ra : Nat → Nat → AV} {regs : Nat} {par : Int} {cs : List In} {pt : List Int} {xc p2 p3 : AV} {fin : GSt (Nat → Int)} (hna : na < 1000000) (hra : ∀ i j, i < na → j < 2 → (ra i j).cell = true) (hcs : cs.length < 100000) (hr : regs < 1000000)
  (hck : Has Tryz.prog 26 [codeV na ra regs par cs] [.v xc, .v (.n .i64 0)])
  (hpt : Has Tryz.prog 27 [.fs 5 cs.length (cC cs)] [.v (.fs 1 pt.length (iC .i64 pt)), .v p2, .v p3]) (hptl : pt.length = cs.length)
  (hin : ∀ x ∈ cs, (0 ≤ x.1 ∧ x.1 < 39) ∧ writesI x.1 x.2.1 < regs ∧ x.2.2.1 < regs ∧ x.2.2.2.1 < regs) (hgo : gGo cWo bsF cF cs pt cs 0 ⟨[], fun _ => -1, []⟩ = some fin) :
  Has Tryz.prog 14 [codeV na ra regs par cs] [.a [.v (.fs 2 na ra), .v (.n .i64 regs), .v (.n .i64 par), .o 37 5 fin.out.length 0 (cC fin.out)], .v (.n .i64 0)] := by
 have hcp := rcopy_has (na := na) (ra := ra) (regs := regs) (par := par) (cs := cs) hna hra (by omega)
 refine hasQ_of' mixo x44ok ⟨by simp, by decide⟩ ?_
 simp only [argE, codeV] at hck hcp ⊢
 repeat (first | (with_reducible refine GA.go mixo rfl ?_) | simp only [go_sem, simprocAttr])
 refine gcall_has [] (.cons (.rfl (by rfl)) .nil) hck (by simp only [go_sem, simprocAttr]) ?_
 repeat (first | (with_reducible refine GA.go mixo rfl ?_) | simp only [decide_true, go_sem, simprocAttr])
 refine gcall_has [] (.cons (.rfl (by rfl)) .nil) hpt (by simp only [go_sem, simprocAttr]) ?_
 repeat (first | (with_reducible refine GA.go mixo rfl ?_) | simp only [go_sem, simprocAttr])
 refine gcall_has [] (.cons (.rfl (by rfl)) .nil) hcp (by simp only [go_sem, simprocAttr]) ?_
 have hg1 : (0 : Int) ≤ (regs : Int) := by omega
 have hg2 : (regs : Int) ≤ 16777216 := by omega
 have hg3 : 1 * regs ≤ 140737488355328 ∧ 8 * regs ≤ 140737488355328 ∧ regs ≤ 140737488355328 ∧ regs < 1099511627776 := by omega
 repeat (first | (with_reducible refine GA.go mixo rfl ?_) | simp only [hg1, hg2, hg3.1, hg3.2.1, hg3.2.2.1, hg3.2.2.2, Int.le_refl, decide_true, go_sem, simprocAttr])
 refine GA.loop (I := fun mm e H => ∃ k : Nat, mm = regs - k ∧ k ≤ regs ∧ e = envOf [(1, .p 0 0), (2, .p 1 0), (3, .n .i64 0), (6, .fs 1 pt.length (iC .i64 pt)), (9, .p 2 0), (10, .os 3 regs), (11, .n .i64 k)] ∧ H = heapOf [rowB 3 1 regs 0 (nF fun i => if i < k then -1 else 0), lstB 0 25 [.fs 2 na ra, .n .i64 regs, .n .i64 par, .sl0], lstB 0 25 [.sl0, .n .i64 0, .n .i64 0, .sl0], lstB 0 25 [.fs 2 na ra, .n .i64 regs, .n .i64 par, .fs 5 cs.length (cC cs)]]) (Wk.mk [5, 4, 1, 0] [2] ?_ ?_ ?_) ⟨0, rfl, by omega, rfl, rfl⟩ ?_
 ·simp only [WkE, WkH, go_sem, simprocAttr]
  repeat' refine and_of ?_ ?_
  all_goals first | exact wkt | skip
 ·exact (.cons rfl (.s1) (.cons rfl (.lstw (x := _) (by simp only [go_sem, simprocAttr] <;> rfl) (by rfl) (by rfl) (by rfl) (by rfl) (by rfl) (by rfl) (by simp) (fun i hi => (by rcases lt4 hi with rfl | rfl | rfl | rfl <;> (simp only [go_sem, simprocAttr]; first | exact Wv.same rfl | exact Wv.os rfl | exact Wv.cv (Cv.own (ty := 93) (z := 0) (by simp) (by simp only [go_sem, simprocAttr]) hra))))) (.cons rfl (.ls) (.cons rfl (.ls) .nil))))
 ·simp
 rintro mm e H ⟨k, rfl, hk, rfl, rfl⟩
 repeat (first | (with_reducible refine GA.go mixo rfl ?_) | simp only [go_sem, simprocAttr])
 refine ⟨fun h => ?_, fun h => ?_⟩
 ·have hkn : k < regs := by omega
  have h0 : (0 : Int) ≤ (k : Int) := by omega
  have hk1 : k + 1 ≤ regs := hkn
  repeat (first | (with_reducible refine GA.go mixo rfl ?_) | simp only [h0, h, hkn, hk1, go_sem, simprocAttr])
  refine ⟨_, _, _, ?_, Wk.mk [3, 2, 1, 0] [] ?_ ?_ ?_, k + 1, rfl, by omega, rfl, rfl⟩
  ·omega
  ·simp only [WkE, WkH, go_sem, simprocAttr]
   repeat' refine and_of ?_ ?_
   all_goals first | exact wkt | skip
  ·refine (.cons rfl (.put (q := k) (by simp only [go_sem, simprocAttr] <;> rfl) (by simp) rfl hkn rfl (by decide) (by omega) (fun i j h hj => ?_) (fun i j _ hj => rfl)) (.cons rfl (.ls) (.cons rfl (.ls) (.cons rfl (.ls) .nil))))
   cases Nat.lt_one_iff.1 hj
   simp only [nF]
   by_cases e : i = k
   ·subst e; rw [if_pos rfl, if_pos (by omega)]; rfl
   ·rw [if_neg e]
    by_cases h9 : i < k
    ·rw [if_pos h9, if_pos (by omega)]
    ·rw [if_neg h9, if_neg (by omega)]
  ·simp
 have hkn : regs = k := by omega
 subst hkn
 repeat (first | (with_reducible refine GA.go mixo rfl ?_) | simp only [go_sem, simprocAttr])
 refine GA.wk (Wk.nil 12 1 43 (by simp only [go_sem, simprocAttr]) (by decide) (by simp only [go_sem, simprocAttr])) ?_
 simp only [env_put]
 refine GA.wk (Wk.nilb 2 3 5 37 (x := lstB 0 25 [.fs 2 na ra, .n .i64 regs, .n .i64 par, .sl0]) (by simp only [go_sem, simprocAttr]) (by simp only [go_sem, simprocAttr]) (by decide) (by decide) (by simp only [go_sem, simprocAttr]) rfl (by simp only [go_sem, simprocAttr])) ?_
 refine GA.loop (I := fun mm e H => ∃ (i : Nat) (s : GSt (Nat → Int)), mm = cs.length - i ∧ i ≤ cs.length ∧ CInv regs i s ∧ gGo cWo bsF cF cs pt (cs.drop i) i s = some fin ∧ e = envOf [(1, .p 0 0), (2, .p 1 0), (3, .n .i64 0), (6, .fs 1 pt.length (iC .i64 pt)), (9, .p 2 0), (10, .fs 1 regs (nF s.k)), (12, .os 4 s.st.length), (13, .n .i64 i)] ∧ H = heapOf [rowB 43 1 s.st.length 0 (sO regs s.st), rowB 37 5 s.out.length 0 (cC s.out), lstB 0 25 [.fs 2 na ra, .n .i64 regs, .n .i64 par, .os 3 s.out.length], lstB 0 25 [.sl0, .n .i64 0, .n .i64 0, .sl0], lstB 0 25 [.fs 2 na ra, .n .i64 regs, .n .i64 par, .fs 5 cs.length (cC cs)]]) (Wk.mk [4, 5, 2, 1, 0] [3] ?_ ?_ ?_) ⟨0, ⟨[], fun _ => -1, []⟩, rfl, by omega, ⟨by simp, by simp, fun q hq => (by show (-1 : Int) < _; omega), by simp⟩, hgo, rfl, rfl⟩ ?_
 ·simp only [WkE, WkH, go_sem, simprocAttr]
  repeat' refine and_of ?_ ?_
  all_goals first | exact wkt | skip
  exact .cv (.os (by simp) (by simp only [go_sem, simprocAttr] <;> rfl) (by simp only [go_sem, simprocAttr]) (fun i j hi hj => by rw [row_get i j hj]; simp only [nF]; rw [if_pos hi]) (fun _ _ _ _ => rfl))
 ·exact (.cons rfl (.rows (by simp only [go_sem, simprocAttr]; rfl) rfl rfl rfl (by simp) (by decide) (by decide) (fun i j h => by simp at h) (fun i j h => by simp at h)) (.cons rfl (.rows (by simp only [go_sem, simprocAttr]; rfl) rfl rfl rfl (by simp) (by decide) (by decide) (fun i j h => by simp at h) (fun i j h => by simp at h)) (.cons rfl (.w4) (.cons rfl (.ls) (.cons rfl (.ls) .nil)))))
 ·simp
 rintro mm e H ⟨k, ⟨out, l, st⟩, rfl, hk, hinv, hs, rfl, rfl⟩
 have ⟨ho, hst, hl, hlst⟩ := hinv
 simp only at ho hst hl hlst
 repeat (first | (with_reducible refine GA.go mixo rfl ?_) | simp only [go_sem, simprocAttr])
 refine ⟨fun h => ?_, fun h => ?_⟩
 ·have hkn : k < cs.length := by omega
  have h0 : (0 : Int) ≤ (k : Int) := by omega
  have hk1 : k + 1 ≤ cs.length := hkn
  have hkp : k < pt.length := by omega
  have hkpi : (k : Int) < (pt.length : Int) := by omega
  have hm : cs.getD k (0, 0, 0, 0, 0) ∈ cs := by rw [List.getD_eq_getElem?_getD, List.getElem?_eq_getElem hkn]; exact List.getElem_mem _
  rw [drop_nx (d := (0, 0, 0, 0, 0)) hkn, gGo] at hs
  obtain ⟨s2, hsw, hs⟩ := Option.bind_eq_some_iff.1 hs
  have hcc0 := cC0 cs k
  have hcc1 := cC1 cs k
  have hcc2 := cC2 cs k
  have hcc3 := cC3 cs k
  have hcc4 := cC4 cs k
  generalize cs.getD k (0, 0, 0, 0, 0) = x at hsw hcc0 hcc1 hcc2 hcc3 hcc4 hm
  obtain ⟨hxo, hxw, hxa, hxb⟩ := hin x hm
  unfold gStep at hsw
  obtain ⟨qq, hsw, hfin⟩ := Option.map_eq_some_iff.1 hsw
  obtain ⟨hq1, hq2, hq3⟩ := csw_inv hst hl hlst hsw
  have key : CInv regs (k + 1) s2 := hfin ▸ cend_inv hinv hxa hq1 hq2 hq3
  obtain ⟨opc, to, a, b, arg⟩ := x
  simp only at hsw hcc0 hcc1 hcc2 hcc3 hcc4 hxo hxw hxa hxb
  have hsa := rsource_has (n := regs) l a hxa
  have hsb := rsource_has (n := regs) l b hxb
  (try simp only [h0, h, hcc0, hcc1, hcc2, hcc3, hcc4, go_sem, simprocAttr])
  iterate 6 (with_reducible refine GA.go mixo rfl ?_; try simp only [h0, h, hcc0, hcc1, hcc2, hcc3, hcc4, go_sem, simprocAttr])
  (try simp only [go_sem, simprocAttr])
  iterate 1 (with_reducible refine GA.go mixo rfl ?_; try simp only [go_sem, simprocAttr])
  refine gcall_has [] (.cons (.rfl (by rfl)) (.cons (.rfl (by rfl)) .nil)) hsa (by simp only [go_sem, simprocAttr]) ?_
  simp only [go_sem, simprocAttr]
  refine gcall_has [] (.cons (.rfl (by rfl)) (.cons (.rfl (by rfl)) .nil)) hsb (by simp only [go_sem, simprocAttr]) ?_
  (try simp only [go_sem, simprocAttr])
  iterate 6 (with_reducible refine GA.go mixo rfl ?_; try simp only [go_sem, simprocAttr])
  have hls : (st.length + 1) * 1 < 1099511627776 ∧ (st.length + 1) * 24 ≤ 140737488355328 ∧ st.length + 1 ≤ 9223372036854775807 ∧ st.length * 1 + 1 < 1099511627776 ∧ st.length + 1 < 1099511627776 := by omega
  have hlr : regs < 1099511627776 ∧ regs * 8 ≤ 140737488355328 ∧ regs ≤ 9223372036854775807 ∧ regs ≤ 140737488355328 := by omega
  have hin' : ∀ x ∈ cs, (0 ≤ x.1 ∧ x.1 < 39) ∧ writesI x.1 x.2.1 < regs := fun x hx => ⟨(hin x hx).1, (hin x hx).2.1⟩
  refine GA.wk (Wk.mk (L := [(1, .p 0 0), (2, .p 1 0), (3, .n .i64 0), (6, .fs 1 pt.length (iC .i64 pt)), (9, .p 2 0), (10, .fs 1 regs (nF l)), (12, .os 4 st.length), (13, .n .i64 k), (14, .p 5 0), (15, .n .i64 st.length), (74, .n .i64 opc)]) (bl := [lstB 0 37 [.n .i64 opc, .n .i64 to, .n .i64 (srcF l a), .n .i64 (srcF l b), .n .u32 arg], rowB 43 1 st.length 0 (sO regs st), rowB 37 5 out.length 0 (cC out), lstB 0 25 [.fs 2 na ra, .n .i64 regs, .n .i64 par, .os 3 out.length], lstB 0 25 [.sl0, .n .i64 0, .n .i64 0, .sl0], lstB 0 25 [.fs 2 na ra, .n .i64 regs, .n .i64 par, .fs 5 cs.length (cC cs)]]) [5, 4, 3, 2, 1, 0] [] ?_ ?_ ?_) ?_
  ·simp only [WkE, WkH, go_sem, simprocAttr]
   repeat' refine and_of ?_ ?_
   all_goals first | exact wkt | skip
  ·exact (.cons rfl (.lsti (x := _) (by simp only [go_sem, simprocAttr] <;> rfl) (by rfl) (by rfl) (by rfl) (by rfl) (by rfl) (by rfl) (by simp) (fun i hi => by rcases lt5 hi with rfl | rfl | rfl | rfl | rfl <;> simp only [go_sem, simprocAttr]) (by rfl)) (.cons rfl (.keep (by simp only [go_sem, simprocAttr]) rfl (by decide) (fun i j _ hj => sO_pu _ _ _ _)) (.cons rfl (.k5) (.cons rfl (.w4) (.cons rfl (.ls) (.cons rfl (.ls) .nil))))))
  ·simp
  refine GA.cutQ (envOf [(1, .p 0 0), (2, .p 1 0), (3, .n .i64 0), (6, .fs 1 pt.length (iC .i64 pt)), (9, .p 2 0), (10, .fs 1 regs (nF qq.1)), (12, .os 4 qq.2.length), (13, .n .i64 k), (14, .p 5 0)]) (heapOf [lstB 0 37 [.n .i64 opc, .n .i64 to, .n .i64 (srcF l a), .n .i64 (srcF l b), .n .u32 arg], rowB 43 1 qq.2.length 0 (sO regs qq.2), rowB 37 5 out.length 0 (cC out), lstB 0 25 [.fs 2 na ra, .n .i64 regs, .n .i64 par, .os 3 out.length], lstB 0 25 [.sl0, .n .i64 0, .n .i64 0, .sl0], lstB 0 25 [.fs 2 na ra, .n .i64 regs, .n .i64 par, .fs 5 cs.length (cC cs)]]) ?_ ?_
  rotate_left
  ·intro e' H' hw
   refine GA.wk hw ?_
   have hol : (out.length + 1) * 5 < 1099511627776 ∧ (out.length + 1) * 40 ≤ 140737488355328 ∧ out.length + 1 ≤ 9223372036854775807 ∧ out.length * 5 + 5 < 1099511627776 := by omega
   have rest : ∀ (hne : ¬ (opc = 36 ∧ srcF l a = to)), GA Tryz.prog 181 (hintsOf Tryz.prog 14) (.seq (.seq (.reg x44r35) (.seq (.reg x44r36) (.cond (.t 156) (.seq (.reg x44r37) (.seq (.reg x44r38) (.seq (.reg x44r39) (.cond (.t 168) (.reg x44r40) .skip)))) .skip))) (.reg x44r41)) (envOf [(1, .p 0 0), (2, .p 1 0), (3, .n .i64 0), (6, .fs 1 pt.length (iC .i64 pt)), (9, .p 2 0), (10, .fs 1 regs (nF qq.1)), (12, .os 4 qq.2.length), (13, .n .i64 k), (14, .p 5 0)]) (heapOf [lstB 0 37 [.n .i64 opc, .n .i64 to, .n .i64 (srcF l a), .n .i64 (srcF l b), .n .u32 arg], rowB 43 1 qq.2.length 0 (sO regs qq.2), rowB 37 5 out.length 0 (cC out), lstB 0 25 [.fs 2 na ra, .n .i64 regs, .n .i64 par, .os 3 out.length], lstB 0 25 [.sl0, .n .i64 0, .n .i64 0, .sl0], lstB 0 25 [.fs 2 na ra, .n .i64 regs, .n .i64 par, .fs 5 cs.length (cC cs)]])
     (thenA (fun e' H' => Wk 181 e' H' (envOf [(1, .p 0 0), (2, .p 1 0), (3, .n .i64 0), (6, .fs 1 pt.length (iC .i64 pt)), (9, .p 2 0), (10, .fs 1 regs (nF s2.k)), (12, .os 4 s2.st.length), (13, .n .i64 k)]) (heapOf [rowB 43 1 s2.st.length 0 (sO regs s2.st), rowB 37 5 s2.out.length 0 (cC s2.out), lstB 0 25 [.fs 2 na ra, .n .i64 regs, .n .i64 par, .os 3 s2.out.length], lstB 0 25 [.sl0, .n .i64 0, .n .i64 0, .sl0], lstB 0 25 [.fs 2 na ra, .n .i64 regs, .n .i64 par, .fs 5 cs.length (cC cs)]])) (fun _ _ _ => False)) := by
    intro hne
    unfold gEnd cF at hfin
    simp only at hfin
    rw [if_neg hne] at hfin
    simp only at hfin
    subst hfin
    repeat (first | (with_reducible refine GA.go mixo rfl ?_) | simp only [go_sem, simprocAttr])
    refine gcall_has [] (.cons (.rfl (by rfl)) .nil) (ruses_has opc to _ _ arg hxo) (by simp only [go_sem, simprocAttr]) ?_
    repeat (first | (with_reducible refine GA.go mixo rfl ?_) | simp only [go_sem, simprocAttr])
    refine ⟨fun h6 => ?_, fun h6 => ?_⟩
    ·obtain ⟨q, hq⟩ : ∃ q : Nat, writesI opc to = (q : Int) := ⟨(writesI opc to).toNat, by omega⟩
     have hqr : q < regs := by rw [hq] at hxw; omega
     have hqi : (q : Int) < (regs : Int) := by omega
     have hq0 : (0 : Int) ≤ (q : Int) := by omega
     have hq1 : q + 1 ≤ regs := hqr
     simp only [hq, hq0, if_true, Int.toNat_natCast]
     repeat (first | (with_reducible refine GA.go mixo rfl ?_) | simp only [hq, go_sem, simprocAttr])
     refine gcall_has [] (.cons (.rfl (by rfl)) (.cons (.rfl (by rfl)) .nil)) (only_has hr hqr) (by simp only [go_sem, simprocAttr]) ?_
     repeat (first | (with_reducible refine GA.go mixo rfl ?_) | simp only [go_sem, simprocAttr])
     refine gcall_has [7] (fargs := [.fs 1 regs (nF qq.1), .fs 1 regs (bF fun i => decide (i = q))]) (.cons (.rfl (by rfl)) (.cons (Cv.own (ty := 4) (z := 0) (by simp) (by simp only [go_sem, simprocAttr] <;> rfl) (fun _ _ _ _ => rfl)) .nil)) (withoutSources_has qq.1 _ hr hq2) (by simp only [go_sem, simprocAttr]) ?_
     by_cases h36 : opc = 36
     ·subst h36
      simp only [if_true]
      repeat (first | (with_reducible refine GA.go mixo rfl ?_) | simp only [hq0, hqi, hqr, hq1, hol.1, hol.2.1, hol.2.2.1, hol.2.2.2, decide_true, go_sem, simprocAttr])
      refine Wk.mk [4, 10, 2, 1, 0] [8] ?_ ?_ ?_
      ·simp only [WkE, WkH, go_sem, simprocAttr]
       repeat' refine and_of ?_ ?_
       all_goals first | exact wkt | skip
       refine .cv (.os (by simp) (by simp only [go_sem, simprocAttr] <;> rfl) (by simp only [go_sem, simprocAttr]) (fun i j hi hj => ?_) (fun _ _ _ _ => rfl))
       cases Nat.lt_one_iff.1 hj
       rw [put_put1 _ _ (by omega), put_row1 hqr (by omega) hi]
       simp only [nF, upd]
       split <;> rfl
      ·refine (.cons rfl (.keep (by simp only [go_sem, simprocAttr]) rfl (by decide) (fun i j _ hj => sO_pu _ _ _ _)) (.cons rfl (.snoc (by simp only [go_sem, simprocAttr] <;> rfl) (by simp) (by rfl) rfl (by decide) (by omega) (fun i j hi _ => by unfold cC; rw [getD_app_lt hi]) (fun j hj => ?_) (fun i j _ hj => by rcases lt5 hj with rfl | rfl | rfl | rfl | rfl <;> rfl)) (.cons rfl (.w4) (.cons rfl (.ls) (.cons rfl (.ls) .nil)))))
       unfold cC; rw [getD_app_eq]; rcases lt5 hj with rfl | rfl | rfl | rfl | rfl <;> rfl
      ·simp
     ·simp only [if_neg h36]
      repeat (first | (with_reducible refine GA.go mixo rfl ?_) | simp only [h36, hq0, hqi, hqr, hq1, hol.1, hol.2.1, hol.2.2.1, hol.2.2.2, decide_true, decide_false, go_sem, simprocAttr])
      refine Wk.mk [4, 10, 2, 1, 0] [8] ?_ ?_ ?_
      ·simp only [WkE, WkH, go_sem, simprocAttr]
       repeat' refine and_of ?_ ?_
       all_goals first | exact wkt | skip
       refine .cv (.os (by simp) (by simp only [go_sem, simprocAttr] <;> rfl) (by simp only [go_sem, simprocAttr]) (fun i j hi hj => ?_) (fun _ _ _ _ => rfl))
       cases Nat.lt_one_iff.1 hj
       rw [put_row1 hqr (by omega) hi]
       simp only [nF, upd]
       split <;> rfl
      ·refine (.cons rfl (.keep (by simp only [go_sem, simprocAttr]) rfl (by decide) (fun i j _ hj => sO_pu _ _ _ _)) (.cons rfl (.snoc (by simp only [go_sem, simprocAttr] <;> rfl) (by simp) (by rfl) rfl (by decide) (by omega) (fun i j hi _ => by unfold cC; rw [getD_app_lt hi]) (fun j hj => ?_) (fun i j _ hj => by rcases lt5 hj with rfl | rfl | rfl | rfl | rfl <;> rfl)) (.cons rfl (.w4) (.cons rfl (.ls) (.cons rfl (.ls) .nil)))))
       unfold cC; rw [getD_app_eq]; rcases lt5 hj with rfl | rfl | rfl | rfl | rfl <;> rfl
      ·simp
    ·simp only [if_neg (show ¬ 0 ≤ writesI opc to by omega)]
     repeat (first | (with_reducible refine GA.go mixo rfl ?_) | simp only [hol.1, hol.2.1, hol.2.2.1, hol.2.2.2, decide_true, go_sem, simprocAttr])
     refine Wk.mk [4, 8, 2, 1, 0] [] ?_ ?_ ?_
     ·simp only [WkE, WkH, go_sem, simprocAttr]
      repeat' refine and_of ?_ ?_
      all_goals first | exact wkt | skip
     ·refine (.cons rfl (.keep (by simp only [go_sem, simprocAttr]) rfl (by decide) (fun i j _ hj => sO_pu _ _ _ _)) (.cons rfl (.snoc (by simp only [go_sem, simprocAttr] <;> rfl) (by simp) (by rfl) rfl (by decide) (by omega) (fun i j hi _ => by unfold cC; rw [getD_app_lt hi]) (fun j hj => ?_) (fun i j _ hj => by rcases lt5 hj with rfl | rfl | rfl | rfl | rfl <;> rfl)) (.cons rfl (.w4) (.cons rfl (.ls) (.cons rfl (.ls) .nil)))))
      unfold cC; rw [getD_app_eq]; rcases lt5 hj with rfl | rfl | rfl | rfl | rfl <;> rfl
     ·simp
   have tail : ∀ (hne : ¬ (opc = 36 ∧ srcF l a = to)) (e1 : Tr AV) (H1 : AH) (Q : AE → Tr AV → AH → Prop), Wk 181 e1 H1 (envOf [(1, .p 0 0), (2, .p 1 0), (3, .n .i64 0), (6, .fs 1 pt.length (iC .i64 pt)), (9, .p 2 0), (10, .fs 1 regs (nF qq.1)), (12, .os 4 qq.2.length), (13, .n .i64 k), (14, .p 5 0)]) (heapOf [lstB 0 37 [.n .i64 opc, .n .i64 to, .n .i64 (srcF l a), .n .i64 (srcF l b), .n .u32 arg], rowB 43 1 qq.2.length 0 (sO regs qq.2), rowB 37 5 out.length 0 (cC out), lstB 0 25 [.fs 2 na ra, .n .i64 regs, .n .i64 par, .os 3 out.length], lstB 0 25 [.sl0, .n .i64 0, .n .i64 0, .sl0], lstB 0 25 [.fs 2 na ra, .n .i64 regs, .n .i64 par, .fs 5 cs.length (cC cs)]]) → (∀ e' H', Wk 181 e' H' (envOf [(1, .p 0 0), (2, .p 1 0), (3, .n .i64 0), (6, .fs 1 pt.length (iC .i64 pt)), (9, .p 2 0), (10, .fs 1 regs (nF s2.k)), (12, .os 4 s2.st.length), (13, .n .i64 k)]) (heapOf [rowB 43 1 s2.st.length 0 (sO regs s2.st), rowB 37 5 s2.out.length 0 (cC s2.out), lstB 0 25 [.fs 2 na ra, .n .i64 regs, .n .i64 par, .os 3 s2.out.length], lstB 0 25 [.sl0, .n .i64 0, .n .i64 0, .sl0], lstB 0 25 [.fs 2 na ra, .n .i64 regs, .n .i64 par, .fs 5 cs.length (cC cs)]]) → Q .normal e' H') → GA Tryz.prog 181 (hintsOf Tryz.prog 14) (.seq (.seq (.reg x44r35) (.seq (.reg x44r36) (.cond (.t 156) (.seq (.reg x44r37) (.seq (.reg x44r38) (.seq (.reg x44r39) (.cond (.t 168) (.reg x44r40) .skip)))) .skip))) (.reg x44r41)) e1 H1 Q := fun hne e1 H1 Q hw1 hq => GA.wk hw1 (GA.cutQ _ _ (rest hne) hq)
   clear rest
   by_cases h36 : opc = 36
   ·subst h36
    by_cases hsm : srcF l a = to
    ·unfold gEnd cF at hfin
     simp only at hfin
     rw [if_pos (by simp [hsm])] at hfin
     simp only at hfin
     subst hfin
     repeat (first | (with_reducible refine GA.go mixo rfl ?_) | simp only [hsm, decide_true, go_sem, simprocAttr])
     refine ⟨_, _, _, ?_, Wk.mk [4, 3, 2, 1, 0] [] ?_ ?_ ?_, k + 1, _, rfl, by omega, key, hs, rfl, rfl⟩
     ·omega
     ·simp only [WkE, WkH, go_sem, simprocAttr]
      repeat' refine and_of ?_ ?_
      all_goals first | exact wkt | skip
     ·exact (.cons rfl (.keep (by simp only [go_sem, simprocAttr]) rfl (by decide) (fun i j _ hj => sO_pu _ _ _ _)) (.cons rfl (.k5) (.cons rfl (.w4) (.cons rfl (.ls) (.cons rfl (.ls) .nil)))))
     ·simp
    ·(try simp only [hsm, decide_true, decide_false, go_sem, simprocAttr])
     iterate 5 (with_reducible refine GA.go mixo rfl ?_; try simp only [hsm, decide_true, decide_false, go_sem, simprocAttr])
     refine tail (fun h => hsm h.2) _ _ _ (Wk.mk [5, 4, 3, 2, 1, 0] [] ?_ ?_ ?_) ?_
     ·simp only [WkE, WkH, go_sem, simprocAttr]
      repeat' refine and_of ?_ ?_
      all_goals first | exact wkt | skip
     ·exact (.cons rfl (.lsti (x := _) (by simp only [go_sem, simprocAttr] <;> rfl) (by rfl) (by rfl) (by rfl) (by rfl) (by rfl) (by rfl) (by simp) (fun i hi => by rcases lt5 hi with rfl | rfl | rfl | rfl | rfl <;> simp only [go_sem, simprocAttr]) (by rfl)) (.cons rfl (.keep (by simp only [go_sem, simprocAttr]) rfl (by decide) (fun i j _ hj => sO_pu _ _ _ _)) (.cons rfl (.k5) (.cons rfl (.w4) (.cons rfl (.ls) (.cons rfl (.ls) .nil))))))
     ·simp
     intro e' H' hw
     refine GA.wk hw ?_
     repeat (first | (with_reducible refine GA.go mixo rfl ?_) | simp only [go_sem, simprocAttr])
     refine ⟨_, _, _, ?_, Wk.mk [4, 3, 2, 1, 0] [] ?_ ?_ ?_, k + 1, s2, rfl, by omega, key, hs, rfl, rfl⟩
     ·omega
     ·simp only [WkE, WkH, go_sem, simprocAttr]
      repeat' refine and_of ?_ ?_
      all_goals first | exact wkt | skip
     ·exact (.cons rfl (.keep (by simp only [go_sem, simprocAttr]) rfl (by decide) (fun i j _ hj => sO_pu _ _ _ _)) (.cons rfl (.k5) (.cons rfl (.w4) (.cons rfl (.ls) (.cons rfl (.ls) .nil)))))
     ·simp
   ·(try simp only [h36, decide_false, go_sem, simprocAttr])
    iterate 5 (with_reducible refine GA.go mixo rfl ?_; try simp only [h36, decide_false, go_sem, simprocAttr])
    refine tail (fun h => h36 h.1) _ _ _ (Wk.mk [5, 4, 3, 2, 1, 0] [] ?_ ?_ ?_) ?_
    ·simp only [WkE, WkH, go_sem, simprocAttr]
     repeat' refine and_of ?_ ?_
     all_goals first | exact wkt | skip
    ·exact (.cons rfl (.lsti (x := _) (by simp only [go_sem, simprocAttr] <;> rfl) (by rfl) (by rfl) (by rfl) (by rfl) (by rfl) (by rfl) (by simp) (fun i hi => by rcases lt5 hi with rfl | rfl | rfl | rfl | rfl <;> simp only [go_sem, simprocAttr]) (by rfl)) (.cons rfl (.keep (by simp only [go_sem, simprocAttr]) rfl (by decide) (fun i j _ hj => sO_pu _ _ _ _)) (.cons rfl (.k5) (.cons rfl (.w4) (.cons rfl (.ls) (.cons rfl (.ls) .nil))))))
    ·simp
    intro e' H' hw
    refine GA.wk hw ?_
    repeat (first | (with_reducible refine GA.go mixo rfl ?_) | simp only [go_sem, simprocAttr])
    refine ⟨_, _, _, ?_, Wk.mk [4, 3, 2, 1, 0] [] ?_ ?_ ?_, k + 1, s2, rfl, by omega, key, hs, rfl, rfl⟩
    ·omega
    ·simp only [WkE, WkH, go_sem, simprocAttr]
     repeat' refine and_of ?_ ?_
     all_goals first | exact wkt | skip
    ·exact (.cons rfl (.keep (by simp only [go_sem, simprocAttr]) rfl (by decide) (fun i j _ hj => sO_pu _ _ _ _)) (.cons rfl (.k5) (.cons rfl (.w4) (.cons rfl (.ls) (.cons rfl (.ls) .nil)))))
    ·simp
  clear key hs hfin
  unfold gSw at hsw
  repeat (first | (with_reducible refine GA.go mixo rfl ?_) | simp only [go_sem, simprocAttr])
  refine ⟨fun h1 => ?_, fun h1 => ?_⟩
  ·rw [if_pos h1] at hsw
   cases hsw
   repeat (first | (with_reducible refine GA.go mixo rfl ?_) | simp only [hls.1, hls.2.1, hls.2.2.1, hls.2.2.2.1, hls.2.2.2.2, hlr.1, hlr.2.1, hlr.2.2.1, hlr.2.2.2, decide_true, go_sem, simprocAttr])
   refine Wk.mk [5, 8, 3, 2, 1, 0] [6] ?_ ?_ ?_
   ·simp only [WkE, WkH, go_sem, simprocAttr]
    repeat' refine and_of ?_ ?_
    all_goals first | exact wkt | skip
   ·refine (.cons rfl (.lsti (x := _) (by simp only [go_sem, simprocAttr] <;> rfl) (by rfl) (by rfl) (by rfl) (by rfl) (by rfl) (by rfl) (by simp) (fun i hi => by rcases lt5 hi with rfl | rfl | rfl | rfl | rfl <;> simp only [go_sem, simprocAttr]) (by rfl)) (.cons rfl (.snocw (by simp only [go_sem, simprocAttr] <;> rfl) (by simp) (by rfl) rfl (by decide) (by omega) (fun i j hi _ => sO_cons _ _ _ _ _ hi) (fun i j _ _ => sO_pu _ _ _ _) (fun j hj => ?_)) (.cons rfl (.k5) (.cons rfl (.w4) (.cons rfl (.ls) (.cons rfl (.ls) .nil))))))
    rw [sO_top]
    cases Nat.lt_one_iff.1 hj
    exact Wv.cv (.os (by simp) (by simp only [go_sem, simprocAttr] <;> rfl) (by simp only [go_sem, simprocAttr] <;> omega) (fun i j hi hj => fn_row1 hi hj (by omega)) (fun _ _ _ _ => rfl))
   ·simp
  rw [if_neg h1] at hsw
  repeat (first | (with_reducible refine GA.go mixo rfl ?_) | simp only [go_sem, simprocAttr])
  refine ⟨fun h2 => ?_, fun h2 => ?_⟩
  ·rw [if_pos h2] at hsw
   cases st with
   |nil => cases hsw
   |cons t r =>
   simp only at hsw
   cases hsw
   have hrl : r.length ≤ k := by simp only [List.length_cons] at hst; omega
   have hsub : IntKind.wrap .i64 (((r.length + 1 : Nat) : Int) - 1) = (r.length : Int) := by rw [wrap64 (by omega)]; omega
   have hz0 : (0 : Int) ≤ (r.length : Int) := by omega
   have hz1 : (r.length : Int) < ((r.length + 1 : Nat) : Int) := by omega
   have hz2 : r.length < r.length + 1 ∧ r.length + 1 ≤ r.length + 1 := by omega
   have hg0 : (rowB 43 1 (r.length + 1) 0 (sO regs (t :: r))).get r.length = .fs 1 regs (nF t) := by
    have := row_get (ty := 43) (n := r.length + 1) (z := 0) (row := sO regs (t :: r)) r.length 0 (by decide : 0 < 1)
    rw [sO_top, Nat.mul_one] at this
    exact this
   repeat (first | (with_reducible refine GA.go mixo rfl ?_) | simp only [hsub, hz0, hz1, hz2.1, hz2.2, hg0, hlr.1, hlr.2.1, hlr.2.2.1, hlr.2.2.2, decide_true, go_sem, simprocAttr])
   refine Wk.mk [5, 4, 3, 2, 1, 0] [6] ?_ ?_ ?_
   ·simp only [WkE, WkH, go_sem, simprocAttr]
    repeat' refine and_of ?_ ?_
    all_goals first | exact wkt | skip
    exact .cv (.os (by simp) (by simp only [go_sem, simprocAttr] <;> rfl) (by simp only [go_sem, simprocAttr] <;> omega) (fun i j hi hj => fn_row1 hi hj (by omega)) (fun _ _ _ _ => rfl))
   ·refine (.cons rfl (.lsti (x := _) (by simp only [go_sem, simprocAttr] <;> rfl) (by rfl) (by rfl) (by rfl) (by rfl) (by rfl) (by rfl) (by simp) (fun i hi => by rcases lt5 hi with rfl | rfl | rfl | rfl | rfl <;> simp only [go_sem, simprocAttr]) (by rfl)) (.cons rfl (.putw (n := r.length + 1) (q := r.length) (by simp only [go_sem, simprocAttr] <;> rfl) (by simp) rfl (by omega) rfl (by decide) (by omega) (fun i j hi hne hj => ?_) (fun i j _ _ => sO_pu _ _ _ _) (fun j hj => ?_)) (.cons rfl (.k5) (.cons rfl (.w4) (.cons rfl (.ls) (.cons rfl (.ls) .nil))))))
    ·rw [sO_cons _ _ _ _ _ (by omega), sO_cons _ _ _ _ _ (by omega)]
    ·rw [sO_top]
     cases Nat.lt_one_iff.1 hj
     exact Wv.same rfl
   ·simp
  rw [if_neg h2] at hsw
  repeat (first | (with_reducible refine GA.go mixo rfl ?_) | simp only [go_sem, simprocAttr])
  refine ⟨fun h3 => ?_, fun h3 => ?_⟩
  ·rw [if_pos h3] at hsw
   split at hsw
   rotate_left
   ·cases hsw
   rename_i hrg
   obtain ⟨q, hq⟩ : ∃ q : Nat, pt.getD k 0 = (q : Int) := ⟨(pt.getD k 0).toNat, by omega⟩
   rw [hq] at hrg hsw
   rw [Int.toNat_natCast] at hsw
   cases hsw
   have hpk : iC .i64 pt k 0 = .n .i64 (q : Int) := by unfold iC; rw [hq]
   repeat (first | (with_reducible refine GA.go mixo rfl ?_) | simp only [h0, hkpi, hpk, go_sem, simprocAttr])
   refine gcall_has [] (.cons (.rfl (by rfl)) (.cons (.rfl (by rfl)) (.cons (.rfl (by rfl)) .nil))) (writes_has na ra regs par cs k q (by omega) (by omega) (by omega) hr hin') (by simp only [go_sem, simprocAttr]) ?_
   repeat (first | (with_reducible refine GA.go mixo rfl ?_) | simp only [go_sem, simprocAttr])
   refine gcall_has [6] (fargs := [.fs 1 regs (nF l), .fs 1 regs (bF (wrB ((cs.take q).drop k)))]) (.cons (.rfl (by rfl)) (.cons (Cv.own (ty := 4) (z := 0) (by simp) (by simp only [go_sem, simprocAttr] <;> rfl) (fun _ _ _ _ => rfl)) .nil)) (withoutSources_has l _ hr hl) (by simp only [go_sem, simprocAttr]) ?_
   repeat (first | (with_reducible refine GA.go mixo rfl ?_) | simp only [go_sem, simprocAttr])
   refine Wk.mk [5, 4, 3, 2, 1, 0] [7] ?_ ?_ ?_
   ·simp only [WkE, WkH, go_sem, simprocAttr]
    repeat' refine and_of ?_ ?_
    all_goals first | exact wkt | skip
    exact .cv (Cv.own (ty := 3) (z := 0) (by simp) (by simp only [go_sem, simprocAttr] <;> rfl) (fun _ _ _ _ => rfl))
   ·exact (.cons rfl (.lsti (x := _) (by simp only [go_sem, simprocAttr] <;> rfl) (by rfl) (by rfl) (by rfl) (by rfl) (by rfl) (by rfl) (by simp) (fun i hi => by rcases lt5 hi with rfl | rfl | rfl | rfl | rfl <;> simp only [go_sem, simprocAttr]) (by rfl)) (.cons rfl (.keep (by simp only [go_sem, simprocAttr]) rfl (by decide) (fun i j _ hj => sO_pu _ _ _ _)) (.cons rfl (.k5) (.cons rfl (.w4) (.cons rfl (.ls) (.cons rfl (.ls) .nil))))))
   ·simp
  rw [if_neg h3] at hsw
  repeat (first | (with_reducible refine GA.go mixo rfl ?_) | simp only [go_sem, simprocAttr])
  refine ⟨fun h4 => ?_, fun h4 => ?_⟩
  ·rw [if_pos h4] at hsw
   split at hsw
   rotate_left
   ·cases hsw
   rename_i hrg
   obtain ⟨q, hq⟩ : ∃ q : Nat, pt.getD k 0 = (q : Int) := ⟨(pt.getD k 0).toNat, by omega⟩
   rw [hq] at hrg hsw
   rw [Int.toNat_natCast] at hsw
   have hpk : iC .i64 pt k 0 = .n .i64 (q : Int) := by unfold iC; rw [hq]
   have hq0 : (0 : Int) ≤ (q : Int) := by omega
   have hq2 : (q : Int) < (cs.length : Int) := by omega
   have hcq := cC0 cs q
   repeat (first | (with_reducible refine GA.go mixo rfl ?_) | simp only [h0, hkpi, hpk, hq0, hq2, hcq, go_sem, simprocAttr])
   refine ⟨fun h5 => ?_, fun h5 => ?_⟩
   ·rw [if_pos (show (cs.getD q dIn).1 = 29 from h5)] at hsw
    cases hsw
    repeat (first | (with_reducible refine GA.go mixo rfl ?_) | simp only [h0, hkpi, hpk, go_sem, simprocAttr])
    refine gcall_has [] (.cons (.rfl (by rfl)) (.cons (.rfl (by rfl)) (.cons (.rfl (by rfl)) .nil))) (writes_has na ra regs par cs q k (by omega) (by omega) (by omega) hr hin') (by simp only [go_sem, simprocAttr]) ?_
    repeat (first | (with_reducible refine GA.go mixo rfl ?_) | simp only [go_sem, simprocAttr])
    refine gcall_has [6] (fargs := [.fs 1 regs (nF l), .fs 1 regs (bF (wrB ((cs.take k).drop q)))]) (.cons (.rfl (by rfl)) (.cons (Cv.own (ty := 4) (z := 0) (by simp) (by simp only [go_sem, simprocAttr] <;> rfl) (fun _ _ _ _ => rfl)) .nil)) (withoutSources_has l _ hr hl) (by simp only [go_sem, simprocAttr]) ?_
    repeat (first | (with_reducible refine GA.go mixo rfl ?_) | simp only [go_sem, simprocAttr])
    refine Wk.mk [5, 4, 3, 2, 1, 0] [7] ?_ ?_ ?_
    ·simp only [WkE, WkH, go_sem, simprocAttr]
     repeat' refine and_of ?_ ?_
     all_goals first | exact wkt | skip
     exact .cv (Cv.own (ty := 3) (z := 0) (by simp) (by simp only [go_sem, simprocAttr] <;> rfl) (fun _ _ _ _ => rfl))
    ·exact (.cons rfl (.lsti (x := _) (by simp only [go_sem, simprocAttr] <;> rfl) (by rfl) (by rfl) (by rfl) (by rfl) (by rfl) (by rfl) (by simp) (fun i hi => by rcases lt5 hi with rfl | rfl | rfl | rfl | rfl <;> simp only [go_sem, simprocAttr]) (by rfl)) (.cons rfl (.keep (by simp only [go_sem, simprocAttr]) rfl (by decide) (fun i j _ hj => sO_pu _ _ _ _)) (.cons rfl (.k5) (.cons rfl (.w4) (.cons rfl (.ls) (.cons rfl (.ls) .nil))))))
    ·simp
   ·rw [if_neg (show ¬ (cs.getD q dIn).1 = 29 from h5)] at hsw
    cases st with
    |nil => cases hsw
    |cons t r =>
    simp only at hsw
    cases hsw
    have hrl : r.length ≤ k := by simp only [List.length_cons] at hst; omega
    have hsub : IntKind.wrap .i64 (((r.length + 1 : Nat) : Int) - 1) = (r.length : Int) := by rw [wrap64 (by omega)]; omega
    have hz0 : (0 : Int) ≤ (r.length : Int) := by omega
    have hz1 : (r.length : Int) < ((r.length + 1 : Nat) : Int) := by omega
    have hz2 : r.length < r.length + 1 ∧ r.length + 1 ≤ r.length + 1 := by omega
    have hg0 : (rowB 43 1 (r.length + 1) 0 (sO regs (t :: r))).get r.length = .fs 1 regs (nF t) := by
     have := row_get (ty := 43) (n := r.length + 1) (z := 0) (row := sO regs (t :: r)) r.length 0 (by decide : 0 < 1)
     rw [sO_top, Nat.mul_one] at this
     exact this
    have hz3 : (r.length : Int) ≤ ((r.length + 1 : Nat) : Int) := by omega
    repeat (first | (with_reducible refine GA.go mixo rfl ?_) | simp only [hsub, hz0, hz1, hz2.1, hz2.2, hg0, go_sem, simprocAttr])
    refine gcall_has [] (.cons (.rfl (by rfl)) (.cons (.rfl (by rfl)) .nil)) (bothSources_has l t hr) (by simp only [go_sem, simprocAttr]) ?_
    repeat (first | (with_reducible refine GA.go mixo rfl ?_) | simp only [hsub, hz0, hz3, Int.le_refl, go_sem, simprocAttr])
    refine Wk.mk [5, 4, 3, 2, 1, 0] [6] ?_ ?_ ?_
    ·simp only [WkE, WkH, go_sem, simprocAttr]
     repeat' refine and_of ?_ ?_
     all_goals first | exact wkt | skip
     exact .cv (Cv.own (ty := 3) (z := 0) (by simp) (by simp only [go_sem, simprocAttr] <;> rfl) (fun _ _ _ _ => rfl))
    ·exact (.cons rfl (.lsti (x := _) (by simp only [go_sem, simprocAttr] <;> rfl) (by rfl) (by rfl) (by rfl) (by rfl) (by rfl) (by rfl) (by simp) (fun i hi => by rcases lt5 hi with rfl | rfl | rfl | rfl | rfl <;> simp only [go_sem, simprocAttr]) (by rfl)) (.cons rfl (.pop (n := r.length + 1) (by simp only [go_sem, simprocAttr] <;> rfl) rfl (by decide) (by omega) (fun i j hi _ => sO_cons _ _ _ _ _ hi) (fun i j _ _ => sO_pu _ _ _ _)) (.cons rfl (.k5) (.cons rfl (.w4) (.cons rfl (.ls) (.cons rfl (.ls) .nil))))))
    ·simp
  rw [if_neg h4] at hsw
  cases hsw
  repeat (first | (with_reducible refine GA.go mixo rfl ?_) | simp only [go_sem, simprocAttr])
  refine Wk.mk [5, 4, 3, 2, 1, 0] [] ?_ ?_ ?_
  ·simp only [WkE, WkH, go_sem, simprocAttr]
   repeat' refine and_of ?_ ?_
   all_goals first | exact wkt | skip
  ·exact (.cons rfl (.lsti (x := _) (by simp only [go_sem, simprocAttr] <;> rfl) (by rfl) (by rfl) (by rfl) (by rfl) (by rfl) (by rfl) (by simp) (fun i hi => by rcases lt5 hi with rfl | rfl | rfl | rfl | rfl <;> simp only [go_sem, simprocAttr]) (by rfl)) (.cons rfl (.keep (by simp only [go_sem, simprocAttr]) rfl (by decide) (fun i j _ hj => sO_pu _ _ _ _)) (.cons rfl (.k5) (.cons rfl (.w4) (.cons rfl (.ls) (.cons rfl (.ls) .nil))))))
  ·simp
 ·have hkn : k = cs.length := by omega
  subst hkn
  rw [List.drop_length, gGo] at hs
  cases hs
  repeat (first | (with_reducible refine GA.go mixo rfl ?_) | simp only [go_sem, simprocAttr])
  refine ⟨[_, _], rfl, .a (by simp) (.v rfl rfl (.v rfl rfl (.v rfl rfl (.o (x := _) (by simp only [go_sem, simprocAttr]; rfl) (by rfl) (by rfl) (by rfl) (by rfl) (by decide) (Nat.le_refl _) (Nat.le_refl _) (fun i j _ hj => row_get i j hj) (fun i j _ hj => cC_cell i hj) .nil)))) rfl (.v rfl rfl .nil)⟩
end Go.Proofs.YtidhfimbnjaceaaGreat
