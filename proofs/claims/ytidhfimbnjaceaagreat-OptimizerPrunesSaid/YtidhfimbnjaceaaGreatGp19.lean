/- A part of the proof of OptimizerPrunes: FoM FrB FrC PsR FrD FvC. No condition. -/
import Derived.Test.YtidhfimbnjaceaaGreatGp18
import Derived.Test.YtidhfimbnjaceaaGreatGp12
import Derived.Test.YtidhfimbnjaceaaGreatGp13
import Derived.Test.YtidhfimbnjaceaaGreatGp14
import Derived.Test.YtidhfimbnjaceaaGreatGp15
set_option linter.unusedSimpArgs false
set_option linter.unusedVariables false
set_option linter.constructorNameAsVariable false
set_option maxRecDepth 100000
set_option maxHeartbeats 4000000
namespace Go.Proofs.YtidhfimbnjaceaaGreat
open Go.RowKit
set_option linter.unusedVariables false
def apI (op a b : Int) : Int × Int := (if arithErr op b = 0 then arith op a b else 0, arithErr op b)
theorem apply_has (op a b : Int) (h : arithB op = true) (ha : 0 ≤ a ∧ a < 4294967296) (hb : 0 ≤ b ∧ b < 4294967296) : Has Tryz.prog 92 [.n .i64 op, .n .u32 a, .n .u32 b] [.v (.n .u32 (apI op a b).1), .v (.n .i64 (apI op a b).2)] := by
 refine has_n3 ⟨_, Tryz.func92, by kernel_rfl, by kernel_rfl⟩ fun w => ?_
 by_cases he : arithErr op b = 0
 ·simp only [apI, if_pos he]
  rw [he]
  exact apply_ok op a b ha.1 ha.2 hb.1 hb.2 he w
 ·simp only [apI, if_neg he]
  exact apply_err op a b ha.1 ha.2 hb.1 hb.2 he w
end Go.Proofs.YtidhfimbnjaceaaGreat

namespace Go.Proofs.YtidhfimbnjaceaaGreat
open Go.RowKit
set_option linter.unusedVariables false
set_option linter.unusedSimpArgs false
def usA (op : Int) : Bool := (shapeT op.toNat).getD 2 false
def usB (op : Int) : Bool := (shapeT op.toNat).getD 3 false
end Go.Proofs.YtidhfimbnjaceaaGreat

namespace Go.Proofs.YtidhfimbnjaceaaGreat
open Go.RowKit
set_option linter.unusedVariables false
set_option linter.unusedSimpArgs false
theorem WkB.putw {r : Nat → Option Nat} {M : List Nat} {H : AH} {b ty esz n z q o : Nat} {row row2 : Nat → Nat → AV} {l : List AV} (hx : H.at b = some ((rowB ty esz n z row).putN o l)) (ho : o = q * esz) (hl : l.length = esz) (hq : q < n) (hM : M.contains b = false) (h0 : 0 < esz) (hn : n * esz < 1000000)
  (h1 : ∀ i j, i < n → i ≠ q → j < esz → row2 i j = row i j) (hc : ∀ i j, i < n → j < esz → (row i j).pu 3 = true) (h2 : ∀ j, j < esz → Wv r M H (l[j]?.getD .u) (row2 q j)) : WkB r M H b (rowB ty esz n z row2) := by
 subst ho
 refine ⟨_, hx, rfl, rfl, rfl, rfl, .inl rfl, ?_, fun i hi => ?_⟩
 ·rw [if_neg (by simpa using hM)]; exact Nat.le_refl _
 have hi' : i < n * esz := hi
 have hqi : i / esz < n := Nat.div_lt_of_lt_mul (by rw [Nat.mul_comm]; exact hi')
 have hm : i % esz < esz := Nat.mod_lt _ h0
 have hdm : i / esz * esz + i % esz = i := by
  have := Nat.div_add_mod i esz
  rw [Nat.mul_comm] at this
  exact this
 have e1 : (rowB ty esz n z row2).get i = row2 (i / esz) (i % esz) := rfl
 have e2 := put_row (ty := ty) (z := z) (row := row) hl hq hn _ _ hqi hm
 rw [hdm] at e2
 rw [e1, e2]
 by_cases h : i / esz = q
 ·rw [if_pos h, h]
  exact h2 _ hm
 ·rw [if_neg h, h1 _ _ hqi h hm]
  exact .cv (.rfl (hc _ _ hqi hm))
def upd {α : Type} (f : Nat → α) (r : Nat) (x : α) : Nat → α := fun i => if i = r then x else f i
structure InOk (regs : Nat) (x : In) : Prop where
 op : 0 ≤ x.1 ∧ x.1 < 39
 a : usA x.1 = true → 0 ≤ x.2.2.1 ∧ x.2.2.1 < regs
 b : usB x.1 = true → 0 ≤ x.2.2.2.1 ∧ x.2.2.2.1 < regs
 to : writesI x.1 x.2.1 < regs
 arg : 0 ≤ x.2.2.2.2 ∧ x.2.2.2.2 < 4294967296
end Go.Proofs.YtidhfimbnjaceaaGreat

namespace Go.Proofs.YtidhfimbnjaceaaGreat
open Go.RowKit
set_option linter.unusedVariables false
def uR32 (x : Int) : Prop := 0 ≤ x ∧ x < 4294967296
theorem wrapR_u32 (x : Int) : uR32 (IntKind.u32.wrap x) := by unfold uR32; rw [IntKind.wrap_u32]; omega
theorem flagR_u32 (b : Bool) : uR32 (flagI b) := by cases b <;> simp [flagI, uR32]
theorem arithR_u32 (op a b : Int) (ha : uR32 a) (hb : uR32 b) (h : arithErr op b = 0) : uR32 (arith op a b) := by
 unfold uR32 at ha hb
 unfold arithErr at h
 split at h
 ·simp at h
 rename_i hop
 split at h
 ·simp at h
 rename_i hdiv
 unfold arith
 by_cases o8 : op = 8
 ·rw [if_pos o8]
  unfold uR32; omega
 rw [if_neg o8]
 by_cases o9 : op = 9
 ·rw [if_pos o9]
  unfold uR32; omega
 rw [if_neg o9]
 by_cases o10 : op = 10
 ·rw [if_pos o10]
  unfold uR32; omega
 rw [if_neg o10]
 by_cases o11 : op = 11
 ·rw [if_pos o11]
  have hb0 : b ≠ 0 := fun e0 => hdiv ⟨e0, .inl o11⟩
  refine ⟨Int.ediv_nonneg ha.1 hb.1, ?_⟩
  have := Int.ediv_le_self (a := a) b ha.1
  omega
 rw [if_neg o11]
 by_cases o12 : op = 12
 ·rw [if_pos o12]
  have hb0 : b ≠ 0 := fun e0 => hdiv ⟨e0, .inr o12⟩
  have h1 := Int.emod_nonneg a hb0
  have h2 := Int.emod_lt_of_pos a (show 0 < b by omega)
  unfold uR32; omega
 rw [if_neg o12]
 by_cases o13 : op = 13
 ·rw [if_pos o13]
  exact wrapR_u32 _
 rw [if_neg o13]
 by_cases o14 : op = 14
 ·rw [if_pos o14]
  exact wrapR_u32 _
 rw [if_neg o14]
 by_cases o15 : op = 15
 ·rw [if_pos o15]
  exact wrapR_u32 _
 rw [if_neg o15]
 by_cases o16 : op = 16
 ·rw [if_pos o16]
  unfold uR32; omega
 rw [if_neg o16]
 by_cases o17 : op = 17
 ·rw [if_pos o17]
  have hp : (0 : Int) < 2 ^ (b % 32).toNat := Int.pow_pos (by decide)
  refine ⟨Int.ediv_nonneg ha.1 (by omega), ?_⟩
  have := Int.ediv_le_self (a := a) (2 ^ (b % 32).toNat) ha.1
  omega
 rw [if_neg o17]
 by_cases o18 : op = 18
 ·rw [if_pos o18]
  unfold uR32; omega
 rw [if_neg o18]
 by_cases o19 : op = 19
 ·rw [if_pos o19]
  unfold uR32; omega
 rw [if_neg o19]
 by_cases o20 : op = 20
 ·rw [if_pos o20]
  exact wrapR_u32 _
 rw [if_neg o20]
 by_cases o21 : op = 21
 ·rw [if_pos o21]
  exact flagR_u32 _
 rw [if_neg o21]
 by_cases o22 : op = 22
 ·rw [if_pos o22]
  exact flagR_u32 _
 rw [if_neg o22]
 by_cases o23 : op = 23
 ·rw [if_pos o23]
  exact flagR_u32 _
 rw [if_neg o23]
 by_cases o24 : op = 24
 ·rw [if_pos o24]
  exact flagR_u32 _
 rw [if_neg o24]
 by_cases o25 : op = 25
 ·rw [if_pos o25]
  exact flagR_u32 _
 rw [if_neg o25]
 exact flagR_u32 _
theorem apI_rng (op a b : Int) (ha : 0 ≤ a ∧ a < 4294967296) (hb : 0 ≤ b ∧ b < 4294967296) : 0 ≤ (apI op a b).1 ∧ (apI op a b).1 < 4294967296 := by
 unfold apI
 simp only
 split
 ·rename_i h
  exact arithR_u32 op a b ha hb h
 ·omega
end Go.Proofs.YtidhfimbnjaceaaGreat

namespace Go.Proofs.YtidhfimbnjaceaaGreat
open Go.RowKit
set_option linter.unusedVariables false
set_option linter.unusedSimpArgs false
theorem lt4 {i : Nat} (h : i < 4) : i = 0 ∨ i = 1 ∨ i = 2 ∨ i = 3 := by omega
end Go.Proofs.YtidhfimbnjaceaaGreat

namespace Go.Proofs.YtidhfimbnjaceaaGreat
open Go.RowKit
set_option linter.unusedVariables false
set_option linter.unusedSimpArgs false
theorem rexpression_has (op : Int) : Has Tryz.prog 45 [.n .i64 op] [.v (.b (expB op))] := by
 refine hasQ_of' mixo x71ok ⟨by simp, by decide⟩ ?_
 simp only [argE]
 unfold expB arithB
 by_cases h3 : op = 3
 ·repeat (first | (with_reducible refine GA.go mixo rfl ?_) | simp only [h3, decide_true, go_sem, simprocAttr])
  exact has_end1 (by simp) rfl
 by_cases h8 : 8 ≤ op
 ·by_cases h26 : op ≤ 26
  ·repeat (first | (with_reducible refine GA.go mixo rfl ?_) | simp only [h3, h8, h26, decide_true, decide_false, go_sem, simprocAttr])
   exact has_end1 (by simp [h8, h26]) rfl
  ·by_cases h32 : op = 32
   ·subst h32
    repeat (first | (with_reducible refine GA.go mixo rfl ?_) | simp only [h3, h8, h26, decide_true, decide_false, go_sem, simprocAttr])
    exact has_end1 (by simp) rfl
   ·repeat (first | (with_reducible refine GA.go mixo rfl ?_) | simp only [h3, h8, h26, h32, decide_true, decide_false, go_sem, simprocAttr])
    exact has_end1 (by simp [h3, h8, h26, h32]) rfl
 ·have h26 : op ≤ 26 := by omega
  have h32 : ¬ op = 32 := by omega
  have h33 : ¬ op = 33 := by omega
  repeat (first | (with_reducible refine GA.go mixo rfl ?_) | simp only [h3, h8, h26, h32, h33, decide_true, decide_false, go_sem, simprocAttr])
  exact has_end1 (by simp [h3, h8, h32, h33]) rfl
end Go.Proofs.YtidhfimbnjaceaaGreat
