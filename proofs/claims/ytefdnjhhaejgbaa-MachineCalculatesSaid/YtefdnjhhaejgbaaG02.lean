/- A part of the proof of MachineCalculates: Tr Tp A C D B B2 B3. No condition. -/
import Derived.BigQuiet
import Derived.Carry
import Derived.Deep.AppendLies
import Derived.Deep.QuietTactic
import Derived.Deep.RegionHeld3
import Derived.Lib.Hide
import Derived.StillTailTactics
import Derived.WalkKit
import Derived.WalkLawsBesides
import Derived.WalkSpells
import Derived.Test.YtefdnjhhaejgbaaG01
import Derived.Test.YtefdnjhhaejgbaaProg
namespace Go.Proofs.Ytefdnjhhaejgbaa
open Go.RowKit
set_option linter.unusedVariables false

/-- code as a tree -/
inductive T where
  | nil
  | plain (i : RI) (r : T)
  | ite (i : RI) (a : T) (j : RI) (r : T)
  | ite2 (i : RI) (a : T) (e : RI) (b : T) (j : RI) (r : T)
  | loop (i : RI) (a : T) (j : RI) (r : T)

def T.flat : T → List RI
  | .nil => []
  | .plain i r => i :: r.flat
  | .ite i a j r => i :: (a.flat ++ j :: r.flat)
  | .ite2 i a e b j r => i :: (a.flat ++ e :: (b.flat ++ j :: r.flat))
  | .loop i a j r => i :: (a.flat ++ j :: r.flat)
def T.size : T → Nat
  | .nil => 0
  | .plain _ r => r.size + 1
  | .ite _ a _ r => a.size + r.size + 2
  | .ite2 _ a _ b _ r => a.size + b.size + r.size + 3
  | .loop _ a _ r => a.size + r.size + 2
theorem T.flat_length : ∀ t : T, t.flat.length = t.size
  | .nil => rfl
  | .plain i r => by simp only [flat, size, List.length_cons, r.flat_length]
  | .ite i a j r => by simp only [flat, size, List.length_cons, List.length_append, a.flat_length, r.flat_length]; omega
  | .ite2 i a e b j r => by simp only [flat, size, List.length_cons, List.length_append, a.flat_length, b.flat_length, r.flat_length]; omega
  | .loop i a j r => by simp only [flat, size, List.length_cons, List.length_append, a.flat_length, r.flat_length]; omega

/-- the operations are where they belong; 'w': within a loop; 'd': how deep blocks may still be -/
def T.wf : Bool → Nat → T → Prop
  | _, _, .nil => True
  | w, d, .plain i r => (i.op ≠ 27 ∧ i.op ≠ 28 ∧ i.op ≠ 29 ∧ i.op ≠ 31) ∧ (i.op = 30 → w = true) ∧ r.wf w d
  | w, d, .ite i a j r => i.op = 27 ∧ j.op = 31 ∧ 0 < d ∧ a.wf w (d - 1) ∧ r.wf w d
  | w, d, .ite2 i a e b j r => i.op = 27 ∧ e.op = 28 ∧ j.op = 31 ∧ 0 < d ∧ a.wf w (d - 1) ∧ b.wf w (d - 1) ∧ r.wf w d
  | w, d, .loop i a j r => i.op = 29 ∧ j.op = 31 ∧ 0 < d ∧ a.wf true (d - 1) ∧ r.wf w d

/-- what is left of code when some blocks are open: a tree, then what closes or divides the innermost block -/
theorem parse : ∀ (n : Nat) (l : List RI) (k : Nat) (o : List NB), l.length ≤ n → o.length ≤ 8 → (nestRun l k o).2 = false →
    (o = [] ∧ ∃ t : T, l = t.flat ∧ t.wf false (8 - o.length)) ∨
    (∃ (o' : List NB) (b : NB) (t : T) (x : RI) (l' : List RI) (k' : Nat), o = o' ++ [b] ∧ l = t.flat ++ x :: l' ∧ t.wf b.within (8 - o.length) ∧ ((x.op = 31 ∧ (nestRun l' k' o').2 = false) ∨ (x.op = 28 ∧ b.loop = false ∧ b.other = false ∧ (nestRun l' k' (o' ++ [⟨b.loop, b.within, true⟩])).2 = false)))
  | n, [], k, o, _, _, h => by
    left
    simp only [nestRun, decide_eq_false_iff_not] at h
    have : o = [] := by
      cases o with
      | nil => rfl
      | cons a l => simp at h
    exact ⟨this, .nil, rfl, trivial⟩
  | 0, i :: l, k, o, hn, _, _ => by simp at hn
  | n + 1, i :: l, k, o, hn, h8, h => by
    have hl : l.length ≤ n := by simpa using hn
    simp only [nestRun] at h
    cases hs : nestStep i.op o with
    | none => rw [hs] at h; cases h
    | some o1 =>
      rw [hs] at h
      simp only at h
      have hl1 := nestStep_len hs h8
      by_cases o27 : i.op = 27
      · -- an if
        rw [o27] at hs
        simp only [nestStep, if_true] at hs
        split at hs
        · rename_i hlt
          simp only [Option.some.injEq] at hs
          subst hs
          rcases parse n l (k + 1) _ hl hl1 h with ⟨h0, _⟩ | ⟨o', b, a, x, l', k', h1, h2, h3, h4⟩
          · simp at h0
          · obtain ⟨rfl, hb⟩ := List.append_inj' h1 rfl
            simp only [List.cons.injEq, and_true] at hb
            subst hb
            have hle : l'.length ≤ n := by have := congrArg List.length h2; simp at this; omega
            have hd : 8 - (o ++ [(⟨false, (nbTop o).within, false⟩ : NB)]).length = 8 - o.length - 1 := by simp; omega
            rw [hd] at h3
            simp only at h3
            rcases h4 with ⟨hx, hr⟩ | ⟨hx, _, _, hr⟩
            · rcases parse n l' k' o hle h8 hr with ⟨h0, t, ht, hw⟩ | ⟨o2, b2, t, y, l2, k2, g1, g2, g3, g4⟩
              · left
                subst h0
                exact ⟨rfl, .ite i a x t, by rw [h2, ht]; rfl, o27, hx, by simp, by simpa [nbTop] using h3, hw⟩
              · right
                refine ⟨o2, b2, .ite i a x t, y, l2, k2, g1, by rw [h2, g2]; simp [T.flat], ⟨o27, hx, by omega, ?_, g3⟩, g4⟩
                rw [g1, nbTop_snoc] at h3
                rw [g1]; exact h3
            · rcases parse n l' k' _ hle (by simp; omega) hr with ⟨h0, _⟩ | ⟨o2, b2, t2, y, l2, k2, g1, g2, g3, g4⟩
              · simp at h0
              · obtain ⟨rfl, hb2⟩ := List.append_inj' g1 rfl
                simp only [List.cons.injEq, and_true] at hb2
                subst hb2
                have hle2 : l2.length ≤ n := by have := congrArg List.length g2; simp at this; omega
                have hd2 : 8 - (o ++ [(⟨false, (nbTop o).within, true⟩ : NB)]).length = 8 - o.length - 1 := by simp; omega
                rw [hd2] at g3
                simp only at g3
                rcases g4 with ⟨hy, hr2⟩ | ⟨_, _, hoth, _⟩
                · rcases parse n l2 k2 o hle2 h8 hr2 with ⟨h0, t, ht, hw⟩ | ⟨o3, b3, t, z, l3, k3, f1, f2, f3, f4⟩
                  · left
                    subst h0
                    exact ⟨rfl, .ite2 i a x t2 y t, by rw [h2, g2, ht]; rfl, o27, hx, hy, by simp, by simpa [nbTop] using h3, by simpa [nbTop] using g3, hw⟩
                  · right
                    refine ⟨o3, b3, .ite2 i a x t2 y t, z, l3, k3, f1, by rw [h2, g2, f2]; simp [T.flat], ⟨o27, hx, hy, by omega, ?_, ?_, f3⟩, f4⟩
                    · rw [f1, nbTop_snoc] at h3; rw [f1]; exact h3
                    · rw [f1, nbTop_snoc] at g3; rw [f1]; exact g3
                · cases hoth
        · cases hs
      by_cases o29 : i.op = 29
      · rw [o29] at hs
        simp only [nestStep] at hs
        rw [if_neg (by decide), if_pos trivial] at hs
        split at hs
        · rename_i hlt
          simp only [Option.some.injEq] at hs
          subst hs
          rcases parse n l (k + 1) _ hl hl1 h with ⟨h0, _⟩ | ⟨o', b, a, x, l', k', h1, h2, h3, h4⟩
          · simp at h0
          · obtain ⟨rfl, hb⟩ := List.append_inj' h1 rfl
            simp only [List.cons.injEq, and_true] at hb
            subst hb
            have hle : l'.length ≤ n := by have := congrArg List.length h2; simp at this; omega
            have hd : 8 - (o ++ [(⟨true, true, false⟩ : NB)]).length = 8 - o.length - 1 := by simp; omega
            rw [hd] at h3
            simp only at h3
            rcases h4 with ⟨hx, hr⟩ | ⟨_, hlp, _, _⟩
            · rcases parse n l' k' o hle h8 hr with ⟨h0, t, ht, hw⟩ | ⟨o2, b2, t, y, l2, k2, g1, g2, g3, g4⟩
              · left
                subst h0
                exact ⟨rfl, .loop i a x t, by rw [h2, ht]; rfl, o29, hx, by simp, by simpa using h3, hw⟩
              · right
                exact ⟨o2, b2, .loop i a x t, y, l2, k2, g1, by rw [h2, g2]; simp [T.flat], ⟨o29, hx, by omega, h3, g3⟩, g4⟩
            · cases hlp
        · cases hs
      by_cases o28 : i.op = 28
      · rw [o28] at hs
        simp only [nestStep] at hs
        rw [if_neg (by decide), if_neg (by decide), if_pos trivial] at hs
        split at hs
        · rename_i hc
          simp only [Option.some.injEq] at hs
          subst hs
          rcases List.eq_nil_or_concat o with rfl | ⟨o', b, rfl⟩
          · simp at hc
          · rw [List.concat_eq_append] at *
            rw [nbTop_snoc] at hc h
            right
            exact ⟨o', b, .nil, i, l, k + 1, rfl, rfl, trivial, .inr ⟨o28, hc.2.1, hc.2.2, by simpa using h⟩⟩
        · cases hs
      by_cases o31 : i.op = 31
      · rw [o31] at hs
        simp only [nestStep] at hs
        rw [if_neg (by decide), if_neg (by decide), if_neg (by decide), if_neg (by decide), if_pos trivial] at hs
        split at hs
        · rename_i hc
          simp only [Option.some.injEq] at hs
          subst hs
          rcases List.eq_nil_or_concat o with rfl | ⟨o', b, rfl⟩
          · simp at hc
          · rw [List.concat_eq_append] at *
            right
            exact ⟨o', b, .nil, i, l, k + 1, rfl, rfl, trivial, .inl ⟨o31, by simpa using h⟩⟩
        · cases hs
      · -- an instruction that does not belong to blocks, or a leave
        have ho1 : o1 = o ∧ (i.op = 30 → (nbTop o).within = true) := by
          unfold nestStep at hs
          rw [if_neg o27, if_neg o29, if_neg o28] at hs
          by_cases h30 : i.op = 30
          · rw [if_pos h30] at hs
            split at hs
            · rename_i hw; simp at hs; exact ⟨hs.symm, fun _ => hw⟩
            · cases hs
          · rw [if_neg h30, if_neg o31] at hs
            simp at hs
            exact ⟨hs.symm, fun e => absurd e h30⟩
        obtain ⟨rfl, h30⟩ := ho1
        rcases parse n l (k + 1) _ hl h8 h with ⟨h0, t, ht, hw⟩ | ⟨o', b, t, x, l', k', h1, h2, h3, h4⟩
        · left
          subst h0
          refine ⟨rfl, .plain i t, by rw [ht]; rfl, ⟨o27, o28, o29, o31⟩, fun e => ?_, hw⟩
          have := h30 e
          simp [nbTop] at this
        · right
          refine ⟨o', b, .plain i t, x, l', k', h1, by rw [h2]; rfl, ⟨⟨o27, o28, o29, o31⟩, fun e => ?_, h3⟩, h4⟩
          have := h30 e
          rw [h1, nbTop_snoc] at this
          exact this

/-- **CODE THAT IS NESTED CORRECTLY IS A TREE** -/
theorem parse_all (cd : List RI) (h : (nestRun cd 0 []).2 = false) : ∃ t : T, cd = t.flat ∧ t.wf false 8 := by
  rcases parse cd.length cd 0 [] (Nat.le_refl _) (by simp) h with ⟨_, t, h1, h2⟩ | ⟨o', b, _, _, _, _, h1, _⟩
  · exact ⟨t, h1, by simpa using h2⟩
  · simp at h1

end Go.Proofs.Ytefdnjhhaejgbaa

namespace Go.Proofs.Ytefdnjhhaejgbaa
open Go.RowKit
set_option linter.unusedVariables false

/-- the leaves of the loop around a tree -/
def T.leaves : T → Nat → List Nat
  | .nil, _ => []
  | .plain i r, k => if i.op = 30 then k :: r.leaves (k + 1) else r.leaves (k + 1)
  | .ite i a j r, k => a.leaves (k + 1) ++ r.leaves (k + a.size + 2)
  | .ite2 i a e b j r, k => a.leaves (k + 1) ++ b.leaves (k + a.size + 2) ++ r.leaves (k + a.size + b.size + 3)
  | .loop i a j r, k => r.leaves (k + a.size + 2)
/-- the partners of a tree at place k; e: the end of the loop around it -/
def T.pt : T → Nat → Nat → List Nat
  | .nil, _, _ => []
  | .plain i r, k, e => (if i.op = 30 then e else 0) :: r.pt (k + 1) e
  | .ite i a j r, k, e => (k + a.size + 1) :: (a.pt (k + 1) e ++ 0 :: r.pt (k + a.size + 2) e)
  | .ite2 i a x b j r, k, e => (k + a.size + 1) :: (a.pt (k + 1) e ++ (k + a.size + b.size + 2) :: (b.pt (k + a.size + 2) e ++ 0 :: r.pt (k + a.size + b.size + 3) e))
  | .loop i a j r, k, e => (k + a.size + 1) :: (a.pt (k + 1) (k + a.size + 1) ++ 0 :: r.pt (k + a.size + 2) e)
theorem T.pt_length : ∀ (t : T) (k e : Nat), (t.pt k e).length = t.size
  | .nil, _, _ => rfl
  | .plain i r, k, e => by simp only [pt, size, List.length_cons, r.pt_length]
  | .ite i a j r, k, e => by simp only [pt, size, List.length_cons, List.length_append, a.pt_length, r.pt_length]; omega
  | .ite2 i a x b j r, k, e => by simp only [pt, size, List.length_cons, List.length_append, a.pt_length, b.pt_length, r.pt_length]; omega
  | .loop i a j r, k, e => by simp only [pt, size, List.length_cons, List.length_append, a.pt_length, r.pt_length]; omega

theorem setAll_append (k : Nat) : ∀ (a b out : List Nat), setAll k (a ++ b) out = setAll k b (setAll k a out)
  | [], b, out => rfl
  | x :: a, b, out => by simp only [List.cons_append, setAll, setAll_append k a b]

theorem set_mid {α : Type} (A : List α) (x y : α) (B : List α) {k : Nat} (hk : A.length = k) : (A ++ x :: B).set k y = A ++ y :: B := by
  subst hk
  rw [List.set_append_right _ _ (Nat.le_refl _)]
  simp

/-- the leaves get their partner -/
theorem T.setAll_pt (e : Nat) : ∀ (t : T) (k : Nat) (A B : List Nat), A.length = k → setAll e (t.leaves k) (A ++ (t.pt k 0 ++ B)) = A ++ (t.pt k e ++ B)
  | .nil, k, A, B, _ => rfl
  | .plain i r, k, A, B, hk => by
    by_cases h : i.op = 30
    · simp only [leaves, pt, if_pos h, setAll, List.cons_append]
      rw [set_mid A 0 e _ hk]
      have := r.setAll_pt e (k + 1) (A ++ [e]) B (by simp [hk])
      simpa using this
    · simp only [leaves, pt, if_neg h, List.cons_append]
      have := r.setAll_pt e (k + 1) (A ++ [0]) B (by simp [hk])
      simpa using this
  | .ite i a j r, k, A, B, hk => by
    simp only [leaves, pt, setAll_append, List.cons_append]
    have h1 := a.setAll_pt e (k + 1) (A ++ [k + a.size + 1]) (0 :: (r.pt (k + a.size + 2) 0 ++ B)) (by simp [hk])
    have h2 := r.setAll_pt e (k + a.size + 2) (A ++ [k + a.size + 1] ++ a.pt (k + 1) e ++ [0]) B (by simp [hk, a.pt_length]; omega)
    simp only [List.append_assoc, List.cons_append, List.nil_append, List.singleton_append] at h1 h2 ⊢
    rw [h1, h2]
  | .ite2 i a x b j r, k, A, B, hk => by
    simp only [leaves, pt, setAll_append, List.cons_append]
    have h1 := a.setAll_pt e (k + 1) (A ++ [k + a.size + 1]) ((k + a.size + b.size + 2) :: (b.pt (k + a.size + 2) 0 ++ 0 :: (r.pt (k + a.size + b.size + 3) 0 ++ B))) (by simp [hk])
    have h2 := b.setAll_pt e (k + a.size + 2) (A ++ [k + a.size + 1] ++ a.pt (k + 1) e ++ [k + a.size + b.size + 2]) (0 :: (r.pt (k + a.size + b.size + 3) 0 ++ B)) (by simp [hk, a.pt_length]; omega)
    have h3 := r.setAll_pt e (k + a.size + b.size + 3) (A ++ [k + a.size + 1] ++ a.pt (k + 1) e ++ [k + a.size + b.size + 2] ++ b.pt (k + a.size + 2) e ++ [0]) B (by simp [hk, a.pt_length, b.pt_length]; omega)
    simp only [List.append_assoc, List.cons_append, List.nil_append, List.singleton_append] at h1 h2 h3 ⊢
    rw [h1, h2, h3]
  | .loop i a j r, k, A, B, hk => by
    simp only [leaves, pt, List.cons_append]
    have h2 := r.setAll_pt e (k + a.size + 2) (A ++ [k + a.size + 1] ++ a.pt (k + 1) (k + a.size + 1) ++ [0]) B (by simp [hk, a.pt_length]; omega)
    simp only [List.append_assoc, List.cons_append, List.nil_append, List.singleton_append] at h2 ⊢
    rw [h2]

/-- the instructions from place k on -/
def CdAt (cd : List RI) (k : Nat) (l : List RI) : Prop := ∀ j, j < l.length → cd.getD (k + j) default = l.getD j default
theorem CdAt.head {cd : List RI} {k : Nat} {i : RI} {l : List RI} (h : CdAt cd k (i :: l)) : cd.getD k default = i := by simpa using h 0 (by simp)
theorem CdAt.tail {cd : List RI} {k : Nat} {i : RI} {l : List RI} (h : CdAt cd k (i :: l)) : CdAt cd (k + 1) l := fun j hj => by
  have := h (j + 1) (by simpa using hj)
  simpa [Nat.add_assoc, Nat.add_comm 1 j] using this
theorem CdAt.left {cd : List RI} {k : Nat} {a b : List RI} (h : CdAt cd k (a ++ b)) : CdAt cd k a := fun j hj => by
  have := h j (by simp; omega)
  rw [this]
  simp [List.getD_eq_getElem?_getD, List.getElem?_append_left hj]
theorem CdAt.right {cd : List RI} {k : Nat} {a b : List RI} (h : CdAt cd k (a ++ b)) : CdAt cd (k + a.length) b := fun j hj => by
  have := h (a.length + j) (by simp; omega)
  rw [Nat.add_assoc, this]
  simp [List.getD_eq_getElem?_getD, List.getElem?_append_right]

theorem lastLoop_snoc (cd : List RI) (l : List Nat) (p : Nat) : lastLoop cd (l ++ [p]) = if (cd.getD p default).op = 29 then some p else lastLoop cd l := by
  simp only [lastLoop, List.reverse_append, List.reverse_cons, List.reverse_nil, List.nil_append, List.cons_append, List.find?_cons]
  split
  · rename_i h; rw [if_pos (by simpa using h)]
  · rename_i h; rw [if_neg (by simpa using h)]

/-- the state behind a tree -/
structure PtOk (cd : List RI) (w : Bool) (q k : Nat) (A : List Nat) (m : Nat) (s : PtS) : Prop where
  len : A.length = k
  out : s.out = A ++ List.replicate m 0
  loop : w = true → lastLoop cd s.opn = some q ∧ q < k
  lv : ∀ p, k ≤ p → s.lv p = []

theorem ptRun_tree (cd : List RI) : ∀ (t : T) (w : Bool) (d q k : Nat) (A : List Nat) (m m' : Nat) (s : PtS), CdAt cd k t.flat → t.wf w d → PtOk cd w q k A (t.size + m) s →
    ∃ lv', ptRun cd (t.size + m') k s = ptRun cd m' (k + t.size) ⟨A ++ (t.pt k 0 ++ List.replicate m 0), s.opn, lv'⟩ ∧
      (∀ p, p < k → lv' p = if w = true ∧ p = q then s.lv p ++ t.leaves k else s.lv p) ∧ (∀ p, k + t.size ≤ p → lv' p = [])
  | .nil, w, d, q, k, A, m, m', s, hc, hw, h => by
    refine ⟨s.lv, ?_, fun p hp => by simp [T.leaves], fun p hp => h.lv p (by simpa [T.size] using hp)⟩
    have : s = ⟨A ++ (T.nil.pt k 0 ++ List.replicate m 0), s.opn, s.lv⟩ := by
      have e := h.out
      simp only [T.size, Nat.zero_add] at e
      cases s
      simp only at e
      simp [T.pt, e]
    simp only [T.size, Nat.zero_add, Nat.add_zero]
    rw [← this]
  | .plain i r, w, d, q, k, A, m, m', s, hc, hw, h => by
    simp only [T.flat] at hc
    obtain ⟨hop, h30, hwr⟩ := hw
    have hi := hc.head
    by_cases h3 : i.op = 30
    · have hll := h.loop (h30 h3)
      have hstep : ptStep cd k s = ⟨s.out, s.opn, fun p => if p = q then s.lv p ++ [k] else s.lv p⟩ := by
        unfold ptStep
        simp only [hi]
        rw [if_neg (by omega), if_neg (by omega), if_pos h3, hll.1]
      have hok : PtOk cd w q (k + 1) (A ++ [0]) (r.size + m) ⟨s.out, s.opn, fun p => if p = q then s.lv p ++ [k] else s.lv p⟩ := by
        refine ⟨by simp [h.len], ?_, fun _ => ⟨hll.1, by omega⟩, fun p hp => ?_⟩
        · rw [h.out]; simp only [T.size]; rw [show r.size + 1 + m = (r.size + m) + 1 by omega, List.replicate_succ]; simp
        · simp only; rw [if_neg (by omega)]; exact h.lv p (by omega)
      obtain ⟨lv', h1, h2, h4⟩ := ptRun_tree cd r w d q (k + 1) (A ++ [0]) m m' _ hc.tail hwr hok
      refine ⟨lv', ?_, fun p hp => ?_, fun p hp => h4 p (by simp only [T.size] at hp; omega)⟩
      · simp only [T.size]
        rw [show r.size + 1 + m' = (r.size + m') + 1 by omega, ptRun, hstep, h1, show k + 1 + r.size = k + (r.size + 1) by omega]
        simp [T.pt, h3]
      · rw [h2 p (by omega)]
        simp only [T.leaves, if_pos h3]
        by_cases hpq : p = q
        · simp [hpq, h30 h3]
        · simp [hpq]
    · have hstep : ptStep cd k s = s := by
        unfold ptStep
        simp only [hi]
        rw [if_neg (by omega), if_neg (by omega), if_neg h3, if_neg (by omega)]
      have hok : PtOk cd w q (k + 1) (A ++ [0]) (r.size + m) s := by
        refine ⟨by simp [h.len], ?_, fun hw => ⟨(h.loop hw).1, by have := (h.loop hw).2; omega⟩, fun p hp => h.lv p (by omega)⟩
        rw [h.out]; simp only [T.size]; rw [show r.size + 1 + m = (r.size + m) + 1 by omega, List.replicate_succ]; simp
      obtain ⟨lv', h1, h2, h4⟩ := ptRun_tree cd r w d q (k + 1) (A ++ [0]) m m' _ hc.tail hwr hok
      refine ⟨lv', ?_, fun p hp => ?_, fun p hp => h4 p (by simp only [T.size] at hp; omega)⟩
      · simp only [T.size]
        rw [show r.size + 1 + m' = (r.size + m') + 1 by omega, ptRun, hstep, h1, show k + 1 + r.size = k + (r.size + 1) by omega]
        simp [T.pt, h3]
      · rw [h2 p (by omega)]
        simp only [T.leaves, if_neg h3]
  | .ite i a j r, w, d, q, k, A, m, m', s, hc, hw, h => by
    simp only [T.flat] at hc
    obtain ⟨hi27, hj31, hd, hwa, hwr⟩ := hw
    have hi := hc.head
    have hca := hc.tail.left
    have hcj := hc.tail.right
    rw [a.flat_length] at hcj
    have hj := hcj.head
    have hstep : ptStep cd k s = ⟨s.out, s.opn ++ [k], s.lv⟩ := by
      unfold ptStep
      simp only [hi]
      rw [if_pos (.inl hi27)]
    have hlk : lastLoop cd (s.opn ++ [k]) = lastLoop cd s.opn := by rw [lastLoop_snoc, hi, if_neg (by omega)]
    have hok : PtOk cd w q (k + 1) (A ++ [0]) (a.size + (r.size + 1 + m)) ⟨s.out, s.opn ++ [k], s.lv⟩ := by
      refine ⟨by simp [h.len], ?_, fun hw => ⟨by rw [hlk]; exact (h.loop hw).1, by have := (h.loop hw).2; omega⟩, fun p hp => h.lv p (by omega)⟩
      rw [h.out]; simp only [T.size]; rw [show a.size + r.size + 2 + m = (a.size + (r.size + 1 + m)) + 1 by omega, List.replicate_succ]; simp
    obtain ⟨lv1, h1, h2, h4⟩ := ptRun_tree cd a w (d - 1) q (k + 1) (A ++ [0]) (r.size + 1 + m) (r.size + 1 + m') _ hca hwa hok
    have hlvk : lv1 k = [] := by
      rw [h2 k (by omega), if_neg (fun e => by have := (h.loop e.1).2; omega)]
      exact h.lv k (Nat.le_refl _)
    have hstep2 : ptStep cd (k + 1 + a.size) ⟨A ++ [0] ++ (a.pt (k + 1) 0 ++ List.replicate (r.size + 1 + m) 0), s.opn ++ [k], lv1⟩ = ⟨A ++ (k + 1 + a.size) :: (a.pt (k + 1) 0 ++ List.replicate (r.size + 1 + m) 0), s.opn, lv1⟩ := by
      unfold ptStep
      simp only [hj]
      rw [if_neg (by omega), if_neg (by omega), if_neg (by omega), if_pos hj31]
      simp only [List.getLast?_append, List.getLast?_singleton, Option.some_or, Option.getD_some, hlvk, setAll, List.dropLast_concat, List.append_assoc, List.cons_append, List.nil_append]
      rw [set_mid A 0 _ _ h.len]
    have hok2 : PtOk cd w q (k + 1 + a.size + 1) (A ++ (k + 1 + a.size) :: (a.pt (k + 1) 0 ++ [0])) (r.size + m) ⟨A ++ (k + 1 + a.size) :: (a.pt (k + 1) 0 ++ List.replicate (r.size + 1 + m) 0), s.opn, lv1⟩ := by
      refine ⟨by simp [h.len, a.pt_length]; omega, ?_, fun hw => ⟨(h.loop hw).1, by have := (h.loop hw).2; omega⟩, fun p hp => h4 p (by omega)⟩
      rw [show r.size + 1 + m = (r.size + m) + 1 by omega, List.replicate_succ]; simp
    obtain ⟨lv2, g1, g2, g4⟩ := ptRun_tree cd r w d q (k + 1 + a.size + 1) _ m m' _ hcj.tail hwr hok2
    refine ⟨lv2, ?_, fun p hp => ?_, fun p hp => g4 p (by simp only [T.size] at hp; omega)⟩
    · simp only [T.size]
      rw [show a.size + r.size + 2 + m' = (a.size + (r.size + 1 + m')) + 1 by omega, ptRun, hstep, h1, show r.size + 1 + m' = (r.size + m') + 1 by omega, ptRun, hstep2, g1]
      rw [show k + 1 + a.size + 1 + r.size = k + (a.size + r.size + 2) by omega]
      simp [T.pt, show k + 1 + a.size = k + a.size + 1 by omega]
    · have e2 := h2 p (by omega)
      simp only at e2
      rw [g2 p (by omega)]
      simp only
      rw [e2]
      simp only [T.leaves, show k + 1 + a.size + 1 = k + a.size + 2 by omega]
      split <;> simp
  | .ite2 i a x b j r, w, d, q, k, A, m, m', s, hc, hw, h => by
    simp only [T.flat] at hc
    obtain ⟨hi27, hx28, hj31, hd, hwa, hwb, hwr⟩ := hw
    have hi := hc.head
    have hca := hc.tail.left
    have hcx := hc.tail.right
    rw [a.flat_length] at hcx
    have hx := hcx.head
    have hcb := hcx.tail.left
    have hcj := hcx.tail.right
    rw [b.flat_length] at hcj
    have hj := hcj.head
    have hstep : ptStep cd k s = ⟨s.out, s.opn ++ [k], s.lv⟩ := by
      unfold ptStep
      simp only [hi]
      rw [if_pos (.inl hi27)]
    have hlk : lastLoop cd (s.opn ++ [k]) = lastLoop cd s.opn := by rw [lastLoop_snoc, hi, if_neg (by omega)]
    have hlx : lastLoop cd (s.opn ++ [k + 1 + a.size]) = lastLoop cd s.opn := by rw [lastLoop_snoc, hx, if_neg (by omega)]
    have hok : PtOk cd w q (k + 1) (A ++ [0]) (a.size + (b.size + r.size + 2 + m)) ⟨s.out, s.opn ++ [k], s.lv⟩ := by
      refine ⟨by simp [h.len], ?_, fun hw => ⟨by rw [hlk]; exact (h.loop hw).1, by have := (h.loop hw).2; omega⟩, fun p hp => h.lv p (by omega)⟩
      rw [h.out]; simp only [T.size]; rw [show a.size + b.size + r.size + 3 + m = (a.size + (b.size + r.size + 2 + m)) + 1 by omega, List.replicate_succ]; simp
    obtain ⟨lv1, h1, h2, h4⟩ := ptRun_tree cd a w (d - 1) q (k + 1) (A ++ [0]) (b.size + r.size + 2 + m) (b.size + r.size + 2 + m') _ hca hwa hok
    have hstep2 : ptStep cd (k + 1 + a.size) ⟨A ++ [0] ++ (a.pt (k + 1) 0 ++ List.replicate (b.size + r.size + 2 + m) 0), s.opn ++ [k], lv1⟩ = ⟨A ++ (k + 1 + a.size) :: (a.pt (k + 1) 0 ++ List.replicate (b.size + r.size + 2 + m) 0), s.opn ++ [k + 1 + a.size], lv1⟩ := by
      unfold ptStep
      simp only [hx]
      rw [if_neg (by omega), if_pos hx28]
      simp only [List.getLast?_append, List.getLast?_singleton, Option.some_or, Option.getD_some, List.dropLast_concat, List.append_assoc, List.cons_append, List.nil_append]
      rw [set_mid A 0 _ _ h.len]
    have hok2 : PtOk cd w q (k + 1 + a.size + 1) (A ++ (k + 1 + a.size) :: (a.pt (k + 1) 0 ++ [0])) (b.size + (r.size + 1 + m)) ⟨A ++ (k + 1 + a.size) :: (a.pt (k + 1) 0 ++ List.replicate (b.size + r.size + 2 + m) 0), s.opn ++ [k + 1 + a.size], lv1⟩ := by
      refine ⟨by simp [h.len, a.pt_length]; omega, ?_, fun hw => ⟨by rw [hlx]; exact (h.loop hw).1, by have := (h.loop hw).2; omega⟩, fun p hp => h4 p (by omega)⟩
      rw [show b.size + r.size + 2 + m = (b.size + (r.size + 1 + m)) + 1 by omega, List.replicate_succ]; simp
    obtain ⟨lv2, g1, g2, g4⟩ := ptRun_tree cd b w (d - 1) q (k + 1 + a.size + 1) _ (r.size + 1 + m) (r.size + 1 + m') _ hcb hwb hok2
    have hlvx : lv2 (k + 1 + a.size) = [] := by
      rw [g2 _ (by omega), if_neg (fun e => by have := (h.loop e.1).2; omega)]
      exact h4 _ (by omega)
    have hstep3 : ptStep cd (k + 1 + a.size + 1 + b.size) ⟨A ++ (k + 1 + a.size) :: (a.pt (k + 1) 0 ++ [0]) ++ (b.pt (k + 1 + a.size + 1) 0 ++ List.replicate (r.size + 1 + m) 0), s.opn ++ [k + 1 + a.size], lv2⟩ =
        ⟨A ++ (k + 1 + a.size) :: (a.pt (k + 1) 0 ++ (k + 1 + a.size + 1 + b.size) :: (b.pt (k + 1 + a.size + 1) 0 ++ List.replicate (r.size + 1 + m) 0)), s.opn, lv2⟩ := by
      unfold ptStep
      simp only [hj]
      rw [if_neg (by omega), if_neg (by omega), if_neg (by omega), if_pos hj31]
      simp only [List.getLast?_append, List.getLast?_singleton, Option.some_or, Option.getD_some, hlvx, setAll, List.dropLast_concat]
      have e := set_mid (A ++ (k + 1 + a.size) :: a.pt (k + 1) 0) 0 (k + 1 + a.size + 1 + b.size) (b.pt (k + 1 + a.size + 1) 0 ++ List.replicate (r.size + 1 + m) 0) (k := k + 1 + a.size) (by simp [h.len, a.pt_length]; omega)
      simp only [List.append_assoc, List.cons_append, List.nil_append] at e ⊢
      rw [e]
    have hok3 : PtOk cd w q (k + 1 + a.size + 1 + b.size + 1) (A ++ (k + 1 + a.size) :: (a.pt (k + 1) 0 ++ (k + 1 + a.size + 1 + b.size) :: (b.pt (k + 1 + a.size + 1) 0 ++ [0]))) (r.size + m)
        ⟨A ++ (k + 1 + a.size) :: (a.pt (k + 1) 0 ++ (k + 1 + a.size + 1 + b.size) :: (b.pt (k + 1 + a.size + 1) 0 ++ List.replicate (r.size + 1 + m) 0)), s.opn, lv2⟩ := by
      refine ⟨by simp [h.len, a.pt_length, b.pt_length]; omega, ?_, fun hw => ⟨(h.loop hw).1, by have := (h.loop hw).2; omega⟩, fun p hp => g4 p (by omega)⟩
      rw [show r.size + 1 + m = (r.size + m) + 1 by omega, List.replicate_succ]; simp
    obtain ⟨lv3, f1, f2, f4⟩ := ptRun_tree cd r w d q (k + 1 + a.size + 1 + b.size + 1) _ m m' _ hcj.tail hwr hok3
    refine ⟨lv3, ?_, fun p hp => ?_, fun p hp => f4 p (by simp only [T.size] at hp; omega)⟩
    · simp only [T.size]
      rw [show a.size + b.size + r.size + 3 + m' = (a.size + (b.size + r.size + 2 + m')) + 1 by omega, ptRun, hstep, h1, show b.size + r.size + 2 + m' = (b.size + (r.size + 1 + m')) + 1 by omega, ptRun, hstep2, g1,
        show r.size + 1 + m' = (r.size + m') + 1 by omega, ptRun, hstep3, f1]
      rw [show k + 1 + a.size + 1 + b.size + 1 + r.size = k + (a.size + b.size + r.size + 3) by omega]
      simp [T.pt, show k + 1 + a.size = k + a.size + 1 by omega, show k + a.size + 1 + 1 + b.size = k + a.size + b.size + 2 by omega]
    · have e2 := h2 p (by omega)
      have e3 := g2 p (by omega)
      simp only at e2 e3
      rw [f2 p (by omega)]
      simp only
      rw [e3, e2]
      have n1 : k + 1 + a.size + 1 + b.size + 1 = k + a.size + b.size + 3 := by omega
      have n2 : k + 1 + a.size + 1 = k + a.size + 2 := by omega
      rw [n1, n2]
      simp only [T.leaves]
      split <;> simp
  | .loop i a j r, w, d, q, k, A, m, m', s, hc, hw, h => by
    simp only [T.flat] at hc
    obtain ⟨hi29, hj31, hd, hwa, hwr⟩ := hw
    have hi := hc.head
    have hca := hc.tail.left
    have hcj := hc.tail.right
    rw [a.flat_length] at hcj
    have hj := hcj.head
    have hstep : ptStep cd k s = ⟨s.out, s.opn ++ [k], s.lv⟩ := by
      unfold ptStep
      simp only [hi]
      rw [if_pos (.inr hi29)]
    have hlk : lastLoop cd (s.opn ++ [k]) = some k := by rw [lastLoop_snoc, hi, if_pos hi29]
    have hok : PtOk cd true k (k + 1) (A ++ [0]) (a.size + (r.size + 1 + m)) ⟨s.out, s.opn ++ [k], s.lv⟩ := by
      refine ⟨by simp [h.len], ?_, fun _ => ⟨hlk, by omega⟩, fun p hp => h.lv p (by omega)⟩
      rw [h.out]; simp only [T.size]; rw [show a.size + r.size + 2 + m = (a.size + (r.size + 1 + m)) + 1 by omega, List.replicate_succ]; simp
    obtain ⟨lv1, h1, h2, h4⟩ := ptRun_tree cd a true (d - 1) k (k + 1) (A ++ [0]) (r.size + 1 + m) (r.size + 1 + m') _ hca hwa hok
    have hlvk : lv1 k = a.leaves (k + 1) := by
      rw [h2 k (by omega), if_pos ⟨rfl, rfl⟩, h.lv k (Nat.le_refl _)]; simp
    have hstep2 : ptStep cd (k + 1 + a.size) ⟨A ++ [0] ++ (a.pt (k + 1) 0 ++ List.replicate (r.size + 1 + m) 0), s.opn ++ [k], lv1⟩ = ⟨A ++ (k + 1 + a.size) :: (a.pt (k + 1) (k + 1 + a.size) ++ List.replicate (r.size + 1 + m) 0), s.opn, lv1⟩ := by
      unfold ptStep
      simp only [hj]
      rw [if_neg (by omega), if_neg (by omega), if_neg (by omega), if_pos hj31]
      simp only [List.getLast?_append, List.getLast?_singleton, Option.some_or, Option.getD_some, hlvk, List.dropLast_concat, List.append_assoc, List.cons_append, List.nil_append]
      rw [set_mid A 0 _ _ h.len]
      have e := a.setAll_pt (k + 1 + a.size) (k + 1) (A ++ [k + 1 + a.size]) (List.replicate (r.size + 1 + m) 0) (by simp [h.len])
      simp only [List.append_assoc, List.cons_append, List.nil_append] at e
      rw [e]
    have hok2 : PtOk cd w q (k + 1 + a.size + 1) (A ++ (k + 1 + a.size) :: (a.pt (k + 1) (k + 1 + a.size) ++ [0])) (r.size + m) ⟨A ++ (k + 1 + a.size) :: (a.pt (k + 1) (k + 1 + a.size) ++ List.replicate (r.size + 1 + m) 0), s.opn, lv1⟩ := by
      refine ⟨by simp [h.len, a.pt_length]; omega, ?_, fun hw => ⟨(h.loop hw).1, by have := (h.loop hw).2; omega⟩, fun p hp => h4 p (by omega)⟩
      rw [show r.size + 1 + m = (r.size + m) + 1 by omega, List.replicate_succ]; simp
    obtain ⟨lv2, g1, g2, g4⟩ := ptRun_tree cd r w d q (k + 1 + a.size + 1) _ m m' _ hcj.tail hwr hok2
    refine ⟨lv2, ?_, fun p hp => ?_, fun p hp => g4 p (by simp only [T.size] at hp; omega)⟩
    · simp only [T.size]
      rw [show a.size + r.size + 2 + m' = (a.size + (r.size + 1 + m')) + 1 by omega, ptRun, hstep, h1, show r.size + 1 + m' = (r.size + m') + 1 by omega, ptRun, hstep2, g1]
      rw [show k + 1 + a.size + 1 + r.size = k + (a.size + r.size + 2) by omega]
      simp [T.pt, show k + 1 + a.size = k + a.size + 1 by omega]
    · have e2 := h2 p (by omega)
      simp only at e2
      rw [g2 p (by omega)]
      simp only
      have e3 : lv1 p = s.lv p := by rw [e2, if_neg (fun e => by have := e.2; omega)]
      rw [e3]
      simp only [T.leaves, show k + 1 + a.size + 1 = k + a.size + 2 by omega]

/-- **THE PARTNERS OF A TREE** -/
theorem ptOf_flat (t : T) (hw : t.wf false 8) : ptOf t.flat = t.pt 0 0 := by
  have hc : CdAt t.flat 0 t.flat := fun j hj => by simp
  obtain ⟨lv', h1, _, _⟩ := ptRun_tree t.flat t false 8 0 0 [] 0 0 (ptInit t.flat.length) hc hw ⟨rfl, by simp [ptInit, t.flat_length], (fun h => by cases h), fun p _ => rfl⟩
  simp only [Nat.add_zero, Nat.zero_add] at h1
  unfold ptOf
  rw [t.flat_length] at *
  rw [h1]
  simp [ptRun]
end Go.Proofs.Ytefdnjhhaejgbaa

namespace Go.Proofs.Ytefdnjhhaejgbaa
open Go.RowKit

theorem ret_bool {a b : Bool} (h : a = b) : Ending.returned (.bool a) = .returned (.bool b) := by rw [h]
theorem ret_int {k : IntKind} {a b : Int} (h : a = b) : Ending.returned (.int k a) = .returned (.int k b) := by rw [h]

set_option maxHeartbeats 400000 in
theorem light_any (n : Int) (w : World) :
    Calls Try.prog 17 #[.int .i64 n] w fun e w' => e = .returned (.bool (decide (n ≤ 5000) || decide (281474976710656 < n))) ∧ w = w' := by
  by_cases h : n ≤ 5000
  all_goals
    go_enter Try.func17, Try.ntmps17
    go_wp2
    go_ret
    exact ⟨ret_bool (by simp [h]; try omega), rfl⟩

set_option maxHeartbeats 400000 in
theorem allowed_any (n : Int) (w : World) :
    Calls Try.prog 38 #[.int .i64 n] w fun e w' => e = .returned (.bool (decide (0 ≤ n) && decide (n ≤ 281474976710656))) ∧ w = w' := by
  by_cases h : 0 ≤ n
  all_goals
    go_enter Try.func38, Try.ntmps38
    go_wp2
    go_ret
    exact ⟨ret_bool (by simp [h]; try omega), rfl⟩

set_option maxHeartbeats 400000 in
theorem Check1_any (n : Int) (w : World) :
    Calls Try.prog 44 #[.int .i64 n] w fun e w' => e = .returned (.bool (decide (n < 0) || decide (1024 < n))) ∧ w = w' := by
  by_cases h : n < 0
  all_goals
    go_enter Try.func44, Try.ntmps44
    go_wp2
    go_ret
    exact ⟨ret_bool (by simp [h]; try omega), rfl⟩

set_option maxHeartbeats 400000 in
theorem fits1_any (n : Int) (w : World) :
    Calls Try.prog 51 #[.int .u32 n] w fun e w' => e = .returned (.bool (decide (255 < n))) ∧ w = w' := by
  go_enter Try.func51, Try.ntmps51
  go_wp2
  go_ret
  exact ⟨rfl, rfl⟩

set_option maxHeartbeats 400000 in
theorem demand_yes (e : Int) (w : World) :
    Calls Try.prog 108 #[.bool true, .int .i64 e] w fun e w' => e = .returned (.tuple #[]) ∧ w = w' := by
  go_enter Try.func108, Try.ntmps108
  go_wp2
  go_end0
  exact ⟨rfl, rfl⟩

/-- the panic of an instruction that fails -/
def failed (n : Int) : List PanicEntry := [{ v := .iface 121 (.agg #[.int .i64 n]), recovered := false }]

set_option maxHeartbeats 400000 in
theorem demand_no (n : Int) (w : World) :
    Calls Try.prog 108 #[.bool false, .int .i64 n] w fun e w' => e = .panicked (failed n) ∧ w = w' := by
  go_enter Try.func108, Try.ntmps108
  go_wp2
  exact ⟨rfl, rfl, rfl⟩

set_option maxHeartbeats 400000 in
theorem flag_any (b : Bool) (w : World) :
    Calls Try.prog 71 #[.bool b] w fun e w' => e = .returned (.int .u32 (if b then 1 else 0)) ∧ w = w' := by
  cases b
  all_goals
    go_enter Try.func71, Try.ntmps71
    go_wp2
    go_ret
    exact ⟨rfl, rfl⟩

set_option maxHeartbeats 400000 in
theorem instr_any (o t x y z : Int) (w : World) :
    Calls Try.prog 22 #[.int .i64 o, .int .i64 t, .int .i64 x, .int .i64 y, .int .u32 z] w fun e w' =>
      e = .returned (.agg #[.int .i64 o, .int .i64 t, .int .i64 x, .int .i64 y, .int .u32 z]) ∧ Below w.heap.size w w' ∧ w'.heap.size = w.heap.size + 1 := by
  go_enter Try.func22, Try.ntmps22
  go_wp2
  exact bodyPost_ret (v := .agg #[.int .i64 o, .int .i64 t, .int .i64 x, .int .i64 y, .int .u32 z]) (by simp [results, Try.results22, go_sem]) rfl
    ⟨rfl, (Below.refl _ _).alloc (Nat.le_refl _) _, by simp⟩

end Go.Proofs.Ytefdnjhhaejgbaa

namespace Go.Proofs.Ytefdnjhhaejgbaa
open Go.RowKit
set_option linter.unusedVariables false

set_option maxRecDepth 100000 in
set_option maxHeartbeats 1000000 in
theorem comb1 (a b : Int) (ha0 : 0 ≤ a) (ha1 : a < 4294967296) (hb0 : 0 ≤ b) (hb1 : b < 4294967296) (w : World) :
    Calls Try.prog 57 #[.int .u32 a, .int .u32 b] w fun e w' => e = .returned (.int .u32 ((a + b) % 4294967296)) ∧ w = w' := by
  all_goals go_enter Try.func57, Try.ntmps57
  all_goals go_wp2
  all_goals go_ret
  all_goals exact ⟨ret_int (by first | rfl | (simp; done) | (simp [flagI, *]; done) | (simp_all [flagI]; done) | omega), rfl⟩

set_option maxRecDepth 100000 in
set_option maxHeartbeats 1000000 in
theorem comb2 (a b : Int) (ha0 : 0 ≤ a) (ha1 : a < 4294967296) (hb0 : 0 ≤ b) (hb1 : b < 4294967296) (w : World) :
    Calls Try.prog 58 #[.int .u32 a, .int .u32 b] w fun e w' => e = .returned (.int .u32 ((a - b) % 4294967296)) ∧ w = w' := by
  all_goals go_enter Try.func58, Try.ntmps58
  all_goals go_wp2
  all_goals go_ret
  all_goals exact ⟨ret_int (by first | rfl | (simp; done) | (simp [flagI, *]; done) | (simp_all [flagI]; done) | omega), rfl⟩

set_option maxRecDepth 100000 in
set_option maxHeartbeats 1000000 in
theorem comb3 (a b : Int) (ha0 : 0 ≤ a) (ha1 : a < 4294967296) (hb0 : 0 ≤ b) (hb1 : b < 4294967296) (w : World) :
    Calls Try.prog 59 #[.int .u32 a, .int .u32 b] w fun e w' => e = .returned (.int .u32 ((a * b) % 4294967296)) ∧ w = w' := by
  all_goals go_enter Try.func59, Try.ntmps59
  all_goals go_wp2
  all_goals go_ret
  all_goals exact ⟨ret_int (by first | rfl | (simp; done) | (simp [flagI, *]; done) | (simp_all [flagI]; done) | omega), rfl⟩

set_option maxRecDepth 100000 in
set_option maxHeartbeats 1000000 in
theorem comb4 (a b : Int) (ha0 : 0 ≤ a) (ha1 : a < 4294967296) (hb0 : 0 ≤ b) (hb1 : b < 4294967296) (hb : ¬ b = 0) (w : World) :
    Calls Try.prog 60 #[.int .u32 a, .int .u32 b] w fun e w' => e = .returned (.int .u32 (a / b)) ∧ w = w' := by
  all_goals go_enter Try.func60, Try.ntmps60
  all_goals go_wp2
  all_goals go_ret
  all_goals exact ⟨ret_int (by first | rfl | (simp; done) | (simp [Int.tdiv_eq_ediv_of_nonneg ha0]; exact Int.emod_eq_of_lt (Int.ediv_nonneg ha0 hb0) (Int.lt_of_le_of_lt (Int.ediv_le_self b ha0) ha1)) | omega), rfl⟩

set_option maxRecDepth 100000 in
set_option maxHeartbeats 1000000 in
theorem comb5 (a b : Int) (ha0 : 0 ≤ a) (ha1 : a < 4294967296) (hb0 : 0 ≤ b) (hb1 : b < 4294967296) (hb : ¬ b = 0) (w : World) :
    Calls Try.prog 61 #[.int .u32 a, .int .u32 b] w fun e w' => e = .returned (.int .u32 (a % b)) ∧ w = w' := by
  all_goals go_enter Try.func61, Try.ntmps61
  all_goals go_wp2
  all_goals go_ret
  all_goals exact ⟨ret_int (by first | rfl | (simp; done) | (simp [flagI, *]; done) | (simp_all [flagI]; done) | omega), rfl⟩

set_option maxRecDepth 100000 in
set_option maxHeartbeats 1000000 in
theorem comb6 (a b : Int) (ha0 : 0 ≤ a) (ha1 : a < 4294967296) (hb0 : 0 ≤ b) (hb1 : b < 4294967296) (w : World) :
    Calls Try.prog 62 #[.int .u32 a, .int .u32 b] w fun e w' => e = .returned (.int .u32 (bits .and .u32 a b)) ∧ w = w' := by
  all_goals go_enter Try.func62, Try.ntmps62
  all_goals go_wp2
  all_goals go_ret
  all_goals exact ⟨ret_int (by first | rfl | (simp; done) | (simp [flagI, *]; done) | (simp_all [flagI]; done) | omega), rfl⟩

set_option maxRecDepth 100000 in
set_option maxHeartbeats 1000000 in
theorem comb7 (a b : Int) (ha0 : 0 ≤ a) (ha1 : a < 4294967296) (hb0 : 0 ≤ b) (hb1 : b < 4294967296) (w : World) :
    Calls Try.prog 63 #[.int .u32 a, .int .u32 b] w fun e w' => e = .returned (.int .u32 (bits .or .u32 a b)) ∧ w = w' := by
  all_goals go_enter Try.func63, Try.ntmps63
  all_goals go_wp2
  all_goals go_ret
  all_goals exact ⟨ret_int (by first | rfl | (simp; done) | (simp [flagI, *]; done) | (simp_all [flagI]; done) | omega), rfl⟩

set_option maxRecDepth 100000 in
set_option maxHeartbeats 1000000 in
theorem comb8 (a b : Int) (ha0 : 0 ≤ a) (ha1 : a < 4294967296) (hb0 : 0 ≤ b) (hb1 : b < 4294967296) (w : World) :
    Calls Try.prog 64 #[.int .u32 a, .int .u32 b] w fun e w' => e = .returned (.int .u32 (bits .xor .u32 a b)) ∧ w = w' := by
  all_goals go_enter Try.func64, Try.ntmps64
  all_goals go_wp2
  all_goals go_ret
  all_goals exact ⟨ret_int (by first | rfl | (simp; done) | (simp [flagI, *]; done) | (simp_all [flagI]; done) | omega), rfl⟩

set_option maxRecDepth 100000 in
set_option maxHeartbeats 1000000 in
theorem comb9 (a b : Int) (ha0 : 0 ≤ a) (ha1 : a < 4294967296) (hb0 : 0 ≤ b) (hb1 : b < 4294967296) (w : World) :
    Calls Try.prog 65 #[.int .u32 a, .int .u32 b] w fun e w' => e = .returned (.int .u32 (a * 2 ^ (b % 32).toNat % 4294967296)) ∧ w = w' := by
  all_goals go_enter Try.func65, Try.ntmps65
  all_goals go_wp2
  all_goals go_ret
  all_goals exact ⟨ret_int (by first | rfl | (simp; done) | (simp [flagI, *]; done) | (simp_all [flagI]; done) | omega), rfl⟩

set_option maxRecDepth 100000 in
set_option maxHeartbeats 1000000 in
theorem comb10 (a b : Int) (ha0 : 0 ≤ a) (ha1 : a < 4294967296) (hb0 : 0 ≤ b) (hb1 : b < 4294967296) (w : World) :
    Calls Try.prog 66 #[.int .u32 a, .int .u32 b] w fun e w' => e = .returned (.int .u32 (a / 2 ^ (b % 32).toNat)) ∧ w = w' := by
  all_goals go_enter Try.func66, Try.ntmps66
  all_goals go_wp2
  all_goals go_ret
  all_goals exact ⟨ret_int (by first | rfl | (simp; done) | (simp [flagI, *]; done) | (simp_all [flagI]; done) | omega), rfl⟩

set_option maxRecDepth 100000 in
set_option maxHeartbeats 1000000 in
theorem comb11 (a b : Int) (ha0 : 0 ≤ a) (ha1 : a < 4294967296) (hb0 : 0 ≤ b) (hb1 : b < 4294967296) (w : World) :
    Calls Try.prog 67 #[.int .u32 a, .int .u32 b] w fun e w' => e = .returned (.int .u32 (min a b)) ∧ w = w' := by
  by_cases h : a ≤ b
  all_goals go_enter Try.func67, Try.ntmps67
  all_goals go_wp2
  all_goals go_ret
  all_goals exact ⟨ret_int (by first | rfl | (simp; done) | (simp [flagI, *]; done) | (simp_all [flagI]; done) | omega), rfl⟩

set_option maxRecDepth 100000 in
set_option maxHeartbeats 1000000 in
theorem comb12 (a b : Int) (ha0 : 0 ≤ a) (ha1 : a < 4294967296) (hb0 : 0 ≤ b) (hb1 : b < 4294967296) (w : World) :
    Calls Try.prog 68 #[.int .u32 a, .int .u32 b] w fun e w' => e = .returned (.int .u32 (max a b)) ∧ w = w' := by
  by_cases h : a ≤ b
  all_goals go_enter Try.func68, Try.ntmps68
  all_goals go_wp2
  all_goals go_ret
  all_goals exact ⟨ret_int (by first | rfl | (simp; done) | (simp [flagI, *]; done) | (simp_all [flagI]; done) | omega), rfl⟩

set_option maxRecDepth 100000 in
set_option maxHeartbeats 1000000 in
theorem comb13 (a b : Int) (ha0 : 0 ≤ a) (ha1 : a < 4294967296) (hb0 : 0 ≤ b) (hb1 : b < 4294967296) (w : World) :
    Calls Try.prog 70 #[.int .u32 a, .int .u32 b] w fun e w' => e = .returned (.int .u32 (flagI (a == b))) ∧ w = w' := by
  by_cases h : (a == b) = true
  all_goals go_enter Try.func70, Try.ntmps70
  all_goals go_wp2
  all_goals go_ret
  all_goals exact ⟨ret_int (by first | rfl | (simp; done) | (simp [flagI, *]; done) | (simp_all [flagI]; done) | omega), rfl⟩

set_option maxRecDepth 100000 in
set_option maxHeartbeats 1000000 in
theorem comb14 (a b : Int) (ha0 : 0 ≤ a) (ha1 : a < 4294967296) (hb0 : 0 ≤ b) (hb1 : b < 4294967296) (w : World) :
    Calls Try.prog 72 #[.int .u32 a, .int .u32 b] w fun e w' => e = .returned (.int .u32 (flagI (decide (a < b)))) ∧ w = w' := by
  by_cases h : a < b
  all_goals go_enter Try.func72, Try.ntmps72
  all_goals go_wp2
  all_goals go_ret
  all_goals exact ⟨ret_int (by first | rfl | (simp; done) | (simp [flagI, *]; done) | (simp_all [flagI]; done) | omega), rfl⟩

set_option maxRecDepth 100000 in
set_option maxHeartbeats 1000000 in
theorem comb15 (a b : Int) (ha0 : 0 ≤ a) (ha1 : a < 4294967296) (hb0 : 0 ≤ b) (hb1 : b < 4294967296) (w : World) :
    Calls Try.prog 73 #[.int .u32 a, .int .u32 b] w fun e w' => e = .returned (.int .u32 (flagI (a == 0))) ∧ w = w' := by
  by_cases h : (a == 0) = true
  all_goals go_enter Try.func73, Try.ntmps73
  all_goals go_wp2
  all_goals go_ret
  all_goals exact ⟨ret_int (by first | rfl | (simp; done) | (simp [flagI, *]; done) | (simp_all [flagI]; done) | omega), rfl⟩

set_option maxRecDepth 100000 in
set_option maxHeartbeats 1000000 in
theorem comb16 (a b : Int) (ha0 : 0 ≤ a) (ha1 : a < 4294967296) (hb0 : 0 ≤ b) (hb1 : b < 4294967296) (w : World) :
    Calls Try.prog 74 #[.int .u32 a, .int .u32 b] w fun e w' => e = .returned (.int .u32 (flagI (a != 0 && b != 0))) ∧ w = w' := by
  by_cases h1 : a = 0
  all_goals by_cases h2 : b = 0
  all_goals go_enter Try.func74, Try.ntmps74
  all_goals go_wp2
  all_goals go_ret
  all_goals exact ⟨ret_int (by first | rfl | (simp; done) | (simp [flagI, *]; done) | (simp_all [flagI]; done) | omega), rfl⟩

set_option maxRecDepth 100000 in
set_option maxHeartbeats 1000000 in
theorem comb17 (a b : Int) (ha0 : 0 ≤ a) (ha1 : a < 4294967296) (hb0 : 0 ≤ b) (hb1 : b < 4294967296) (w : World) :
    Calls Try.prog 75 #[.int .u32 a, .int .u32 b] w fun e w' => e = .returned (.int .u32 (flagI (a != 0 || b != 0))) ∧ w = w' := by
  by_cases h1 : a = 0
  all_goals by_cases h2 : b = 0
  all_goals go_enter Try.func75, Try.ntmps75
  all_goals go_wp2
  all_goals go_ret
  all_goals exact ⟨ret_int (by first | rfl | (simp; done) | (simp [flagI, *]; done) | (simp_all [flagI]; done) | omega), rfl⟩

set_option maxRecDepth 100000 in
set_option maxHeartbeats 1000000 in
theorem comb18 (a b : Int) (ha0 : 0 ≤ a) (ha1 : a < 4294967296) (hb0 : 0 ≤ b) (hb1 : b < 4294967296) (w : World) :
    Calls Try.prog 76 #[.int .u32 a, .int .u32 b] w fun e w' => e = .returned (.int .u32 (flagI (a != 0))) ∧ w = w' := by
  by_cases h1 : a = 0
  all_goals by_cases h2 : b = 0
  all_goals go_enter Try.func76, Try.ntmps76
  all_goals go_wp2
  all_goals go_ret
  all_goals exact ⟨ret_int (by first | rfl | (simp; done) | (simp [flagI, *]; done) | (simp_all [flagI]; done) | omega), rfl⟩

set_option maxRecDepth 100000 in
set_option maxHeartbeats 1000000 in
theorem hash_any (a b : Int) (ha0 : 0 ≤ a) (ha1 : a < 4294967296) (hb0 : 0 ≤ b) (hb1 : b < 4294967296) (w : World) :
    Calls Try.prog 69 #[.int .u32 a, .int .u32 b] w fun e w' => e = .returned (.int .u32 (hash32 a b)) ∧ w = w' := by
  go_enter Try.func69, Try.ntmps69
  go_wp2
  go_ret
  refine ⟨ret_int ?_, rfl⟩
  first | rfl | (simp [hash32]; done) | skip

end Go.Proofs.Ytefdnjhhaejgbaa

namespace Go.Proofs.Ytefdnjhhaejgbaa
open Go.RowKit
set_option linter.unusedVariables false

def combEntries : Array MapEntry := #[{ key := .int .i64 8, val := .func (.func 57) #[] #[], born := 0 },
  { key := .int .i64 9, val := .func (.func 58) #[] #[], born := 1 },
  { key := .int .i64 10, val := .func (.func 59) #[] #[], born := 2 },
  { key := .int .i64 11, val := .func (.func 60) #[] #[], born := 3 },
  { key := .int .i64 12, val := .func (.func 61) #[] #[], born := 4 },
  { key := .int .i64 13, val := .func (.func 62) #[] #[], born := 5 },
  { key := .int .i64 14, val := .func (.func 63) #[] #[], born := 6 },
  { key := .int .i64 15, val := .func (.func 64) #[] #[], born := 7 },
  { key := .int .i64 16, val := .func (.func 65) #[] #[], born := 8 },
  { key := .int .i64 17, val := .func (.func 66) #[] #[], born := 9 },
  { key := .int .i64 18, val := .func (.func 67) #[] #[], born := 10 },
  { key := .int .i64 19, val := .func (.func 68) #[] #[], born := 11 },
  { key := .int .i64 20, val := .func (.func 69) #[] #[], born := 12 },
  { key := .int .i64 21, val := .func (.func 70) #[] #[], born := 13 },
  { key := .int .i64 22, val := .func (.func 72) #[] #[], born := 14 },
  { key := .int .i64 23, val := .func (.func 73) #[] #[], born := 15 },
  { key := .int .i64 24, val := .func (.func 74) #[] #[], born := 16 },
  { key := .int .i64 25, val := .func (.func 75) #[] #[], born := 17 },
  { key := .int .i64 26, val := .func (.func 76) #[] #[], born := 18 }]

def effEntries : Array MapEntry := #[{ key := .int .i64 0, val := .func (.func 93) #[] #[], born := 0 },
  { key := .int .i64 36, val := .func (.func 94) #[] #[], born := 1 },
  { key := .int .i64 37, val := .func (.func 95) #[] #[], born := 2 },
  { key := .int .i64 38, val := .func (.func 96) #[] #[], born := 3 },
  { key := .int .i64 32, val := .func (.func 97) #[] #[], born := 4 },
  { key := .int .i64 33, val := .func (.func 98) #[] #[], born := 5 },
  { key := .int .i64 34, val := .func (.func 99) #[] #[], born := 6 },
  { key := .int .i64 35, val := .func (.func 100) #[] #[], born := 7 },
  { key := .int .i64 3, val := .func (.func 101) #[] #[], born := 8 },
  { key := .int .i64 4, val := .func (.func 102) #[] #[], born := 9 },
  { key := .int .i64 27, val := .func (.func 103) #[] #[], born := 10 },
  { key := .int .i64 28, val := .func (.func 104) #[] #[], born := 11 },
  { key := .int .i64 29, val := .func (.func 105) #[] #[], born := 12 },
  { key := .int .i64 30, val := .func (.func 106) #[] #[], born := 13 },
  { key := .int .i64 31, val := .func (.func 107) #[] #[], born := 14 }]

set_option maxRecDepth 100000 in
set_option maxHeartbeats 1000000 in
theorem combinations_any (w : World) :
    Calls Try.prog 42 #[] w fun e w' => e = .returned (.map (some w.heap.size)) ∧ w' = w.alloc (.map combEntries 19) := by
  have hmm := fun (t : TypeId) (w : World) => run_makeMap (P := Try.prog) t w
  have hup := fun (w : World) es c k v h => run_insert_new (P := Try.prog) (T := 82) Try.underlying82 Try.underlying3 w es c k v h
  have hup0 := fun (w : World) k v => run_insert_new (P := Try.prog) (T := 82) Try.underlying82 Try.underlying3 w #[] 0 k v rfl
  go_enter Try.func42, Try.ntmps42
  go_wp2
  go_ret
  exact ⟨rfl, rfl⟩

set_option maxRecDepth 100000 in
set_option maxHeartbeats 1000000 in
theorem effects_any (w : World) :
    Calls Try.prog 86 #[] w fun e w' => e = .returned (.map (some w.heap.size)) ∧ w' = w.alloc (.map effEntries 15) := by
  have hmm := fun (t : TypeId) (w : World) => run_makeMap (P := Try.prog) t w
  have hup := fun (w : World) es c k v h => run_insert_new (P := Try.prog) (T := 123) Try.underlying123 Try.underlying3 w es c k v h
  have hup0 := fun (w : World) k v => run_insert_new (P := Try.prog) (T := 123) Try.underlying123 Try.underlying3 w #[] 0 k v rfl
  go_enter Try.func86, Try.ntmps86
  go_wp2
  go_ret
  exact ⟨rfl, rfl⟩

theorem zero_comb (w : World) : (zeroValue 80).run Try.prog w = .ok .nilFunc w := by kernel_rfl
theorem zero_eff (w : World) : (zeroValue 125).run Try.prog w = .ok .nilFunc w := by kernel_rfl
theorem comb_keys : intKeys combEntries.toList = true := by decide
theorem eff_keys : intKeys effEntries.toList = true := by decide

theorem ret_two {k l : IntKind} {a b c d : Int} (h : a = b) (h2 : c = d) : Ending.returned (.tuple #[.int k a, .int l c]) = .returned (.tuple #[.int k b, .int l d]) := by rw [h, h2]
theorem arith_8 (a b : Int) : arith 8 a b = (a + b) % 4294967296 := by simp [arith]
theorem arith_9 (a b : Int) : arith 9 a b = (a - b) % 4294967296 := by simp [arith]
theorem arith_10 (a b : Int) : arith 10 a b = (a * b) % 4294967296 := by simp [arith]
theorem arith_11 (a b : Int) : arith 11 a b = a / b := by simp [arith]
theorem arith_12 (a b : Int) : arith 12 a b = a % b := by simp [arith]
theorem arith_13 (a b : Int) : arith 13 a b = bits .and .u32 a b := by simp [arith]
theorem arith_14 (a b : Int) : arith 14 a b = bits .or .u32 a b := by simp [arith]
theorem arith_15 (a b : Int) : arith 15 a b = bits .xor .u32 a b := by simp [arith]
theorem arith_16 (a b : Int) : arith 16 a b = a * 2 ^ (b % 32).toNat % 4294967296 := by simp [arith]
theorem arith_17 (a b : Int) : arith 17 a b = a / 2 ^ (b % 32).toNat := by simp [arith]
theorem arith_18 (a b : Int) : arith 18 a b = min a b := by simp [arith]
theorem arith_19 (a b : Int) : arith 19 a b = max a b := by simp [arith]
theorem arith_20 (a b : Int) : arith 20 a b = hash32 a b := by simp [arith]
theorem arith_21 (a b : Int) : arith 21 a b = flagI (a == b) := by simp [arith]
theorem arith_22 (a b : Int) : arith 22 a b = flagI (decide (a < b)) := by simp [arith]
theorem arith_23 (a b : Int) : arith 23 a b = flagI (a == 0) := by simp [arith]
theorem arith_24 (a b : Int) : arith 24 a b = flagI (a != 0 && b != 0) := by simp [arith]
theorem arith_25 (a b : Int) : arith 25 a b = flagI (a != 0 || b != 0) := by simp [arith]
theorem arith_26 (a b : Int) : arith 26 a b = flagI (a != 0) := by simp [arith]

set_option maxRecDepth 100000 in
set_option maxHeartbeats 1000000 in
theorem apply_8 (a b : Int) (ha0 : 0 ≤ a) (ha1 : a < 4294967296) (hb0 : 0 ≤ b) (hb1 : b < 4294967296) (w : World) :
    Calls Try.prog 23 #[.int .i64 8, .int .u32 a, .int .u32 b] w fun e w' => e = .returned (.tuple #[.int .u32 (arith 8 a b), .int .i64 0]) ∧ Below w.heap.size w w' := by
  have hl := run_lookup_int (P := Try.prog) (T := 82) Try.underlying82 Try.underlying3 (w.alloc (.map combEntries 19)) w.heap.size combEntries 19 (heap_alloc_new w _) 8 comb_keys .nilFunc (zero_comb _)
  have hv : atInt 8 combEntries.toList = some (.func (.func 57) #[] #[]) := by rfl
  rw [hv] at hl
  simp only [Option.getD_some, Option.isSome_some] at hl
  rcases Bool.eq_false_or_eq_true (b == 0) with hz | hz
  all_goals go_enter Try.func23, Try.ntmps23
  all_goals go_wp2_with (first | (go_at_call 42; refine (combinations_any _).mono ?_; rintro e w' ⟨rfl, rfl⟩) | (go_at_call 57; refine (comb1 a b ha0 ha1 hb0 hb1 _).mono ?_; rintro e w' ⟨rfl, rfl⟩))
  all_goals go_ret2
  all_goals exact ⟨ret_two (arith_8 a b).symm rfl, (Below.refl _ _).alloc (Nat.le_refl _) _⟩

set_option maxRecDepth 100000 in
set_option maxHeartbeats 1000000 in
theorem apply_9 (a b : Int) (ha0 : 0 ≤ a) (ha1 : a < 4294967296) (hb0 : 0 ≤ b) (hb1 : b < 4294967296) (w : World) :
    Calls Try.prog 23 #[.int .i64 9, .int .u32 a, .int .u32 b] w fun e w' => e = .returned (.tuple #[.int .u32 (arith 9 a b), .int .i64 0]) ∧ Below w.heap.size w w' := by
  have hl := run_lookup_int (P := Try.prog) (T := 82) Try.underlying82 Try.underlying3 (w.alloc (.map combEntries 19)) w.heap.size combEntries 19 (heap_alloc_new w _) 9 comb_keys .nilFunc (zero_comb _)
  have hv : atInt 9 combEntries.toList = some (.func (.func 58) #[] #[]) := by rfl
  rw [hv] at hl
  simp only [Option.getD_some, Option.isSome_some] at hl
  rcases Bool.eq_false_or_eq_true (b == 0) with hz | hz
  all_goals go_enter Try.func23, Try.ntmps23
  all_goals go_wp2_with (first | (go_at_call 42; refine (combinations_any _).mono ?_; rintro e w' ⟨rfl, rfl⟩) | (go_at_call 58; refine (comb2 a b ha0 ha1 hb0 hb1 _).mono ?_; rintro e w' ⟨rfl, rfl⟩))
  all_goals go_ret2
  all_goals exact ⟨ret_two (arith_9 a b).symm rfl, (Below.refl _ _).alloc (Nat.le_refl _) _⟩

set_option maxRecDepth 100000 in
set_option maxHeartbeats 1000000 in
theorem apply_10 (a b : Int) (ha0 : 0 ≤ a) (ha1 : a < 4294967296) (hb0 : 0 ≤ b) (hb1 : b < 4294967296) (w : World) :
    Calls Try.prog 23 #[.int .i64 10, .int .u32 a, .int .u32 b] w fun e w' => e = .returned (.tuple #[.int .u32 (arith 10 a b), .int .i64 0]) ∧ Below w.heap.size w w' := by
  have hl := run_lookup_int (P := Try.prog) (T := 82) Try.underlying82 Try.underlying3 (w.alloc (.map combEntries 19)) w.heap.size combEntries 19 (heap_alloc_new w _) 10 comb_keys .nilFunc (zero_comb _)
  have hv : atInt 10 combEntries.toList = some (.func (.func 59) #[] #[]) := by rfl
  rw [hv] at hl
  simp only [Option.getD_some, Option.isSome_some] at hl
  rcases Bool.eq_false_or_eq_true (b == 0) with hz | hz
  all_goals go_enter Try.func23, Try.ntmps23
  all_goals go_wp2_with (first | (go_at_call 42; refine (combinations_any _).mono ?_; rintro e w' ⟨rfl, rfl⟩) | (go_at_call 59; refine (comb3 a b ha0 ha1 hb0 hb1 _).mono ?_; rintro e w' ⟨rfl, rfl⟩))
  all_goals go_ret2
  all_goals exact ⟨ret_two (arith_10 a b).symm rfl, (Below.refl _ _).alloc (Nat.le_refl _) _⟩

set_option maxRecDepth 100000 in
set_option maxHeartbeats 1000000 in
theorem apply_11 (a b : Int) (ha0 : 0 ≤ a) (ha1 : a < 4294967296) (hb0 : 0 ≤ b) (hb1 : b < 4294967296) (hb : ¬ b = 0) (w : World) :
    Calls Try.prog 23 #[.int .i64 11, .int .u32 a, .int .u32 b] w fun e w' => e = .returned (.tuple #[.int .u32 (arith 11 a b), .int .i64 0]) ∧ Below w.heap.size w w' := by
  have hl := run_lookup_int (P := Try.prog) (T := 82) Try.underlying82 Try.underlying3 (w.alloc (.map combEntries 19)) w.heap.size combEntries 19 (heap_alloc_new w _) 11 comb_keys .nilFunc (zero_comb _)
  have hv : atInt 11 combEntries.toList = some (.func (.func 60) #[] #[]) := by rfl
  rw [hv] at hl
  simp only [Option.getD_some, Option.isSome_some] at hl
  have hb' : (b == 0) = false := by simpa using hb
  go_enter Try.func23, Try.ntmps23
  go_wp2_with (first | (go_at_call 42; refine (combinations_any _).mono ?_; rintro e w' ⟨rfl, rfl⟩) | (go_at_call 60; refine (comb4 a b ha0 ha1 hb0 hb1 hb _).mono ?_; rintro e w' ⟨rfl, rfl⟩))
  all_goals go_ret2
  all_goals exact ⟨ret_two (arith_11 a b).symm rfl, (Below.refl _ _).alloc (Nat.le_refl _) _⟩

set_option maxRecDepth 100000 in
set_option maxHeartbeats 1000000 in
theorem apply_12 (a b : Int) (ha0 : 0 ≤ a) (ha1 : a < 4294967296) (hb0 : 0 ≤ b) (hb1 : b < 4294967296) (hb : ¬ b = 0) (w : World) :
    Calls Try.prog 23 #[.int .i64 12, .int .u32 a, .int .u32 b] w fun e w' => e = .returned (.tuple #[.int .u32 (arith 12 a b), .int .i64 0]) ∧ Below w.heap.size w w' := by
  have hl := run_lookup_int (P := Try.prog) (T := 82) Try.underlying82 Try.underlying3 (w.alloc (.map combEntries 19)) w.heap.size combEntries 19 (heap_alloc_new w _) 12 comb_keys .nilFunc (zero_comb _)
  have hv : atInt 12 combEntries.toList = some (.func (.func 61) #[] #[]) := by rfl
  rw [hv] at hl
  simp only [Option.getD_some, Option.isSome_some] at hl
  have hb' : (b == 0) = false := by simpa using hb
  go_enter Try.func23, Try.ntmps23
  go_wp2_with (first | (go_at_call 42; refine (combinations_any _).mono ?_; rintro e w' ⟨rfl, rfl⟩) | (go_at_call 61; refine (comb5 a b ha0 ha1 hb0 hb1 hb _).mono ?_; rintro e w' ⟨rfl, rfl⟩))
  all_goals go_ret2
  all_goals exact ⟨ret_two (arith_12 a b).symm rfl, (Below.refl _ _).alloc (Nat.le_refl _) _⟩

set_option maxRecDepth 100000 in
set_option maxHeartbeats 1000000 in
theorem apply_13 (a b : Int) (ha0 : 0 ≤ a) (ha1 : a < 4294967296) (hb0 : 0 ≤ b) (hb1 : b < 4294967296) (w : World) :
    Calls Try.prog 23 #[.int .i64 13, .int .u32 a, .int .u32 b] w fun e w' => e = .returned (.tuple #[.int .u32 (arith 13 a b), .int .i64 0]) ∧ Below w.heap.size w w' := by
  have hl := run_lookup_int (P := Try.prog) (T := 82) Try.underlying82 Try.underlying3 (w.alloc (.map combEntries 19)) w.heap.size combEntries 19 (heap_alloc_new w _) 13 comb_keys .nilFunc (zero_comb _)
  have hv : atInt 13 combEntries.toList = some (.func (.func 62) #[] #[]) := by rfl
  rw [hv] at hl
  simp only [Option.getD_some, Option.isSome_some] at hl
  rcases Bool.eq_false_or_eq_true (b == 0) with hz | hz
  all_goals go_enter Try.func23, Try.ntmps23
  all_goals go_wp2_with (first | (go_at_call 42; refine (combinations_any _).mono ?_; rintro e w' ⟨rfl, rfl⟩) | (go_at_call 62; refine (comb6 a b ha0 ha1 hb0 hb1 _).mono ?_; rintro e w' ⟨rfl, rfl⟩))
  all_goals go_ret2
  all_goals exact ⟨ret_two (arith_13 a b).symm rfl, (Below.refl _ _).alloc (Nat.le_refl _) _⟩

set_option maxRecDepth 100000 in
set_option maxHeartbeats 1000000 in
theorem apply_14 (a b : Int) (ha0 : 0 ≤ a) (ha1 : a < 4294967296) (hb0 : 0 ≤ b) (hb1 : b < 4294967296) (w : World) :
    Calls Try.prog 23 #[.int .i64 14, .int .u32 a, .int .u32 b] w fun e w' => e = .returned (.tuple #[.int .u32 (arith 14 a b), .int .i64 0]) ∧ Below w.heap.size w w' := by
  have hl := run_lookup_int (P := Try.prog) (T := 82) Try.underlying82 Try.underlying3 (w.alloc (.map combEntries 19)) w.heap.size combEntries 19 (heap_alloc_new w _) 14 comb_keys .nilFunc (zero_comb _)
  have hv : atInt 14 combEntries.toList = some (.func (.func 63) #[] #[]) := by rfl
  rw [hv] at hl
  simp only [Option.getD_some, Option.isSome_some] at hl
  rcases Bool.eq_false_or_eq_true (b == 0) with hz | hz
  all_goals go_enter Try.func23, Try.ntmps23
  all_goals go_wp2_with (first | (go_at_call 42; refine (combinations_any _).mono ?_; rintro e w' ⟨rfl, rfl⟩) | (go_at_call 63; refine (comb7 a b ha0 ha1 hb0 hb1 _).mono ?_; rintro e w' ⟨rfl, rfl⟩))
  all_goals go_ret2
  all_goals exact ⟨ret_two (arith_14 a b).symm rfl, (Below.refl _ _).alloc (Nat.le_refl _) _⟩

set_option maxRecDepth 100000 in
set_option maxHeartbeats 1000000 in
theorem apply_15 (a b : Int) (ha0 : 0 ≤ a) (ha1 : a < 4294967296) (hb0 : 0 ≤ b) (hb1 : b < 4294967296) (w : World) :
    Calls Try.prog 23 #[.int .i64 15, .int .u32 a, .int .u32 b] w fun e w' => e = .returned (.tuple #[.int .u32 (arith 15 a b), .int .i64 0]) ∧ Below w.heap.size w w' := by
  have hl := run_lookup_int (P := Try.prog) (T := 82) Try.underlying82 Try.underlying3 (w.alloc (.map combEntries 19)) w.heap.size combEntries 19 (heap_alloc_new w _) 15 comb_keys .nilFunc (zero_comb _)
  have hv : atInt 15 combEntries.toList = some (.func (.func 64) #[] #[]) := by rfl
  rw [hv] at hl
  simp only [Option.getD_some, Option.isSome_some] at hl
  rcases Bool.eq_false_or_eq_true (b == 0) with hz | hz
  all_goals go_enter Try.func23, Try.ntmps23
  all_goals go_wp2_with (first | (go_at_call 42; refine (combinations_any _).mono ?_; rintro e w' ⟨rfl, rfl⟩) | (go_at_call 64; refine (comb8 a b ha0 ha1 hb0 hb1 _).mono ?_; rintro e w' ⟨rfl, rfl⟩))
  all_goals go_ret2
  all_goals exact ⟨ret_two (arith_15 a b).symm rfl, (Below.refl _ _).alloc (Nat.le_refl _) _⟩

set_option maxRecDepth 100000 in
set_option maxHeartbeats 1000000 in
theorem apply_16 (a b : Int) (ha0 : 0 ≤ a) (ha1 : a < 4294967296) (hb0 : 0 ≤ b) (hb1 : b < 4294967296) (w : World) :
    Calls Try.prog 23 #[.int .i64 16, .int .u32 a, .int .u32 b] w fun e w' => e = .returned (.tuple #[.int .u32 (arith 16 a b), .int .i64 0]) ∧ Below w.heap.size w w' := by
  have hl := run_lookup_int (P := Try.prog) (T := 82) Try.underlying82 Try.underlying3 (w.alloc (.map combEntries 19)) w.heap.size combEntries 19 (heap_alloc_new w _) 16 comb_keys .nilFunc (zero_comb _)
  have hv : atInt 16 combEntries.toList = some (.func (.func 65) #[] #[]) := by rfl
  rw [hv] at hl
  simp only [Option.getD_some, Option.isSome_some] at hl
  rcases Bool.eq_false_or_eq_true (b == 0) with hz | hz
  all_goals go_enter Try.func23, Try.ntmps23
  all_goals go_wp2_with (first | (go_at_call 42; refine (combinations_any _).mono ?_; rintro e w' ⟨rfl, rfl⟩) | (go_at_call 65; refine (comb9 a b ha0 ha1 hb0 hb1 _).mono ?_; rintro e w' ⟨rfl, rfl⟩))
  all_goals go_ret2
  all_goals exact ⟨ret_two (arith_16 a b).symm rfl, (Below.refl _ _).alloc (Nat.le_refl _) _⟩

set_option maxRecDepth 100000 in
set_option maxHeartbeats 1000000 in
theorem apply_17 (a b : Int) (ha0 : 0 ≤ a) (ha1 : a < 4294967296) (hb0 : 0 ≤ b) (hb1 : b < 4294967296) (w : World) :
    Calls Try.prog 23 #[.int .i64 17, .int .u32 a, .int .u32 b] w fun e w' => e = .returned (.tuple #[.int .u32 (arith 17 a b), .int .i64 0]) ∧ Below w.heap.size w w' := by
  have hl := run_lookup_int (P := Try.prog) (T := 82) Try.underlying82 Try.underlying3 (w.alloc (.map combEntries 19)) w.heap.size combEntries 19 (heap_alloc_new w _) 17 comb_keys .nilFunc (zero_comb _)
  have hv : atInt 17 combEntries.toList = some (.func (.func 66) #[] #[]) := by rfl
  rw [hv] at hl
  simp only [Option.getD_some, Option.isSome_some] at hl
  rcases Bool.eq_false_or_eq_true (b == 0) with hz | hz
  all_goals go_enter Try.func23, Try.ntmps23
  all_goals go_wp2_with (first | (go_at_call 42; refine (combinations_any _).mono ?_; rintro e w' ⟨rfl, rfl⟩) | (go_at_call 66; refine (comb10 a b ha0 ha1 hb0 hb1 _).mono ?_; rintro e w' ⟨rfl, rfl⟩))
  all_goals go_ret2
  all_goals exact ⟨ret_two (arith_17 a b).symm rfl, (Below.refl _ _).alloc (Nat.le_refl _) _⟩

set_option maxRecDepth 100000 in
set_option maxHeartbeats 1000000 in
theorem apply_18 (a b : Int) (ha0 : 0 ≤ a) (ha1 : a < 4294967296) (hb0 : 0 ≤ b) (hb1 : b < 4294967296) (w : World) :
    Calls Try.prog 23 #[.int .i64 18, .int .u32 a, .int .u32 b] w fun e w' => e = .returned (.tuple #[.int .u32 (arith 18 a b), .int .i64 0]) ∧ Below w.heap.size w w' := by
  have hl := run_lookup_int (P := Try.prog) (T := 82) Try.underlying82 Try.underlying3 (w.alloc (.map combEntries 19)) w.heap.size combEntries 19 (heap_alloc_new w _) 18 comb_keys .nilFunc (zero_comb _)
  have hv : atInt 18 combEntries.toList = some (.func (.func 67) #[] #[]) := by rfl
  rw [hv] at hl
  simp only [Option.getD_some, Option.isSome_some] at hl
  rcases Bool.eq_false_or_eq_true (b == 0) with hz | hz
  all_goals go_enter Try.func23, Try.ntmps23
  all_goals go_wp2_with (first | (go_at_call 42; refine (combinations_any _).mono ?_; rintro e w' ⟨rfl, rfl⟩) | (go_at_call 67; refine (comb11 a b ha0 ha1 hb0 hb1 _).mono ?_; rintro e w' ⟨rfl, rfl⟩))
  all_goals go_ret2
  all_goals exact ⟨ret_two (arith_18 a b).symm rfl, (Below.refl _ _).alloc (Nat.le_refl _) _⟩

set_option maxRecDepth 100000 in
set_option maxHeartbeats 1000000 in
theorem apply_19 (a b : Int) (ha0 : 0 ≤ a) (ha1 : a < 4294967296) (hb0 : 0 ≤ b) (hb1 : b < 4294967296) (w : World) :
    Calls Try.prog 23 #[.int .i64 19, .int .u32 a, .int .u32 b] w fun e w' => e = .returned (.tuple #[.int .u32 (arith 19 a b), .int .i64 0]) ∧ Below w.heap.size w w' := by
  have hl := run_lookup_int (P := Try.prog) (T := 82) Try.underlying82 Try.underlying3 (w.alloc (.map combEntries 19)) w.heap.size combEntries 19 (heap_alloc_new w _) 19 comb_keys .nilFunc (zero_comb _)
  have hv : atInt 19 combEntries.toList = some (.func (.func 68) #[] #[]) := by rfl
  rw [hv] at hl
  simp only [Option.getD_some, Option.isSome_some] at hl
  rcases Bool.eq_false_or_eq_true (b == 0) with hz | hz
  all_goals go_enter Try.func23, Try.ntmps23
  all_goals go_wp2_with (first | (go_at_call 42; refine (combinations_any _).mono ?_; rintro e w' ⟨rfl, rfl⟩) | (go_at_call 68; refine (comb12 a b ha0 ha1 hb0 hb1 _).mono ?_; rintro e w' ⟨rfl, rfl⟩))
  all_goals go_ret2
  all_goals exact ⟨ret_two (arith_19 a b).symm rfl, (Below.refl _ _).alloc (Nat.le_refl _) _⟩

set_option maxRecDepth 100000 in
set_option maxHeartbeats 1000000 in
theorem apply_20 (a b : Int) (ha0 : 0 ≤ a) (ha1 : a < 4294967296) (hb0 : 0 ≤ b) (hb1 : b < 4294967296) (w : World) :
    Calls Try.prog 23 #[.int .i64 20, .int .u32 a, .int .u32 b] w fun e w' => e = .returned (.tuple #[.int .u32 (arith 20 a b), .int .i64 0]) ∧ Below w.heap.size w w' := by
  have hl := run_lookup_int (P := Try.prog) (T := 82) Try.underlying82 Try.underlying3 (w.alloc (.map combEntries 19)) w.heap.size combEntries 19 (heap_alloc_new w _) 20 comb_keys .nilFunc (zero_comb _)
  have hv : atInt 20 combEntries.toList = some (.func (.func 69) #[] #[]) := by rfl
  rw [hv] at hl
  simp only [Option.getD_some, Option.isSome_some] at hl
  rcases Bool.eq_false_or_eq_true (b == 0) with hz | hz
  all_goals go_enter Try.func23, Try.ntmps23
  all_goals go_wp2_with (first | (go_at_call 42; refine (combinations_any _).mono ?_; rintro e w' ⟨rfl, rfl⟩) | (go_at_call 69; refine (hash_any a b ha0 ha1 hb0 hb1 _).mono ?_; rintro e w' ⟨rfl, rfl⟩))
  all_goals go_ret2
  all_goals exact ⟨ret_two (arith_20 a b).symm rfl, (Below.refl _ _).alloc (Nat.le_refl _) _⟩

set_option maxRecDepth 100000 in
set_option maxHeartbeats 1000000 in
theorem apply_21 (a b : Int) (ha0 : 0 ≤ a) (ha1 : a < 4294967296) (hb0 : 0 ≤ b) (hb1 : b < 4294967296) (w : World) :
    Calls Try.prog 23 #[.int .i64 21, .int .u32 a, .int .u32 b] w fun e w' => e = .returned (.tuple #[.int .u32 (arith 21 a b), .int .i64 0]) ∧ Below w.heap.size w w' := by
  have hl := run_lookup_int (P := Try.prog) (T := 82) Try.underlying82 Try.underlying3 (w.alloc (.map combEntries 19)) w.heap.size combEntries 19 (heap_alloc_new w _) 21 comb_keys .nilFunc (zero_comb _)
  have hv : atInt 21 combEntries.toList = some (.func (.func 70) #[] #[]) := by rfl
  rw [hv] at hl
  simp only [Option.getD_some, Option.isSome_some] at hl
  rcases Bool.eq_false_or_eq_true (b == 0) with hz | hz
  all_goals go_enter Try.func23, Try.ntmps23
  all_goals go_wp2_with (first | (go_at_call 42; refine (combinations_any _).mono ?_; rintro e w' ⟨rfl, rfl⟩) | (go_at_call 70; refine (comb13 a b ha0 ha1 hb0 hb1 _).mono ?_; rintro e w' ⟨rfl, rfl⟩))
  all_goals go_ret2
  all_goals exact ⟨ret_two (arith_21 a b).symm rfl, (Below.refl _ _).alloc (Nat.le_refl _) _⟩

set_option maxRecDepth 100000 in
set_option maxHeartbeats 1000000 in
theorem apply_22 (a b : Int) (ha0 : 0 ≤ a) (ha1 : a < 4294967296) (hb0 : 0 ≤ b) (hb1 : b < 4294967296) (w : World) :
    Calls Try.prog 23 #[.int .i64 22, .int .u32 a, .int .u32 b] w fun e w' => e = .returned (.tuple #[.int .u32 (arith 22 a b), .int .i64 0]) ∧ Below w.heap.size w w' := by
  have hl := run_lookup_int (P := Try.prog) (T := 82) Try.underlying82 Try.underlying3 (w.alloc (.map combEntries 19)) w.heap.size combEntries 19 (heap_alloc_new w _) 22 comb_keys .nilFunc (zero_comb _)
  have hv : atInt 22 combEntries.toList = some (.func (.func 72) #[] #[]) := by rfl
  rw [hv] at hl
  simp only [Option.getD_some, Option.isSome_some] at hl
  rcases Bool.eq_false_or_eq_true (b == 0) with hz | hz
  all_goals go_enter Try.func23, Try.ntmps23
  all_goals go_wp2_with (first | (go_at_call 42; refine (combinations_any _).mono ?_; rintro e w' ⟨rfl, rfl⟩) | (go_at_call 72; refine (comb14 a b ha0 ha1 hb0 hb1 _).mono ?_; rintro e w' ⟨rfl, rfl⟩))
  all_goals go_ret2
  all_goals exact ⟨ret_two (arith_22 a b).symm rfl, (Below.refl _ _).alloc (Nat.le_refl _) _⟩

set_option maxRecDepth 100000 in
set_option maxHeartbeats 1000000 in
theorem apply_23 (a b : Int) (ha0 : 0 ≤ a) (ha1 : a < 4294967296) (hb0 : 0 ≤ b) (hb1 : b < 4294967296) (w : World) :
    Calls Try.prog 23 #[.int .i64 23, .int .u32 a, .int .u32 b] w fun e w' => e = .returned (.tuple #[.int .u32 (arith 23 a b), .int .i64 0]) ∧ Below w.heap.size w w' := by
  have hl := run_lookup_int (P := Try.prog) (T := 82) Try.underlying82 Try.underlying3 (w.alloc (.map combEntries 19)) w.heap.size combEntries 19 (heap_alloc_new w _) 23 comb_keys .nilFunc (zero_comb _)
  have hv : atInt 23 combEntries.toList = some (.func (.func 73) #[] #[]) := by rfl
  rw [hv] at hl
  simp only [Option.getD_some, Option.isSome_some] at hl
  rcases Bool.eq_false_or_eq_true (b == 0) with hz | hz
  all_goals go_enter Try.func23, Try.ntmps23
  all_goals go_wp2_with (first | (go_at_call 42; refine (combinations_any _).mono ?_; rintro e w' ⟨rfl, rfl⟩) | (go_at_call 73; refine (comb15 a b ha0 ha1 hb0 hb1 _).mono ?_; rintro e w' ⟨rfl, rfl⟩))
  all_goals go_ret2
  all_goals exact ⟨ret_two (arith_23 a b).symm rfl, (Below.refl _ _).alloc (Nat.le_refl _) _⟩

set_option maxRecDepth 100000 in
set_option maxHeartbeats 1000000 in
theorem apply_24 (a b : Int) (ha0 : 0 ≤ a) (ha1 : a < 4294967296) (hb0 : 0 ≤ b) (hb1 : b < 4294967296) (w : World) :
    Calls Try.prog 23 #[.int .i64 24, .int .u32 a, .int .u32 b] w fun e w' => e = .returned (.tuple #[.int .u32 (arith 24 a b), .int .i64 0]) ∧ Below w.heap.size w w' := by
  have hl := run_lookup_int (P := Try.prog) (T := 82) Try.underlying82 Try.underlying3 (w.alloc (.map combEntries 19)) w.heap.size combEntries 19 (heap_alloc_new w _) 24 comb_keys .nilFunc (zero_comb _)
  have hv : atInt 24 combEntries.toList = some (.func (.func 74) #[] #[]) := by rfl
  rw [hv] at hl
  simp only [Option.getD_some, Option.isSome_some] at hl
  rcases Bool.eq_false_or_eq_true (b == 0) with hz | hz
  all_goals go_enter Try.func23, Try.ntmps23
  all_goals go_wp2_with (first | (go_at_call 42; refine (combinations_any _).mono ?_; rintro e w' ⟨rfl, rfl⟩) | (go_at_call 74; refine (comb16 a b ha0 ha1 hb0 hb1 _).mono ?_; rintro e w' ⟨rfl, rfl⟩))
  all_goals go_ret2
  all_goals exact ⟨ret_two (arith_24 a b).symm rfl, (Below.refl _ _).alloc (Nat.le_refl _) _⟩

set_option maxRecDepth 100000 in
set_option maxHeartbeats 1000000 in
theorem apply_25 (a b : Int) (ha0 : 0 ≤ a) (ha1 : a < 4294967296) (hb0 : 0 ≤ b) (hb1 : b < 4294967296) (w : World) :
    Calls Try.prog 23 #[.int .i64 25, .int .u32 a, .int .u32 b] w fun e w' => e = .returned (.tuple #[.int .u32 (arith 25 a b), .int .i64 0]) ∧ Below w.heap.size w w' := by
  have hl := run_lookup_int (P := Try.prog) (T := 82) Try.underlying82 Try.underlying3 (w.alloc (.map combEntries 19)) w.heap.size combEntries 19 (heap_alloc_new w _) 25 comb_keys .nilFunc (zero_comb _)
  have hv : atInt 25 combEntries.toList = some (.func (.func 75) #[] #[]) := by rfl
  rw [hv] at hl
  simp only [Option.getD_some, Option.isSome_some] at hl
  rcases Bool.eq_false_or_eq_true (b == 0) with hz | hz
  all_goals go_enter Try.func23, Try.ntmps23
  all_goals go_wp2_with (first | (go_at_call 42; refine (combinations_any _).mono ?_; rintro e w' ⟨rfl, rfl⟩) | (go_at_call 75; refine (comb17 a b ha0 ha1 hb0 hb1 _).mono ?_; rintro e w' ⟨rfl, rfl⟩))
  all_goals go_ret2
  all_goals exact ⟨ret_two (arith_25 a b).symm rfl, (Below.refl _ _).alloc (Nat.le_refl _) _⟩

set_option maxRecDepth 100000 in
set_option maxHeartbeats 1000000 in
theorem apply_26 (a b : Int) (ha0 : 0 ≤ a) (ha1 : a < 4294967296) (hb0 : 0 ≤ b) (hb1 : b < 4294967296) (w : World) :
    Calls Try.prog 23 #[.int .i64 26, .int .u32 a, .int .u32 b] w fun e w' => e = .returned (.tuple #[.int .u32 (arith 26 a b), .int .i64 0]) ∧ Below w.heap.size w w' := by
  have hl := run_lookup_int (P := Try.prog) (T := 82) Try.underlying82 Try.underlying3 (w.alloc (.map combEntries 19)) w.heap.size combEntries 19 (heap_alloc_new w _) 26 comb_keys .nilFunc (zero_comb _)
  have hv : atInt 26 combEntries.toList = some (.func (.func 76) #[] #[]) := by rfl
  rw [hv] at hl
  simp only [Option.getD_some, Option.isSome_some] at hl
  rcases Bool.eq_false_or_eq_true (b == 0) with hz | hz
  all_goals go_enter Try.func23, Try.ntmps23
  all_goals go_wp2_with (first | (go_at_call 42; refine (combinations_any _).mono ?_; rintro e w' ⟨rfl, rfl⟩) | (go_at_call 76; refine (comb18 a b ha0 ha1 hb0 hb1 _).mono ?_; rintro e w' ⟨rfl, rfl⟩))
  all_goals go_ret2
  all_goals exact ⟨ret_two (arith_26 a b).symm rfl, (Below.refl _ _).alloc (Nat.le_refl _) _⟩

set_option maxRecDepth 100000 in
set_option maxHeartbeats 1000000 in
theorem apply_none (op a b : Int) (h : op < 8 ∨ 26 < op) (w : World) :
    Calls Try.prog 23 #[.int .i64 op, .int .u32 a, .int .u32 b] w fun e w' => e = .returned (.tuple #[.int .u32 0, .int .i64 1]) ∧ Below w.heap.size w w' := by
  have hl := run_lookup_int (P := Try.prog) (T := 82) Try.underlying82 Try.underlying3 (w.alloc (.map combEntries 19)) w.heap.size combEntries 19 (heap_alloc_new w _) op comb_keys .nilFunc (zero_comb _)
  have hv : atInt op combEntries.toList = none := by
    simp only [combEntries, atInt, keyInt]
    repeat rw [if_neg (by omega)]
  rw [hv] at hl
  simp only [Option.getD_none, Option.isSome_none] at hl
  clear hv
  have HH := Lib.hid h
  clear h
  go_enter Try.func23, Try.ntmps23
  go_wp2_with (go_at_call 42; refine (combinations_any _).mono ?_; rintro e w' ⟨rfl, rfl⟩)
  all_goals go_ret2
  all_goals exact ⟨rfl, (Below.refl _ _).alloc (Nat.le_refl _) _⟩

set_option maxRecDepth 100000 in
set_option maxHeartbeats 1000000 in
theorem apply_110 (a : Int) (w : World) :
    Calls Try.prog 23 #[.int .i64 11, .int .u32 a, .int .u32 0] w fun e w' => e = .returned (.tuple #[.int .u32 0, .int .i64 17]) ∧ Below w.heap.size w w' := by
  have hl := run_lookup_int (P := Try.prog) (T := 82) Try.underlying82 Try.underlying3 (w.alloc (.map combEntries 19)) w.heap.size combEntries 19 (heap_alloc_new w _) 11 comb_keys .nilFunc (zero_comb _)
  have hv : atInt 11 combEntries.toList = some (.func (.func 60) #[] #[]) := by rfl
  rw [hv] at hl
  simp only [Option.getD_some, Option.isSome_some] at hl
  go_enter Try.func23, Try.ntmps23
  go_wp2_with (go_at_call 42; refine (combinations_any _).mono ?_; rintro e w' ⟨rfl, rfl⟩)
  all_goals go_ret2
  all_goals exact ⟨rfl, (Below.refl _ _).alloc (Nat.le_refl _) _⟩

set_option maxRecDepth 100000 in
set_option maxHeartbeats 1000000 in
theorem apply_120 (a : Int) (w : World) :
    Calls Try.prog 23 #[.int .i64 12, .int .u32 a, .int .u32 0] w fun e w' => e = .returned (.tuple #[.int .u32 0, .int .i64 17]) ∧ Below w.heap.size w w' := by
  have hl := run_lookup_int (P := Try.prog) (T := 82) Try.underlying82 Try.underlying3 (w.alloc (.map combEntries 19)) w.heap.size combEntries 19 (heap_alloc_new w _) 12 comb_keys .nilFunc (zero_comb _)
  have hv : atInt 12 combEntries.toList = some (.func (.func 61) #[] #[]) := by rfl
  rw [hv] at hl
  simp only [Option.getD_some, Option.isSome_some] at hl
  go_enter Try.func23, Try.ntmps23
  go_wp2_with (go_at_call 42; refine (combinations_any _).mono ?_; rintro e w' ⟨rfl, rfl⟩)
  all_goals go_ret2
  all_goals exact ⟨rfl, (Below.refl _ _).alloc (Nat.le_refl _) _⟩

end Go.Proofs.Ytefdnjhhaejgbaa

namespace Go.Proofs.Ytefdnjhhaejgbaa
open Go.RowKit

set_option maxHeartbeats 400000 in
theorem get_neg (m : Addr) (r : Int) (w : World) (h : r < 0) :
    Calls Try.prog 109 #[.pointer (some m), .int .i64 r] w fun e w' => e = .returned (.int .u32 0) ∧ w = w' := by
  go_enter Try.func109, Try.ntmps109
  go_wp2
  go_ret
  exact ⟨rfl, rfl⟩

set_option maxHeartbeats 400000 in
theorem get_reg (m b off len cap r : Nat) (x : Int) (w : World) (h : r < len) (_hl : len ≤ 1024)
    (hm : w.cell? ⟨m, 10, none⟩ = some (.slice (some ⟨b, off, none⟩) len cap))
    (hx : w.cell? ⟨b, off + r, none⟩ = some (.int .u32 x)) :
    Calls Try.prog 109 #[.pointer (some ⟨m, 0, none⟩), .int .i64 r] w fun e w' => e = .returned (.int .u32 x) ∧ w = w' := by
  go_enter Try.func109, Try.ntmps109
  go_wp2
  go_ret
  exact ⟨rfl, rfl⟩

set_option maxHeartbeats 400000 in
theorem step_yes (m : Nat) (s f : Int) (w : World) (hs : w.cell? ⟨m, 14, none⟩ = some (.int .i64 s)) (hf : w.cell? ⟨m, 9, none⟩ = some (.int .i64 f))
    (hz : w.frozen? ⟨m, 14, none⟩ = false) (h : s < f) (h0 : 0 ≤ s) (hf2 : f ≤ 281474976710656) :
    Calls Try.prog 87 #[.pointer (some ⟨m, 0, none⟩)] w fun e w' => e = .returned (.tuple #[]) ∧ ∃ n, w' = (w.setCell ⟨m, 14, none⟩ (.int .i64 (s + 1))).drewN n := by
  have hd : decide (s < f) = true := by simp [h]
  go_enter Try.func87, Try.ntmps87
  go_wp2
  go_quiet ((go_at_call 108; exact Calls.quiet_of_same ((demand_yes _ _).mono (fun _ _ ⟨a, b⟩ => ⟨a, b.symm⟩))))
  go_wp2
  go_end0
  exact ⟨rfl, _, rfl⟩

set_option maxRecDepth 100000 in
set_option maxHeartbeats 400000 in
theorem step_no (m : Nat) (s f : Int) (w : World) (hs : w.cell? ⟨m, 14, none⟩ = some (.int .i64 s)) (hf : w.cell? ⟨m, 9, none⟩ = some (.int .i64 f)) (h : ¬ s < f) :
    Calls Try.prog 87 #[.pointer (some ⟨m, 0, none⟩)] w fun e w' => e = .panicked (failed 19) ∧ ∃ n, w' = w.drewN n := by
  have hd : decide (s < f) = false := by simp [h]
  go_enter Try.func87, Try.ntmps87
  go_wp2
  go_still_tail 10, (by kernel_rfl)
  go_wp2_with (go_at_call 108; refine (demand_no _ _).mono ?_; rintro e w' ⟨rfl, rfl⟩)
  go_outline
  exact ⟨rfl, rfl, 1, rfl⟩

theorem nat_cast_lt {r len : Nat} (h : r < len) : (0 : Int) ≤ (r : Int) ∧ (r : Int) < (len : Int) := by omega

theorem drewN_below {B : Nat} {a w : World} (h : Below B a w) (n : Nat) : Below B a (w.drewN n) := ⟨h.os, h.tape, h.output, h.size, h.block⟩

/-- what the register that an instruction names holds: 0 for none -/
def GetIs (w : World) (m : Nat) (a v : Int) : Prop :=
  ∀ w', Below w.heap.size w w' → Calls Try.prog 109 #[.pointer (some ⟨m, 0, none⟩), .int .i64 a] w' fun e w'' => e = .returned (.int .u32 v) ∧ w' = w''

set_option maxRecDepth 100000 in
set_option maxHeartbeats 400000 in
theorem m_push (m b off len cap : Nat) (op a bb arg : Int) (r : Nat) (w : World) (h : r < len) (x0 : Value)
    (hm : w.cell? ⟨m, 10, none⟩ = some (.slice (some ⟨b, off, none⟩) len cap))
    (hx : w.cell? ⟨b, off + r, none⟩ = some x0) (hz : w.frozen? ⟨b, off + r, none⟩ = false) (hb : b < w.heap.size) (hmm : m < w.heap.size) :
    Calls Try.prog 93 #[.pointer (some ⟨m, 0, none⟩), .agg #[.int .i64 op, .int .i64 r, .int .i64 a, .int .i64 bb, .int .u32 arg]] w fun e w' => e = .returned (.tuple #[]) ∧
      Below w.heap.size (w.setCell ⟨b, off + r, none⟩ (.int .u32 arg)) w' := by
  have h0 := nat_cast_lt h
  go_enter Try.func93, Try.ntmps93
  go_wp2
  go_region
  go_end0
  exact ⟨rfl, ((Below.refl _ _).alloc (by simp) _).drew⟩

set_option maxRecDepth 100000 in
set_option maxHeartbeats 400000 in
theorem m_move (m b off len cap : Nat) (op a bb arg : Int) (r : Nat) (w : World) (h : r < len) (x0 : Value) (v : Int)
    (hm : w.cell? ⟨m, 10, none⟩ = some (.slice (some ⟨b, off, none⟩) len cap)) (hget : GetIs w m a v)
    (hx : w.cell? ⟨b, off + r, none⟩ = some x0) (hz : w.frozen? ⟨b, off + r, none⟩ = false) (hb : b < w.heap.size) (hmm : m < w.heap.size) :
    Calls Try.prog 94 #[.pointer (some ⟨m, 0, none⟩), .agg #[.int .i64 op, .int .i64 r, .int .i64 a, .int .i64 bb, .int .u32 arg]] w fun e w' => e = .returned (.tuple #[]) ∧
      Below w.heap.size (w.setCell ⟨b, off + r, none⟩ (.int .u32 v)) w' := by
  have h0 := nat_cast_lt h
  go_enter Try.func94, Try.ntmps94
  go_wp2
  refine wp_region_grew [3, 5, 8] [0, 1, 2, 4, 6, 7] [(2, 0), (2, 1), (2, 2), (2, 4), (2, 6), (2, 7), (1, 3), (1, 5), (1, 8), (0, 9), (0, 10), (0, 11)] (by kernel_rfl) (by kernel_rfl) (fun c a d v w h => by cases d <;> exact h) ?_
  simp only [getPlan, List.filterMap_cons, List.filterMap_nil, List.getElem?_toArray, List.getElem?_cons_succ, List.getElem?_cons_zero, Option.map_some]
  repeat ((first | refine wpPlan_pure (fun K hK => ?_) | refine wpPlan_float (fun K hK => ?_)); go_simp; refine hK _ ?_; clear hK K)
  refine wpPlan_keep ?_
  go_wp2_with (go_at_call 109; refine (hget _ (((Below.refl _ _).alloc (by simp) _).drew)).mono ?_; rintro e w' ⟨rfl, rfl⟩)
  refine ⟨grew_below (Below.refl _ _).drew, ?_⟩
  refine wpPlan_tail (by kernel_rfl) ?_
  simp only [List.map_cons, List.map_nil]
  go_wp2
  go_end0
  exact ⟨rfl, ((Below.refl _ _).alloc (by simp) _).drew⟩

end Go.Proofs.Ytefdnjhhaejgbaa

namespace Go.Proofs.Ytefdnjhhaejgbaa
open Go.RowKit

set_option maxRecDepth 100000 in
set_option maxHeartbeats 1000000 in
theorem m_save (m b off len cap : Nat) (op to a bb : Int) (r : Nat) (w : World) (h : r < len) (x0 : Value) (v : Int)
    (hm : w.cell? ⟨m, 11, none⟩ = some (.slice (some ⟨b, off, none⟩) len cap)) (hget : GetIs w m a v)
    (hx : w.cell? ⟨b, off + r, none⟩ = some x0) (hz : w.frozen? ⟨b, off + r, none⟩ = false) (hb : b < w.heap.size) (hmm : m < w.heap.size) :
    Calls Try.prog 95 #[.pointer (some ⟨m, 0, none⟩), .agg #[.int .i64 op, .int .i64 to, .int .i64 a, .int .i64 bb, .int .u32 r]] w fun e w' => e = .returned (.tuple #[]) ∧
      Below w.heap.size (w.setCell ⟨b, off + r, none⟩ (.int .u32 v)) w' := by
  have h0 := nat_cast_lt h
  go_enter Try.func95, Try.ntmps95
  go_wp2
  refine wp_region_grew [3, 5, 8] [0, 1, 2, 4, 6, 7] [(2, 0), (2, 1), (2, 2), (2, 4), (2, 6), (2, 7), (1, 3), (1, 5), (1, 8), (0, 9), (0, 10), (0, 11)] (by kernel_rfl) (by kernel_rfl) (fun c a d v w h => by cases d <;> exact h) ?_
  simp only [getPlan, List.filterMap_cons, List.filterMap_nil, List.getElem?_toArray, List.getElem?_cons_succ, List.getElem?_cons_zero, Option.map_some]
  repeat ((first | refine wpPlan_pure (fun K hK => ?_) | refine wpPlan_float (fun K hK => ?_)); go_simp; refine hK _ ?_; clear hK K)
  refine wpPlan_keep ?_
  go_wp2_with (go_at_call 109; refine (hget _ (((Below.refl _ _).alloc (by simp) _).drew)).mono ?_; rintro e w' ⟨rfl, rfl⟩)
  refine ⟨grew_below (Below.refl _ _).drew, ?_⟩
  refine wpPlan_tail (by kernel_rfl) ?_
  simp only [List.map_cons, List.map_nil]
  go_wp2
  go_end0
  exact ⟨rfl, ((Below.refl _ _).alloc (by simp) _).drew⟩

set_option maxRecDepth 100000 in
set_option maxHeartbeats 1000000 in
theorem m_context (m b off len cap : Nat) (op to a bb : Int) (r : Nat) (w : World) (h : r < len) (x0 : Value) (v : Int)
    (hm : w.cell? ⟨m, 6, none⟩ = some (.slice (some ⟨b, off, none⟩) len cap)) (hget : GetIs w m a v)
    (hx : w.cell? ⟨b, off + r, none⟩ = some x0) (hz : w.frozen? ⟨b, off + r, none⟩ = false) (hb : b < w.heap.size) (hmm : m < w.heap.size) :
    Calls Try.prog 100 #[.pointer (some ⟨m, 0, none⟩), .agg #[.int .i64 op, .int .i64 to, .int .i64 a, .int .i64 bb, .int .u32 r]] w fun e w' => e = .returned (.tuple #[]) ∧
      Below w.heap.size (w.setCell ⟨b, off + r, none⟩ (.int .u32 v)) w' := by
  have h0 := nat_cast_lt h
  go_enter Try.func100, Try.ntmps100
  go_wp2
  refine wp_region_grew [4, 6, 9] [0, 1, 2, 3, 5, 7, 8] [(2, 0), (2, 1), (2, 2), (2, 3), (2, 5), (2, 7), (2, 8), (1, 4), (1, 6), (1, 9), (0, 10), (0, 11), (0, 12)] (by kernel_rfl) (by kernel_rfl) (fun c a d v w h => by cases d <;> exact h) ?_
  simp only [getPlan, List.filterMap_cons, List.filterMap_nil, List.getElem?_toArray, List.getElem?_cons_succ, List.getElem?_cons_zero, Option.map_some]
  repeat ((first | refine wpPlan_pure (fun K hK => ?_) | refine wpPlan_float (fun K hK => ?_)); go_simp; refine hK _ ?_; clear hK K)
  refine wpPlan_keep ?_
  go_wp2_with (go_at_call 109; refine (hget _ (((Below.refl _ _).alloc (by simp) _).drew)).mono ?_; rintro e w' ⟨rfl, rfl⟩)
  refine ⟨grew_below (Below.refl _ _).drew, ?_⟩
  refine wpPlan_tail (by kernel_rfl) ?_
  simp only [List.map_cons, List.map_nil]
  go_wp2
  go_end0
  exact ⟨rfl, ((Below.refl _ _).alloc (by simp) _).drew⟩

set_option maxRecDepth 100000 in
set_option maxHeartbeats 1000000 in
theorem m_restore (m b off len cap b2 off2 len2 cap2 : Nat) (op a bb : Int) (r s : Nat) (w : World) (h : r < len) (h2 : s < len2) (x0 : Value) (v : Int)
    (hm : w.cell? ⟨m, 10, none⟩ = some (.slice (some ⟨b, off, none⟩) len cap)) (hm2 : w.cell? ⟨m, 11, none⟩ = some (.slice (some ⟨b2, off2, none⟩) len2 cap2))
    (hv : w.cell? ⟨b2, off2 + s, none⟩ = some (.int .u32 v)) (hb2 : b2 < w.heap.size)
    (hx : w.cell? ⟨b, off + r, none⟩ = some x0) (hz : w.frozen? ⟨b, off + r, none⟩ = false) (hb : b < w.heap.size) (hmm : m < w.heap.size) :
    Calls Try.prog 96 #[.pointer (some ⟨m, 0, none⟩), .agg #[.int .i64 op, .int .i64 r, .int .i64 a, .int .i64 bb, .int .u32 s]] w fun e w' => e = .returned (.tuple #[]) ∧
      Below w.heap.size (w.setCell ⟨b, off + r, none⟩ (.int .u32 v)) w' := by
  have h0 := nat_cast_lt h
  have h02 := nat_cast_lt h2
  go_enter Try.func96, Try.ntmps96
  go_wp2
  refine wp_region_grew [3, 5, 9, 11, 13] [0, 1, 2, 4, 6, 7, 8, 10, 12, 14] [(2, 0), (2, 1), (2, 2), (2, 4), (2, 6), (2, 7), (2, 8), (2, 10), (1, 3), (1, 5), (1, 9), (1, 11), (2, 12), (1, 13), (2, 14), (0, 15)] (by kernel_rfl) (by kernel_rfl) (fun c a d v w h => by cases d <;> exact h) ?_
  simp only [getPlan, List.filterMap_cons, List.filterMap_nil, List.getElem?_toArray, List.getElem?_cons_succ, List.getElem?_cons_zero, Option.map_some]
  repeat ((first | refine wpPlan_pure (fun K hK => ?_) | refine wpPlan_float (fun K hK => ?_)); go_simp; refine hK _ ?_; clear hK K)
  refine wpPlan_tail (by kernel_rfl) ?_
  simp only [List.map_cons, List.map_nil]
  go_wp2
  go_end0
  exact ⟨rfl, ((Below.refl _ _).alloc (by simp) _).drew⟩

set_option maxRecDepth 100000 in
set_option maxHeartbeats 1000000 in
theorem m_input (m b off len cap : Nat) (op a bb arg : Int) (r : Nat) (w : World) (h : r < len) (x0 : Value) (v : Int)
    (hm : w.cell? ⟨m, 10, none⟩ = some (.slice (some ⟨b, off, none⟩) len cap)) (hv : w.cell? ⟨m, 7, none⟩ = some (.int .u32 v))
    (hx : w.cell? ⟨b, off + r, none⟩ = some x0) (hz : w.frozen? ⟨b, off + r, none⟩ = false) (hb : b < w.heap.size) (hmm : m < w.heap.size) :
    Calls Try.prog 97 #[.pointer (some ⟨m, 0, none⟩), .agg #[.int .i64 op, .int .i64 r, .int .i64 a, .int .i64 bb, .int .u32 arg]] w fun e w' => e = .returned (.tuple #[]) ∧
      Below w.heap.size (w.setCell ⟨b, off + r, none⟩ (.int .u32 v)) w' := by
  have h0 := nat_cast_lt h
  go_enter Try.func97, Try.ntmps97
  go_wp2
  refine wp_region_grew [3, 5, 10] [0, 1, 2, 4, 6, 7, 8, 9, 11] [(2, 0), (2, 1), (2, 2), (2, 4), (2, 6), (2, 7), (2, 8), (2, 9), (1, 3), (1, 5), (1, 10), (2, 11), (0, 12)] (by kernel_rfl) (by kernel_rfl) (fun c a d v w h => by cases d <;> exact h) ?_
  simp only [getPlan, List.filterMap_cons, List.filterMap_nil, List.getElem?_toArray, List.getElem?_cons_succ, List.getElem?_cons_zero, Option.map_some]
  repeat ((first | refine wpPlan_pure (fun K hK => ?_) | refine wpPlan_float (fun K hK => ?_)); go_simp; refine hK _ ?_; clear hK K)
  refine wpPlan_tail (by kernel_rfl) ?_
  simp only [List.map_cons, List.map_nil]
  go_wp2
  go_end0
  exact ⟨rfl, ((Below.refl _ _).alloc (by simp) _).drew⟩

set_option maxRecDepth 100000 in
set_option maxHeartbeats 1000000 in
theorem m_ended_no (m b off len cap : Nat) (op a bb arg : Int) (r : Nat) (w : World) (h : r < len) (x0 : Value)
    (hm : w.cell? ⟨m, 10, none⟩ = some (.slice (some ⟨b, off, none⟩) len cap)) (hv : w.cell? ⟨m, 8, none⟩ = some (.bool false))
    (hx : w.cell? ⟨b, off + r, none⟩ = some x0) (hz : w.frozen? ⟨b, off + r, none⟩ = false) (hb : b < w.heap.size) (hmm : m < w.heap.size) (hne : ¬ b = m) :
    Calls Try.prog 98 #[.pointer (some ⟨m, 0, none⟩), .agg #[.int .i64 op, .int .i64 r, .int .i64 a, .int .i64 bb, .int .u32 arg]] w fun e w' => e = .returned (.tuple #[]) ∧
      Below w.heap.size (w.setCell ⟨b, off + r, none⟩ (.int .u32 0)) w' := by
  have h0 := nat_cast_lt h
  go_enter Try.func98, Try.ntmps98
  go_wp2
  refine wp_region_grew [3, 5] [0, 1, 2, 4, 6] [(2, 0), (2, 1), (2, 2), (2, 4), (1, 3), (1, 5), (2, 6), (0, 7)] (by kernel_rfl) (by kernel_rfl) (fun c a d v w h => by cases d <;> exact h) ?_
  simp only [getPlan, List.filterMap_cons, List.filterMap_nil, List.getElem?_toArray, List.getElem?_cons_succ, List.getElem?_cons_zero, Option.map_some]
  repeat ((first | refine wpPlan_pure (fun K hK => ?_) | refine wpPlan_float (fun K hK => ?_)); go_simp; refine hK _ ?_; clear hK K)
  refine wpPlan_tail (by kernel_rfl) ?_
  simp only [List.map_cons, List.map_nil]
  go_wp2
  go_end0
  exact ⟨rfl, ((Below.refl _ _).alloc (by simp) _).drew⟩

set_option maxRecDepth 100000 in
set_option maxHeartbeats 1000000 in
theorem m_ended_yes (m b off len cap : Nat) (op a bb arg : Int) (r : Nat) (w : World) (h : r < len) (x0 : Value)
    (hm : w.cell? ⟨m, 10, none⟩ = some (.slice (some ⟨b, off, none⟩) len cap)) (hv : w.cell? ⟨m, 8, none⟩ = some (.bool true))
    (hx : w.cell? ⟨b, off + r, none⟩ = some x0) (hz : w.frozen? ⟨b, off + r, none⟩ = false) (hb : b < w.heap.size) (hmm : m < w.heap.size) (hne : ¬ b = m) (hne2 : ¬ m = b) :
    Calls Try.prog 98 #[.pointer (some ⟨m, 0, none⟩), .agg #[.int .i64 op, .int .i64 r, .int .i64 a, .int .i64 bb, .int .u32 arg]] w fun e w' => e = .returned (.tuple #[]) ∧
      Below w.heap.size ((w.setCell ⟨b, off + r, none⟩ (.int .u32 0)).setCell ⟨b, off + r, none⟩ (.int .u32 1)) w' := by
  have h0 := nat_cast_lt h
  go_enter Try.func98, Try.ntmps98
  go_wp2
  refine wp_region_grew [3, 5] [0, 1, 2, 4, 6] [(2, 0), (2, 1), (2, 2), (2, 4), (1, 3), (1, 5), (2, 6), (0, 7)] (by kernel_rfl) (by kernel_rfl) (fun c a d v w h => by cases d <;> exact h) ?_
  simp only [getPlan, List.filterMap_cons, List.filterMap_nil, List.getElem?_toArray, List.getElem?_cons_succ, List.getElem?_cons_zero, Option.map_some]
  repeat ((first | refine wpPlan_pure (fun K hK => ?_) | refine wpPlan_float (fun K hK => ?_)); go_simp; refine hK _ ?_; clear hK K)
  refine wpPlan_tail (by kernel_rfl) ?_
  simp only [List.map_cons, List.map_nil]
  go_wp2
  refine wp_region_grew [3, 5] [0, 1, 2, 4, 6] [(2, 0), (2, 1), (2, 2), (2, 4), (1, 3), (1, 5), (2, 6), (0, 7)] (by kernel_rfl) (by kernel_rfl) (fun c a d v w h => by cases d <;> exact h) ?_
  simp only [getPlan, List.filterMap_cons, List.filterMap_nil, List.getElem?_toArray, List.getElem?_cons_succ, List.getElem?_cons_zero, Option.map_some]
  repeat ((first | refine wpPlan_pure (fun K hK => ?_) | refine wpPlan_float (fun K hK => ?_)); go_simp; refine hK _ ?_; clear hK K)
  refine wpPlan_tail (by kernel_rfl) ?_
  simp only [List.map_cons, List.map_nil]
  go_wp2
  go_end0
  exact ⟨rfl, ((Below.refl _ _).alloc (by simp) _).drew.drew⟩

end Go.Proofs.Ytefdnjhhaejgbaa

namespace Go.Proofs.Ytefdnjhhaejgbaa
open Go.RowKit
set_option linter.unusedVariables false

set_option maxRecDepth 100000 in
set_option maxHeartbeats 1000000 in
theorem m_element_yes (m q qo nq cq b off len cap : Nat) (op to a bb : Int) (r v : Nat) (w : World) (h : r < nq) (hv : v < len)
    (hm : w.cell? ⟨m, 5, none⟩ = some (.slice (some ⟨q, qo, none⟩) nq cq)) (hq : w.cell? ⟨q, qo + r, none⟩ = some (.slice (some ⟨b, off, none⟩) len cap)) (hget : GetIs w m a v)
    (hl : len ≤ 65536) (hqq : q < w.heap.size) (hmm : m < w.heap.size) :
    Calls Try.prog 113 #[.pointer (some ⟨m, 0, none⟩), .agg #[.int .i64 op, .int .i64 to, .int .i64 a, .int .i64 bb, .int .u32 r]] w fun e w' => e = .returned (.pointer (some ⟨b, off + v, none⟩)) ∧
      Below w.heap.size w w' := by
  have h0 := nat_cast_lt h
  have h1 := nat_cast_lt hv
  have hd : decide ((v : Int) < (len : Int)) = true := by simp [hv]
  go_enter Try.func113, Try.ntmps113
  go_wp2
  refine wp_region_grew [4, 6, 8, 11] [0, 1, 2, 3, 5, 9, 10, 7] [(2, 0), (2, 1), (2, 2), (2, 3), (2, 5), (2, 9), (2, 10), (1, 4), (1, 6), (2, 7), (1, 8), (1, 11), (0, 12), (0, 13), (0, 14)] (by kernel_rfl) (by kernel_rfl) (fun c a d v w h => by cases d <;> exact h) ?_
  simp only [getPlan, List.filterMap_cons, List.filterMap_nil, List.getElem?_toArray, List.getElem?_cons_succ, List.getElem?_cons_zero, Option.map_some]
  repeat ((first | refine wpPlan_pure (fun K hK => ?_) | refine wpPlan_float (fun K hK => ?_)); go_simp; refine hK _ ?_; clear hK K)
  refine wpPlan_keep ?_
  go_wp2_with (go_at_call 109; refine (hget _ (((Below.refl _ _).alloc (by simp) _).drew)).mono ?_; rintro e w' ⟨rfl, rfl⟩)
  refine ⟨grew_below (Below.refl _ _).drew, ?_⟩
  refine wpPlan_tail (by kernel_rfl) ?_
  simp only [List.map_cons, List.map_nil]
  go_wp2_with (go_at_call 108; refine (demand_yes _ _).mono ?_; rintro e w' ⟨rfl, rfl⟩)
  go_ret
  exact ⟨rfl, ((Below.refl _ _).alloc (by simp) _).drew⟩

set_option maxRecDepth 100000 in
set_option maxHeartbeats 1000000 in
theorem m_element_no (m q qo nq cq b off len cap : Nat) (op to a bb : Int) (r v : Nat) (w : World) (h : r < nq) (hv : ¬ v < len) (hv2 : v < 4294967296)
    (hm : w.cell? ⟨m, 5, none⟩ = some (.slice (some ⟨q, qo, none⟩) nq cq)) (hq : w.cell? ⟨q, qo + r, none⟩ = some (.slice (some ⟨b, off, none⟩) len cap)) (hget : GetIs w m a v)
    (hl : len ≤ 65536) (hqq : q < w.heap.size) (hmm : m < w.heap.size) :
    Calls Try.prog 113 #[.pointer (some ⟨m, 0, none⟩), .agg #[.int .i64 op, .int .i64 to, .int .i64 a, .int .i64 bb, .int .u32 r]] w fun e w' => e = .panicked (failed 16) ∧
      Below w.heap.size w w' := by
  have h0 := nat_cast_lt h
  have hd : decide (v < len) = false := by simp [hv]
  have hv3 : ¬ (v : Int) < (len : Int) := by omega
  have hv4 : (v : Int) < 4294967296 := by omega
  go_enter Try.func113, Try.ntmps113
  go_wp2
  refine wp_region_grew [4, 6, 8, 11] [0, 1, 2, 3, 5, 9, 10, 7] [(2, 0), (2, 1), (2, 2), (2, 3), (2, 5), (2, 9), (2, 10), (1, 4), (1, 6), (2, 7), (1, 8), (1, 11), (0, 12), (0, 13), (0, 14)] (by kernel_rfl) (by kernel_rfl) (fun c a d v w h => by cases d <;> exact h) ?_
  simp only [getPlan, List.filterMap_cons, List.filterMap_nil, List.getElem?_toArray, List.getElem?_cons_succ, List.getElem?_cons_zero, Option.map_some]
  repeat ((first | refine wpPlan_pure (fun K hK => ?_) | refine wpPlan_float (fun K hK => ?_)); go_simp; refine hK _ ?_; clear hK K)
  refine wpPlan_keep ?_
  go_wp2_with (go_at_call 109; refine (hget _ (((Below.refl _ _).alloc (by simp) _).drew)).mono ?_; rintro e w' ⟨rfl, rfl⟩)
  refine ⟨grew_below (Below.refl _ _).drew, ?_⟩
  refine wpPlan_tail (by kernel_rfl) ?_
  simp only [List.map_cons, List.map_nil]
  go_wp2_with (go_at_call 108; refine (demand_no _ _).mono ?_; rintro e w' ⟨rfl, rfl⟩)
  exact ⟨rfl, rfl, ((Below.refl _ _).alloc (by simp) _).drew⟩

set_option maxRecDepth 100000 in
set_option maxHeartbeats 1000000 in
theorem m_choose_yes (m : Nat) (op to a bb arg v : Int) (w : World) (hget : GetIs w m a v) (hv : (v == 0) = false) (hmm : m < w.heap.size) :
    Calls Try.prog 103 #[.pointer (some ⟨m, 0, none⟩), .agg #[.int .i64 op, .int .i64 to, .int .i64 a, .int .i64 bb, .int .u32 arg]] w fun e w' => e = .returned (.tuple #[]) ∧ Below w.heap.size w w' := by
  go_enter Try.func103, Try.ntmps103
  go_wp2_with (go_at_call 109; refine (hget _ (((Below.refl _ _).alloc (by simp) _))).mono ?_; rintro e w' ⟨rfl, rfl⟩)
  go_end0
  exact ⟨rfl, ((Below.refl _ _).alloc (by simp) _)⟩

set_option maxRecDepth 100000 in
set_option maxHeartbeats 1000000 in
theorem m_choose_no (m b off len cap : Nat) (at_ : Nat) (p : Int) (op to a bb arg : Int) (w : World) (hget : GetIs w m a 0) (h : at_ < len)
    (hm : w.cell? ⟨m, 4, none⟩ = some (.slice (some ⟨b, off, none⟩) len cap)) (ha : w.cell? ⟨m, 15, none⟩ = some (.int .i64 at_)) (hp : w.cell? ⟨b, off + at_, none⟩ = some (.int .i64 p))
    (hz : w.frozen? ⟨m, 15, none⟩ = false) (hb : b < w.heap.size) (hmm : m < w.heap.size) :
    Calls Try.prog 103 #[.pointer (some ⟨m, 0, none⟩), .agg #[.int .i64 op, .int .i64 to, .int .i64 a, .int .i64 bb, .int .u32 arg]] w fun e w' => e = .returned (.tuple #[]) ∧ Below w.heap.size (w.setCell ⟨m, 15, none⟩ (.int .i64 p)) w' := by
  have h0 := nat_cast_lt h
  go_enter Try.func103, Try.ntmps103
  go_wp2_with (go_at_call 109; refine (hget _ (((Below.refl _ _).alloc (by simp) _))).mono ?_; rintro e w' ⟨rfl, rfl⟩)
  refine wp_region_grew [4, 8, 10] [0, 1, 2, 3, 5, 6, 7, 9, 11, 12] [(2, 0), (2, 1), (2, 2), (2, 3), (2, 5), (2, 6), (2, 7), (1, 4), (1, 8), (2, 9), (1, 10), (2, 11), (2, 12), (0, 13)] (by kernel_rfl) (by kernel_rfl) (fun c a d v w h => by cases d <;> exact h) ?_
  simp only [getPlan, List.filterMap_cons, List.filterMap_nil, List.getElem?_toArray, List.getElem?_cons_succ, List.getElem?_cons_zero, Option.map_some]
  repeat ((first | refine wpPlan_pure (fun K hK => ?_) | refine wpPlan_float (fun K hK => ?_)); go_simp; refine hK _ ?_; clear hK K)
  refine wpPlan_tail (by kernel_rfl) ?_
  simp only [List.map_cons, List.map_nil]
  go_wp2
  go_end0
  exact ⟨rfl, ((Below.refl _ _).alloc (by simp) _).drew⟩

set_option maxRecDepth 100000 in
set_option maxHeartbeats 1000000 in
theorem m_skip (m b off len cap : Nat) (at_ : Nat) (p : Int) (op to a bb arg : Int) (w : World) (h : at_ < len)
    (hm : w.cell? ⟨m, 4, none⟩ = some (.slice (some ⟨b, off, none⟩) len cap)) (ha : w.cell? ⟨m, 15, none⟩ = some (.int .i64 at_)) (hp : w.cell? ⟨b, off + at_, none⟩ = some (.int .i64 p))
    (hz : w.frozen? ⟨m, 15, none⟩ = false) (hb : b < w.heap.size) (hmm : m < w.heap.size) :
    Calls Try.prog 104 #[.pointer (some ⟨m, 0, none⟩), .agg #[.int .i64 op, .int .i64 to, .int .i64 a, .int .i64 bb, .int .u32 arg]] w fun e w' => e = .returned (.tuple #[]) ∧ Below w.heap.size (w.setCell ⟨m, 15, none⟩ (.int .i64 p)) w' := by
  have h0 := nat_cast_lt h
  go_enter Try.func104, Try.ntmps104
  go_wp2
  refine wp_region_grew [4, 8, 10] [0, 1, 2, 3, 5, 6, 7, 9, 11, 12] [(2, 0), (2, 1), (2, 2), (2, 3), (2, 5), (2, 6), (2, 7), (1, 4), (1, 8), (2, 9), (1, 10), (2, 11), (2, 12), (0, 13)] (by kernel_rfl) (by kernel_rfl) (fun c a d v w h => by cases d <;> exact h) ?_
  simp only [getPlan, List.filterMap_cons, List.filterMap_nil, List.getElem?_toArray, List.getElem?_cons_succ, List.getElem?_cons_zero, Option.map_some]
  repeat ((first | refine wpPlan_pure (fun K hK => ?_) | refine wpPlan_float (fun K hK => ?_)); go_simp; refine hK _ ?_; clear hK K)
  refine wpPlan_tail (by kernel_rfl) ?_
  simp only [List.map_cons, List.map_nil]
  go_wp2
  go_end0
  exact ⟨rfl, ((Below.refl _ _).alloc (by simp) _).drew⟩

set_option maxRecDepth 100000 in
set_option maxHeartbeats 1000000 in
theorem m_leave_no (m : Nat) (op to a bb arg : Int) (w : World) (hget : GetIs w m a 0) (hmm : m < w.heap.size) :
    Calls Try.prog 106 #[.pointer (some ⟨m, 0, none⟩), .agg #[.int .i64 op, .int .i64 to, .int .i64 a, .int .i64 bb, .int .u32 arg]] w fun e w' => e = .returned (.tuple #[]) ∧ Below w.heap.size w w' := by
  go_enter Try.func106, Try.ntmps106
  go_wp2_with (go_at_call 109; refine (hget _ (((Below.refl _ _).alloc (by simp) _))).mono ?_; rintro e w' ⟨rfl, rfl⟩)
  go_end0
  exact ⟨rfl, ((Below.refl _ _).alloc (by simp) _)⟩

set_option maxRecDepth 100000 in
set_option maxHeartbeats 1000000 in
theorem m_leave_yes (m b off len cap g go n c : Nat) (at_ : Nat) (p v : Int) (op to a bb arg : Int) (w : World) (hget : GetIs w m a v) (hv : (v != 0) = true) (h : at_ < len)
    (hm : w.cell? ⟨m, 4, none⟩ = some (.slice (some ⟨b, off, none⟩) len cap)) (ha : w.cell? ⟨m, 15, none⟩ = some (.int .i64 at_)) (hp : w.cell? ⟨b, off + at_, none⟩ = some (.int .i64 p))
    (hl : w.cell? ⟨m, 12, none⟩ = some (.slice (some ⟨g, go, none⟩) (n + 1) c)) (hnc : n + 1 ≤ c) (hc : c ≤ maxLen)
    (hz : w.frozen? ⟨m, 15, none⟩ = false) (hz2 : w.frozen? ⟨m, 12, none⟩ = false) (hb : b < w.heap.size) (hmm : m < w.heap.size) (hne : ¬ b = m) :
    Calls Try.prog 106 #[.pointer (some ⟨m, 0, none⟩), .agg #[.int .i64 op, .int .i64 to, .int .i64 a, .int .i64 bb, .int .u32 arg]] w fun e w' => e = .returned (.tuple #[]) ∧
      Below w.heap.size ((w.setCell ⟨m, 15, none⟩ (.int .i64 p)).setCell ⟨m, 12, none⟩ (.slice (some ⟨g, go, none⟩) n c)) w' := by
  have h0 := nat_cast_lt h
  unfold maxLen at hc
  have hw : IntKind.i64.wrap (n : Int) = (n : Int) := IntWalk.i64_in _ (by omega)
  have hw2 : ¬ (c : Int) < (n : Int) := by omega
  have hw3 : (n : Int) ≤ (c : Int) := by omega
  go_enter Try.func106, Try.ntmps106
  go_wp2_with (go_at_call 109; refine (hget _ (((Below.refl _ _).alloc (by simp) _))).mono ?_; rintro e w' ⟨rfl, rfl⟩)
  refine wp_region_grew [4, 8, 10] [0, 1, 2, 3, 5, 6, 7, 9, 11, 12] [(2, 0), (2, 1), (2, 2), (2, 3), (2, 5), (2, 6), (2, 7), (1, 4), (1, 8), (2, 9), (1, 10), (2, 11), (2, 12), (0, 13)] (by kernel_rfl) (by kernel_rfl) (fun c a d v w h => by cases d <;> exact h) ?_
  simp only [getPlan, List.filterMap_cons, List.filterMap_nil, List.getElem?_toArray, List.getElem?_cons_succ, List.getElem?_cons_zero, Option.map_some]
  repeat ((first | refine wpPlan_pure (fun K hK => ?_) | refine wpPlan_float (fun K hK => ?_)); go_simp; refine hK _ ?_; clear hK K)
  refine wpPlan_tail (by kernel_rfl) ?_
  simp only [List.map_cons, List.map_nil]
  go_wp2
  refine wp_region_grew [4, 8] [0, 1, 2, 3, 5, 6, 7, 9, 10, 11, 12, 13] [(2, 0), (2, 1), (2, 2), (2, 3), (2, 5), (2, 6), (2, 7), (1, 4), (1, 8), (2, 9), (2, 10), (2, 11), (2, 12), (2, 13), (0, 14)] (by kernel_rfl) (by kernel_rfl) (fun c a d v w h => by cases d <;> exact h) ?_
  simp only [getPlan, List.filterMap_cons, List.filterMap_nil, List.getElem?_toArray, List.getElem?_cons_succ, List.getElem?_cons_zero, Option.map_some]
  repeat ((first | refine wpPlan_pure (fun K hK => ?_) | refine wpPlan_float (fun K hK => ?_)); go_simp; refine hK _ ?_; clear hK K)
  refine wpPlan_tail (by kernel_rfl) ?_
  simp only [List.map_cons, List.map_nil]
  go_wp2
  go_end0
  exact ⟨rfl, ((Below.refl _ _).alloc (by simp) _).drew.drew⟩

end Go.Proofs.Ytefdnjhhaejgbaa
