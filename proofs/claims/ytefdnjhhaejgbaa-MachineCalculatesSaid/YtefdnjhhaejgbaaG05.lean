/- A part of the proof of MachineCalculates: Rt Rs Ru Q O Reg2. No condition. -/
import Derived.Deep.Cut
import Derived.Deep.LoopGhost
import Derived.Laws.Tables
import Derived.Lib.Hide
import Derived.StillTailTactics
import Derived.Test.YtefdnjhhaejgbaaG02
import Derived.Test.YtefdnjhhaejgbaaG04
import Derived.Test.YtefdnjhhaejgbaaG01
namespace Go.Proofs.Ytefdnjhhaejgbaa
open Go.RowKit
set_option linter.unusedVariables false

/-- the loops around a place, the outermost first -/
def T.encl : T → Nat → Nat → List Nat
  | .nil, _, _ => []
  | .plain i r, k, p => if p ≤ k then [] else r.encl (k + 1) p
  | .ite i a j r, k, p => if p ≤ k then [] else if p ≤ k + a.size + 1 then a.encl (k + 1) p else r.encl (k + a.size + 2) p
  | .ite2 i a x b j r, k, p => if p ≤ k then [] else if p ≤ k + a.size + 1 then a.encl (k + 1) p else if p ≤ k + a.size + b.size + 2 then b.encl (k + a.size + 2) p else r.encl (k + a.size + b.size + 3) p
  | .loop i a j r, k, p => if p ≤ k then [] else if p ≤ k + a.size + 1 then k :: a.encl (k + 1) p else r.encl (k + a.size + 2) p

theorem T.encl_start (t : T) (k p : Nat) (h : p ≤ k) : t.encl k p = [] := by
  cases t <;> simp [encl, h]
theorem T.encl_end : ∀ (t : T) (k p : Nat), p = k + t.size → t.encl k p = []
  | .nil, k, p, h => rfl
  | .plain i r, k, p, h => by simp only [size] at h; simp only [encl]; rw [if_neg (by omega)]; exact r.encl_end _ _ (by omega)
  | .ite i a j r, k, p, h => by simp only [size] at h; simp only [encl]; rw [if_neg (by omega), if_neg (by omega)]; exact r.encl_end _ _ (by omega)
  | .ite2 i a x b j r, k, p, h => by simp only [size] at h; simp only [encl]; rw [if_neg (by omega), if_neg (by omega), if_neg (by omega)]; exact r.encl_end _ _ (by omega)
  | .loop i a j r, k, p, h => by simp only [size] at h; simp only [encl]; rw [if_neg (by omega), if_neg (by omega)]; exact r.encl_end _ _ (by omega)
theorem T.encl_len : ∀ (t : T) (w : Bool) (d k p : Nat), t.wf w d → (t.encl k p).length ≤ d
  | .nil, _, _, _, _, _ => by simp [encl]
  | .plain i r, w, d, k, p, h => by simp only [encl]; split; simp; exact r.encl_len w d _ _ h.2.2
  | .ite i a j r, w, d, k, p, h => by
    simp only [encl]; split; simp; split
    · have := a.encl_len w (d - 1) (k + 1) p h.2.2.2.1; omega
    · exact r.encl_len w d _ _ h.2.2.2.2
  | .ite2 i a x b j r, w, d, k, p, h => by
    simp only [encl]; split; simp; split
    · have := a.encl_len w (d - 1) (k + 1) p h.2.2.2.2.1; omega
    · split
      · have := b.encl_len w (d - 1) (k + a.size + 2) p h.2.2.2.2.2.1; omega
      · exact r.encl_len w d _ _ h.2.2.2.2.2.2
  | .loop i a j r, w, d, k, p, h => by
    simp only [encl]; split; simp; split
    · have := a.encl_len true (d - 1) (k + 1) p h.2.2.2.1; have := h.2.2.1; simp; omega
    · exact r.encl_len w d _ _ h.2.2.2.2

/-- what holds at a place -/
structure Loc (E : Nat → List Nat) (PT : Nat → Nat) (lo hi p : Nat) (op : Int) (w : Bool) (e d : Nat) : Prop where
  other : op ≠ 27 → op ≠ 28 → op ≠ 29 → op ≠ 31 → E (p + 1) = E p
  jump : op = 27 ∨ op = 28 ∨ op = 29 → p < PT p ∧ PT p < hi ∧ E (PT p + 1) = E p
  if1 : op = 27 → E (p + 1) = E p
  loop1 : op = 29 → E (p + 1) = E p ++ [p]
  depth : op = 29 → (E p).length < d
  leave : op = 30 → (E p ≠ [] ∧ p < PT p ∧ PT p < hi ∧ E (PT p + 1) = (E p).dropLast) ∨ (E p = [] ∧ w = true ∧ PT p = e)
  endd : op = 31 → (∃ X q, E p = X ++ [q] ∧ lo ≤ q ∧ q < p ∧ PT q = p ∧ E (p + 1) = X ∧ E (q + 1) = E p) ∨ (E (p + 1) = E p ∧ ∀ q ∈ E p, PT q ≠ p)
  low : ∀ q ∈ E p, lo ≤ q ∧ q < p

/-- from a part to the whole, no loop around -/
theorem Loc.lift {E Ea : Nat → List Nat} {PT PTa : Nat → Nat} {lo hi la ha p : Nat} {op : Int} {w : Bool} {e d da : Nat} (h : Loc Ea PTa la ha p op w e da) (hp : la ≤ p ∧ p < ha) (hl : lo ≤ la) (hh : ha ≤ hi) (hd : da ≤ d)
    (hE : ∀ x, la ≤ x → x ≤ ha → E x = Ea x) (hP : ∀ x, la ≤ x → x < ha → PT x = PTa x) : Loc E PT lo hi p op w e d where
  other := fun a b c f => by rw [hE _ (by omega) (by omega), hE _ (by omega) (by omega)]; exact h.other a b c f
  jump := fun a => by
    obtain ⟨h1, h2, h3⟩ := h.jump a
    rw [hP _ (by omega) (by omega)]
    exact ⟨h1, by omega, by rw [hE _ (by omega) (by omega), hE _ (by omega) (by omega)]; exact h3⟩
  if1 := fun a => by rw [hE _ (by omega) (by omega), hE _ (by omega) (by omega)]; exact h.if1 a
  loop1 := fun a => by rw [hE _ (by omega) (by omega), hE _ (by omega) (by omega)]; exact h.loop1 a
  depth := fun a => by rw [hE _ (by omega) (by omega)]; have := h.depth a; omega
  leave := fun a => by
    rw [hP _ (by omega) (by omega), hE p (by omega) (by omega)]
    rcases h.leave a with ⟨h1, h2, h3, h4⟩ | h1
    · exact .inl ⟨h1, h2, by omega, by rw [hE _ (by omega) (by omega)]; exact h4⟩
    · exact .inr h1
  endd := fun a => by
    rw [hE p (by omega) (by omega), hE (p + 1) (by omega) (by omega)]
    rcases h.endd a with ⟨X, q, h1, h2, h3, h4, h5, h6⟩ | ⟨h1, h2⟩
    · exact .inl ⟨X, q, h1, by omega, h3, by rw [hP _ (by omega) (by omega)]; exact h4, h5, by rw [hE _ (by omega) (by omega)]; exact h6⟩
    · exact .inr ⟨h1, fun q hq => by have := h.low q hq; rw [hP _ (by omega) (by omega)]; exact h2 q hq⟩
  low := fun q hq => by rw [hE p (by omega) (by omega)] at hq; have := h.low q hq; omega

/-- from the body of a loop to the whole -/
theorem Loc.liftLoop {E Ea : Nat → List Nat} {PT PTa : Nat → Nat} {lo hi ha p k : Nat} {op : Int} {w : Bool} {e d da : Nat} (h : Loc Ea PTa (k + 1) ha p op true ha da) (hp : k + 1 ≤ p ∧ p < ha) (hl : lo ≤ k) (hh : ha < hi) (hd : da < d)
    (hE : ∀ x, k + 1 ≤ x → x ≤ ha → E x = k :: Ea x) (hP : ∀ x, k + 1 ≤ x → x < ha → PT x = PTa x) (hk : PT k = ha) (hend : E (ha + 1) = []) : Loc E PT lo hi p op w e d where
  other := fun a b c f => by rw [hE _ (by omega) (by omega), hE _ (by omega) (by omega), h.other a b c f]
  jump := fun a => by
    obtain ⟨h1, h2, h3⟩ := h.jump a
    rw [hP _ (by omega) (by omega)]
    exact ⟨h1, by omega, by rw [hE _ (by omega) (by omega), hE _ (by omega) (by omega), h3]⟩
  if1 := fun a => by rw [hE _ (by omega) (by omega), hE _ (by omega) (by omega), h.if1 a]
  loop1 := fun a => by rw [hE _ (by omega) (by omega), hE _ (by omega) (by omega), h.loop1 a]; rfl
  depth := fun a => by rw [hE _ (by omega) (by omega)]; have := h.depth a; simp; omega
  leave := fun a => by
    left
    rw [hP _ (by omega) (by omega), hE p (by omega) (by omega)]
    rcases h.leave a with ⟨h1, h2, h3, h4⟩ | ⟨h1, _, h2⟩
    · refine ⟨by simp, h2, by omega, ?_⟩
      rw [hE _ (by omega) (by omega), h4]
      cases hx : Ea p with
      | nil => exact absurd hx h1
      | cons y l => rfl
    · refine ⟨by simp, by omega, by omega, ?_⟩
      rw [h2, hend, h1]; rfl
  endd := fun a => by
    rw [hE p (by omega) (by omega), hE (p + 1) (by omega) (by omega)]
    rcases h.endd a with ⟨X, q, h1, h2, h3, h4, h5, h6⟩ | ⟨h1, h2⟩
    · exact .inl ⟨k :: X, q, by rw [h1]; rfl, by omega, h3, by rw [hP _ (by omega) (by omega)]; exact h4, by rw [h5], by rw [hE _ (by omega) (by omega), h6]⟩
    · refine .inr ⟨by rw [h1], fun q hq => ?_⟩
      simp only [List.mem_cons] at hq
      rcases hq with rfl | hq
      · omega
      · have := h.low q hq
        rw [hP _ (by omega) (by omega)]; exact h2 q hq
  low := fun q hq => by
    rw [hE p (by omega) (by omega)] at hq
    simp only [List.mem_cons] at hq
    rcases hq with rfl | hq
    · omega
    · have := h.low q hq; omega

def ptFn (l : List Nat) (k q : Nat) : Nat := l.getD (q - k) 0
theorem ptFn_cons (x : Nat) (l : List Nat) (k q : Nat) (h : k < q) : ptFn (x :: l) k q = ptFn l (k + 1) q := by
  unfold ptFn
  rw [show q - k = (q - (k + 1)) + 1 by omega]
  rfl
theorem ptFn_head (x : Nat) (l : List Nat) (k : Nat) : ptFn (x :: l) k k = x := by simp [ptFn]
theorem ptFn_left (a b : List Nat) (k q : Nat) (h : k ≤ q) (h2 : q < k + a.length) : ptFn (a ++ b) k q = ptFn a k q := by
  unfold ptFn
  rw [List.getD_eq_getElem?_getD, List.getD_eq_getElem?_getD, List.getElem?_append_left (by omega)]
theorem ptFn_right (a b : List Nat) (k q : Nat) (h2 : k + a.length ≤ q) : ptFn (a ++ b) k q = ptFn b (k + a.length) q := by
  unfold ptFn
  rw [List.getD_eq_getElem?_getD, List.getD_eq_getElem?_getD, List.getElem?_append_right (by omega), show q - k - a.length = q - (k + a.length) by omega]

theorem CdAt.at {cd : List RI} {k : Nat} {l : List RI} (h : CdAt cd k l) {p : Nat} (h1 : k ≤ p) (h2 : p < k + l.length) : cd.getD p default = l.getD (p - k) default := by
  have := h (p - k) (by omega)
  rw [show k + (p - k) = p by omega] at this
  exact this

theorem T.loc (cd : List RI) : ∀ (t : T) (w : Bool) (d k e : Nat), t.wf w d → CdAt cd k t.flat → ∀ p, k ≤ p → p < k + t.size → Loc (t.encl k) (ptFn (t.pt k e) k) k (k + t.size) p (cd.getD p default).op w e d
  | .nil, w, d, k, e, hw, hc, p, h1, h2 => by simp [size] at h2; omega
  | .plain i r, w, d, k, e, hw, hc, p, h1, h2 => by
    simp only [size] at h2
    simp only [flat] at hc
    by_cases hp : p = k
    · subst hp
      rw [hc.head]
      have e1 : (T.plain i r).encl p p = [] := T.encl_start _ _ _ (Nat.le_refl _)
      have e2 : (T.plain i r).encl p (p + 1) = [] := by simp only [encl]; rw [if_neg (by omega)]; exact T.encl_start _ _ _ (Nat.le_refl _)
      obtain ⟨⟨n27, n28, n29, n31⟩, h30, _⟩ := hw
      exact {
        other := fun _ _ _ _ => by rw [e1, e2]
        jump := fun a => by omega
        if1 := fun a => by omega
        loop1 := fun a => by omega
        depth := fun a => by omega
        leave := fun a => .inr ⟨e1, h30 a, by simp only [pt, if_pos a]; exact ptFn_head _ _ _⟩
        endd := fun a => by omega
        low := fun q hq => by rw [e1] at hq; cases hq }
    · refine (T.loc cd r w d (k + 1) e hw.2.2 hc.tail p (by omega) (by omega)).lift (by omega) (by omega) (by simp only [size]; omega) (Nat.le_refl _) (fun x hx1 hx2 => ?_) (fun x hx1 hx2 => ?_)
      · simp only [encl]; rw [if_neg (by omega)]
      · simp only [pt]; exact ptFn_cons _ _ _ _ (by omega)
  | .ite i a j r, w, d, k, e, hw, hc, p, h1, h2 => by
    simp only [size] at h2
    simp only [flat] at hc
    obtain ⟨hi, hj, hd, hwa, hwr⟩ := hw
    have hcj := hc.tail.right
    rw [a.flat_length] at hcj
    have hal := a.pt_length (k + 1) e
    have pk : ptFn ((T.ite i a j r).pt k e) k k = k + a.size + 1 := by simp only [pt]; exact ptFn_head _ _ _
    by_cases hp : p = k
    · subst hp
      rw [hc.head]
      have e1 : (T.ite i a j r).encl p p = [] := T.encl_start _ _ _ (Nat.le_refl _)
      have e2 : (T.ite i a j r).encl p (p + 1) = [] := by simp only [encl]; rw [if_neg (by omega), if_pos (by omega)]; exact T.encl_start _ _ _ (Nat.le_refl _)
      have e3 : (T.ite i a j r).encl p (p + a.size + 1 + 1) = [] := by simp only [encl]; rw [if_neg (by omega), if_neg (by omega)]; exact T.encl_start _ _ _ (by omega)
      exact {
        other := fun x _ _ _ => absurd hi x
        jump := fun x => by rw [pk]; exact ⟨by omega, by simp only [size]; omega, by rw [e3, e1]⟩
        if1 := fun x => by rw [e1, e2]
        loop1 := fun x => by omega
        depth := fun x => by omega
        leave := fun x => by omega
        endd := fun x => by omega
        low := fun q hq => by rw [e1] at hq; cases hq }
    by_cases hp2 : p < k + 1 + a.size
    · refine (T.loc cd a w (d - 1) (k + 1) e hwa hc.tail.left p (by omega) (by omega)).lift (by omega) (by omega) (by simp only [size]; omega) (by omega) (fun x hx1 hx2 => ?_) (fun x hx1 hx2 => ?_)
      · simp only [encl]; rw [if_neg (by omega), if_pos (by omega)]
      · simp only [pt]; rw [ptFn_cons _ _ _ _ (by omega)]; exact ptFn_left _ _ _ _ (by omega) (by omega)
    by_cases hp3 : p = k + 1 + a.size
    · subst hp3
      rw [hcj.head]
      have e1 : (T.ite i a j r).encl k (k + 1 + a.size) = [] := by simp only [encl]; rw [if_neg (by omega), if_pos (by omega)]; exact T.encl_end _ _ _ rfl
      have e2 : (T.ite i a j r).encl k (k + 1 + a.size + 1) = [] := by simp only [encl]; rw [if_neg (by omega), if_neg (by omega)]; exact T.encl_start _ _ _ (by omega)
      exact {
        other := fun _ _ _ x => absurd hj x
        jump := fun x => by omega
        if1 := fun x => by omega
        loop1 := fun x => by omega
        depth := fun x => by omega
        leave := fun x => by omega
        endd := fun x => .inr ⟨by rw [e1, e2], fun q hq => by rw [e1] at hq; cases hq⟩
        low := fun q hq => by rw [e1] at hq; cases hq }
    · have hcr := hcj.tail
      rw [show k + 1 + a.size + 1 = k + a.size + 2 by omega] at hcr
      refine (T.loc cd r w d (k + a.size + 2) e hwr hcr p (by omega) (by omega)).lift (by omega) (by omega) (by simp only [size]; omega) (Nat.le_refl _) (fun x hx1 hx2 => ?_) (fun x hx1 hx2 => ?_)
      · simp only [encl]; rw [if_neg (by omega), if_neg (by omega)]
      · simp only [pt]; rw [ptFn_cons _ _ _ _ (by omega), ptFn_right _ _ _ _ (by omega), hal, ptFn_cons _ _ _ _ (by omega), show k + 1 + a.size + 1 = k + a.size + 2 by omega]
  | .ite2 i a y b j r, w, d, k, e, hw, hc, p, h1, h2 => by
    simp only [size] at h2
    simp only [flat] at hc
    obtain ⟨hi, hy, hj, hd, hwa, hwb, hwr⟩ := hw
    have hcy := hc.tail.right
    rw [a.flat_length] at hcy
    have hcj := hcy.tail.right
    rw [b.flat_length] at hcj
    have hal := a.pt_length (k + 1) e
    have hbl := b.pt_length (k + a.size + 2) e
    have pk : ptFn ((T.ite2 i a y b j r).pt k e) k k = k + a.size + 1 := by simp only [pt]; exact ptFn_head _ _ _
    have py : ptFn ((T.ite2 i a y b j r).pt k e) k (k + 1 + a.size) = k + a.size + b.size + 2 := by
      simp only [pt]; rw [ptFn_cons _ _ _ _ (by omega), ptFn_right _ _ _ _ (by omega), hal]; exact ptFn_head _ _ _
    by_cases hp : p = k
    · subst hp
      rw [hc.head]
      have e1 : (T.ite2 i a y b j r).encl p p = [] := T.encl_start _ _ _ (Nat.le_refl _)
      have e2 : (T.ite2 i a y b j r).encl p (p + 1) = [] := by simp only [encl]; rw [if_neg (by omega), if_pos (by omega)]; exact T.encl_start _ _ _ (Nat.le_refl _)
      have e3 : (T.ite2 i a y b j r).encl p (p + a.size + 1 + 1) = [] := by simp only [encl]; rw [if_neg (by omega), if_neg (by omega), if_pos (by omega)]; exact T.encl_start _ _ _ (by omega)
      exact {
        other := fun x _ _ _ => absurd hi x
        jump := fun x => by rw [pk]; exact ⟨by omega, by simp only [size]; omega, by rw [e3, e1]⟩
        if1 := fun x => by rw [e1, e2]
        loop1 := fun x => by omega
        depth := fun x => by omega
        leave := fun x => by omega
        endd := fun x => by omega
        low := fun q hq => by rw [e1] at hq; cases hq }
    by_cases hp2 : p < k + 1 + a.size
    · refine (T.loc cd a w (d - 1) (k + 1) e hwa hc.tail.left p (by omega) (by omega)).lift (by omega) (by omega) (by simp only [size]; omega) (by omega) (fun x hx1 hx2 => ?_) (fun x hx1 hx2 => ?_)
      · simp only [encl]; rw [if_neg (by omega), if_pos (by omega)]
      · simp only [pt]; rw [ptFn_cons _ _ _ _ (by omega)]; exact ptFn_left _ _ _ _ (by omega) (by omega)
    by_cases hp3 : p = k + 1 + a.size
    · subst hp3
      rw [hcy.head]
      have e1 : (T.ite2 i a y b j r).encl k (k + 1 + a.size) = [] := by simp only [encl]; rw [if_neg (by omega), if_pos (by omega)]; exact T.encl_end _ _ _ rfl
      have e3 : (T.ite2 i a y b j r).encl k (k + a.size + b.size + 2 + 1) = [] := by simp only [encl]; rw [if_neg (by omega), if_neg (by omega), if_neg (by omega)]; exact T.encl_start _ _ _ (by omega)
      exact {
        other := fun _ x _ _ => absurd hy x
        jump := fun x => by rw [py]; exact ⟨by omega, by simp only [size]; omega, by rw [e3, e1]⟩
        if1 := fun x => by omega
        loop1 := fun x => by omega
        depth := fun x => by omega
        leave := fun x => by omega
        endd := fun x => by omega
        low := fun q hq => by rw [e1] at hq; cases hq }
    have hcb := hcy.tail.left
    rw [show k + 1 + a.size + 1 = k + a.size + 2 by omega] at hcb hcj
    by_cases hp4 : p < k + a.size + 2 + b.size
    · refine (T.loc cd b w (d - 1) (k + a.size + 2) e hwb hcb p (by omega) (by omega)).lift (by omega) (by omega) (by simp only [size]; omega) (by omega) (fun x hx1 hx2 => ?_) (fun x hx1 hx2 => ?_)
      · simp only [encl]; rw [if_neg (by omega), if_neg (by omega), if_pos (by omega)]
      · simp only [pt]; rw [ptFn_cons _ _ _ _ (by omega), ptFn_right _ _ _ _ (by omega), hal, ptFn_cons _ _ _ _ (by omega), show k + 1 + a.size + 1 = k + a.size + 2 by omega]; exact ptFn_left _ _ _ _ (by omega) (by omega)
    by_cases hp5 : p = k + a.size + 2 + b.size
    · subst hp5
      rw [hcj.head]
      have e1 : (T.ite2 i a y b j r).encl k (k + a.size + 2 + b.size) = [] := by simp only [encl]; rw [if_neg (by omega), if_neg (by omega), if_pos (by omega)]; exact T.encl_end _ _ _ rfl
      have e2 : (T.ite2 i a y b j r).encl k (k + a.size + 2 + b.size + 1) = [] := by simp only [encl]; rw [if_neg (by omega), if_neg (by omega), if_neg (by omega)]; exact T.encl_start _ _ _ (by omega)
      exact {
        other := fun _ _ _ x => absurd hj x
        jump := fun x => by omega
        if1 := fun x => by omega
        loop1 := fun x => by omega
        depth := fun x => by omega
        leave := fun x => by omega
        endd := fun x => .inr ⟨by rw [e1, e2], fun q hq => by rw [e1] at hq; cases hq⟩
        low := fun q hq => by rw [e1] at hq; cases hq }
    · have hcr := hcj.tail
      rw [show k + a.size + 2 + b.size + 1 = k + a.size + b.size + 3 by omega] at hcr
      refine (T.loc cd r w d (k + a.size + b.size + 3) e hwr hcr p (by omega) (by omega)).lift (by omega) (by omega) (by simp only [size]; omega) (Nat.le_refl _) (fun x hx1 hx2 => ?_) (fun x hx1 hx2 => ?_)
      · simp only [encl]; rw [if_neg (by omega), if_neg (by omega), if_neg (by omega)]
      · simp only [pt]
        rw [ptFn_cons _ _ _ _ (by omega), ptFn_right _ _ _ _ (by omega), hal, ptFn_cons _ _ _ _ (by omega), show k + 1 + a.size + 1 = k + a.size + 2 by omega, ptFn_right _ _ _ _ (by omega), hbl, ptFn_cons _ _ _ _ (by omega), show k + a.size + 2 + b.size + 1 = k + a.size + b.size + 3 by omega]
  | .loop i a j r, w, d, k, e, hw, hc, p, h1, h2 => by
    simp only [size] at h2
    simp only [flat] at hc
    obtain ⟨hi, hj, hd, hwa, hwr⟩ := hw
    have hcj := hc.tail.right
    rw [a.flat_length] at hcj
    have hal := a.pt_length (k + 1) (k + a.size + 1)
    have pk : ptFn ((T.loop i a j r).pt k e) k k = k + a.size + 1 := by simp only [pt]; exact ptFn_head _ _ _
    have e3 : (T.loop i a j r).encl k (k + a.size + 1 + 1) = [] := by simp only [encl]; rw [if_neg (by omega), if_neg (by omega)]; exact T.encl_start _ _ _ (by omega)
    by_cases hp : p = k
    · subst hp
      rw [hc.head]
      have e1 : (T.loop i a j r).encl p p = [] := T.encl_start _ _ _ (Nat.le_refl _)
      have e2 : (T.loop i a j r).encl p (p + 1) = [p] := by simp only [encl]; rw [if_neg (by omega), if_pos (by omega), T.encl_start _ _ _ (Nat.le_refl _)]
      exact {
        other := fun _ _ x _ => absurd hi x
        jump := fun x => by rw [pk]; exact ⟨by omega, by simp only [size]; omega, by rw [e3, e1]⟩
        if1 := fun x => by omega
        loop1 := fun x => by rw [e1, e2]; rfl
        depth := fun x => by rw [e1]; simpa using hd
        leave := fun x => by omega
        endd := fun x => by omega
        low := fun q hq => by rw [e1] at hq; cases hq }
    by_cases hp2 : p < k + 1 + a.size
    · have hloc := T.loc cd a true (d - 1) (k + 1) (k + a.size + 1) hwa hc.tail.left p (by omega) (by omega)
      rw [show k + 1 + a.size = k + a.size + 1 by omega] at hloc
      refine hloc.liftLoop (by omega) (by omega) (by simp only [size]; omega) (by omega) (fun x hx1 hx2 => ?_) (fun x hx1 hx2 => ?_) pk e3
      · simp only [encl]; rw [if_neg (by omega), if_pos (by omega)]
      · simp only [pt]; rw [ptFn_cons _ _ _ _ (by omega)]; exact ptFn_left _ _ _ _ (by omega) (by omega)
    by_cases hp3 : p = k + 1 + a.size
    · subst hp3
      rw [hcj.head]
      have e1 : (T.loop i a j r).encl k (k + 1 + a.size) = [k] := by simp only [encl]; rw [if_neg (by omega), if_pos (by omega), T.encl_end _ _ _ rfl]
      have e4 : (T.loop i a j r).encl k (k + 1 + a.size + 1) = [] := by rw [show k + 1 + a.size + 1 = k + a.size + 1 + 1 by omega]; exact e3
      have e2 : (T.loop i a j r).encl k (k + 1) = [k] := by simp only [encl]; rw [if_neg (by omega), if_pos (by omega), T.encl_start _ _ _ (Nat.le_refl _)]
      exact {
        other := fun _ _ _ x => absurd hj x
        jump := fun x => by omega
        if1 := fun x => by omega
        loop1 := fun x => by omega
        depth := fun x => by omega
        leave := fun x => by omega
        endd := fun x => .inl ⟨[], k, by rw [e1]; rfl, Nat.le_refl _, by omega, by rw [pk]; omega, by rw [e4], by rw [e1, e2]⟩
        low := fun q hq => by rw [e1] at hq; simp at hq; omega }
    · have hcr := hcj.tail
      rw [show k + 1 + a.size + 1 = k + a.size + 2 by omega] at hcr
      refine (T.loc cd r w d (k + a.size + 2) e hwr hcr p (by omega) (by omega)).lift (by omega) (by omega) (by simp only [size]; omega) (Nat.le_refl _) (fun x hx1 hx2 => ?_) (fun x hx1 hx2 => ?_)
      · simp only [encl]; rw [if_neg (by omega), if_neg (by omega)]
      · simp only [pt]; rw [ptFn_cons _ _ _ _ (by omega), ptFn_right _ _ _ _ (by omega), hal, ptFn_cons _ _ _ _ (by omega), show k + 1 + a.size + 1 = k + a.size + 2 by omega]

end Go.Proofs.Ytefdnjhhaejgbaa

namespace Go.Proofs.Ytefdnjhhaejgbaa
open Go.RowKit
set_option linter.unusedVariables false

def u32 (x : Int) : Prop := 0 ≤ x ∧ x < 4294967296

theorem wrap_u32r (x : Int) : u32 (IntKind.u32.wrap x) := by unfold u32; rw [IntKind.wrap_u32]; omega
theorem flag_u32 (b : Bool) : u32 (flagI b) := by cases b <;> simp [flagI, u32]

theorem arith_u32 (op a b : Int) (ha : u32 a) (hb : u32 b) (h : arithErr op b = 0) : u32 (arith op a b) := by
  unfold u32 at ha hb
  unfold arithErr at h
  split at h
  · simp at h
  rename_i hop
  split at h
  · simp at h
  rename_i hdiv
  unfold arith
  by_cases o8 : op = 8
  · rw [if_pos o8]
    unfold u32; omega
  rw [if_neg o8]
  by_cases o9 : op = 9
  · rw [if_pos o9]
    unfold u32; omega
  rw [if_neg o9]
  by_cases o10 : op = 10
  · rw [if_pos o10]
    unfold u32; omega
  rw [if_neg o10]
  by_cases o11 : op = 11
  · rw [if_pos o11]
    have hb0 : b ≠ 0 := fun e0 => hdiv ⟨e0, .inl o11⟩
    refine ⟨Int.ediv_nonneg ha.1 hb.1, ?_⟩
    have := Int.ediv_le_self (a := a) b ha.1
    omega
  rw [if_neg o11]
  by_cases o12 : op = 12
  · rw [if_pos o12]
    have hb0 : b ≠ 0 := fun e0 => hdiv ⟨e0, .inr o12⟩
    have h1 := Int.emod_nonneg a hb0
    have h2 := Int.emod_lt_of_pos a (show 0 < b by omega)
    unfold u32; omega
  rw [if_neg o12]
  by_cases o13 : op = 13
  · rw [if_pos o13]
    exact wrap_u32r _
  rw [if_neg o13]
  by_cases o14 : op = 14
  · rw [if_pos o14]
    exact wrap_u32r _
  rw [if_neg o14]
  by_cases o15 : op = 15
  · rw [if_pos o15]
    exact wrap_u32r _
  rw [if_neg o15]
  by_cases o16 : op = 16
  · rw [if_pos o16]
    unfold u32; omega
  rw [if_neg o16]
  by_cases o17 : op = 17
  · rw [if_pos o17]
    have hp : (0 : Int) < 2 ^ (b % 32).toNat := Int.pow_pos (by decide)
    refine ⟨Int.ediv_nonneg ha.1 (by omega), ?_⟩
    have := Int.ediv_le_self (a := a) (2 ^ (b % 32).toNat) ha.1
    omega
  rw [if_neg o17]
  by_cases o18 : op = 18
  · rw [if_pos o18]
    unfold u32; omega
  rw [if_neg o18]
  by_cases o19 : op = 19
  · rw [if_pos o19]
    unfold u32; omega
  rw [if_neg o19]
  by_cases o20 : op = 20
  · rw [if_pos o20]
    exact wrap_u32r _
  rw [if_neg o20]
  by_cases o21 : op = 21
  · rw [if_pos o21]
    exact flag_u32 _
  rw [if_neg o21]
  by_cases o22 : op = 22
  · rw [if_pos o22]
    exact flag_u32 _
  rw [if_neg o22]
  by_cases o23 : op = 23
  · rw [if_pos o23]
    exact flag_u32 _
  rw [if_neg o23]
  by_cases o24 : op = 24
  · rw [if_pos o24]
    exact flag_u32 _
  rw [if_neg o24]
  by_cases o25 : op = 25
  · rw [if_pos o25]
    exact flag_u32 _
  rw [if_neg o25]
  exact flag_u32 _

theorem u32s_set {l : List Int} (h : u32s l) (i : Nat) {v : Int} (hv : u32 v) : u32s (l.set i v) := fun x hx => by
  rcases List.mem_or_eq_of_mem_set hx with hx | hx
  · exact h x hx
  · subst hx; exact hv
theorem u32s_at {l : List Int} (h : u32s l) (i : Nat) : u32 (l.getD i 0) := by
  rw [List.getD_eq_getElem?_getD]
  cases hx : l[i]? with
  | none => simp [u32]
  | some v => exact h v (List.mem_of_getElem? hx)

theorem Fine.got {c : MC} {s : PS} (F : Fine c s) (r : Int) : u32 (s.get r) := by
  unfold PS.get
  split
  · simp [u32]
  · exact u32s_at F.r32 _

/-- the bounds do not look at the place, but for its own bound -/
theorem Fine.at {c : MC} {s : PS} (F : Fine c s) {p : Nat} (hp : p ≤ c.cd.length) : Fine c { s with pc := p } := { F with pc := hp }
theorem Fine.put {c : MC} {s : PS} (F : Fine c s) (r : Int) {v : Int} (hv : u32 v) : Fine c (s.put r v) :=
  { F with regs := by simp [PS.put]; exact F.regs, r32 := u32s_set F.r32 _ hv }

structure RInv (c : MC) (t : T) (s : PS) : Prop where
  fine : Fine c s
  loops : s.loops.map Prod.fst = t.encl 0 s.pc

/-- what the code of a run is -/
structure RCode (c : MC) (t : T) : Prop where
  flat : c.cd = t.flat
  wf : t.wf false 8
  pt : c.pt = t.pt 0 0
  ins : ∀ i ∈ c.cd, chkI c.regs c.spills c.ars.length i = 0
  arg : ∀ i ∈ c.cd, u32 i.arg

theorem RCode.loc {c : MC} {t : T} (R : RCode c t) {p : Nat} (hp : p < c.cd.length) : Loc (t.encl 0) (fun q => c.pt.getD q 0) 0 c.cd.length p (c.cd.getD p default).op false 0 8 := by
  have hl : c.cd.length = t.size := by rw [R.flat, t.flat_length]
  have h := T.loc c.cd t false 8 0 0 R.wf (by rw [R.flat]; intro j hj; simp) p (by omega) (by omega)
  have e : ptFn (t.pt 0 0) 0 = fun q => c.pt.getD q 0 := by funext q; simp [ptFn, R.pt]
  rw [e, Nat.zero_add, ← hl] at h
  exact h

/-- a number that each instruction lowers -/
def rmu (c : MC) (s : PS) : Nat := (c.fuel - s.steps).toNat * (c.cd.length + 2) + (c.cd.length + 1 - s.pc)

theorem rmu_tick {c : MC} {s s' : PS} (h1 : s'.steps = s.steps + 1) (h2 : s'.steps ≤ c.fuel) (h3 : s.pc ≤ c.cd.length) : rmu c s' < rmu c s := by
  unfold rmu
  have e : (c.fuel - s.steps).toNat = (c.fuel - s'.steps).toNat + 1 := by omega
  rw [e, Nat.add_mul]
  omega
theorem rmu_on {c : MC} {s s' : PS} (h1 : s'.steps = s.steps) (h2 : s.pc < s'.pc) (h3 : s.pc ≤ c.cd.length) : rmu c s' < rmu c s := by
  unfold rmu
  rw [h1]
  omega

theorem encl_at_len {c : MC} {t : T} {s : PS} (R : RCode c t) (h : s.loops.map Prod.fst = t.encl 0 s.pc) : s.loops.length ≤ 8 := by
  have h1 := congrArg List.length h
  have h2 := t.encl_len false 8 0 s.pc R.wf
  simp at h1
  omega

/-- one instruction -/
theorem eff_inv {c : MC} {t : T} (R : RCode c t) {s s' : PS} (F : Fine c s) (hl : s.loops.map Prod.fst = t.encl 0 s.pc) (hpc : s.pc < c.cd.length) (he : effect c s (c.cd.getD s.pc default) = .ok s') :
    RInv c t { s' with pc := s'.pc + 1 } ∧ ((s'.steps = s.steps ∧ s.pc ≤ s'.pc ∧ ((c.cd.getD s.pc default).op = 28 → s.pc < s'.pc)) ∨ s'.steps = s.steps + 1) := by
  have L := R.loc hpc
  have hmem : c.cd.getD s.pc default ∈ c.cd := by rw [List.getD_eq_getElem?_getD, List.getElem?_eq_getElem hpc]; exact List.getElem_mem hpc
  have harg := R.arg _ hmem
  generalize hi : c.cd.getD s.pc default = i at *
  have plain : ∀ s2 : PS, s' = s2 → Fine c s2 → s2.pc = s.pc → s2.loops = s.loops → s2.steps = s.steps → (i.op ≠ 27 ∧ i.op ≠ 28 ∧ i.op ≠ 29 ∧ i.op ≠ 31) →
      RInv c t { s' with pc := s'.pc + 1 } ∧ ((s'.steps = s.steps ∧ s.pc ≤ s'.pc ∧ (i.op = 28 → s.pc < s'.pc)) ∨ s'.steps = s.steps + 1) := by
    rintro s2 rfl F2 h1 h2 h3 ⟨n1, n2, n3, n4⟩
    refine ⟨⟨F2.at (by omega), ?_⟩, .inl ⟨h3, by omega, fun e => absurd e n2⟩⟩
    show s'.loops.map Prod.fst = t.encl 0 (s'.pc + 1)
    rw [h2, h1, L.other n1 n2 n3 n4]; exact hl
  unfold effect at he
  by_cases o0 : i.op = 0
  · rw [if_pos o0] at he
    exact plain _ (Except.ok.inj he).symm (F.put _ harg) rfl rfl rfl (by omega)
  rw [if_neg o0] at he
  by_cases o36 : i.op = 36
  · rw [if_pos o36] at he
    exact plain _ (Except.ok.inj he).symm (F.put _ (F.got _)) rfl rfl rfl (by omega)
  rw [if_neg o36] at he
  by_cases o37 : i.op = 37
  · rw [if_pos o37] at he
    exact plain _ (Except.ok.inj he).symm { F with spl := by simp; exact F.spl, s32 := u32s_set F.s32 _ (F.got _) } rfl rfl rfl (by omega)
  rw [if_neg o37] at he
  by_cases o38 : i.op = 38
  · rw [if_pos o38] at he
    exact plain _ (Except.ok.inj he).symm (F.put _ (u32s_at F.s32 _)) rfl rfl rfl (by omega)
  rw [if_neg o38] at he
  by_cases o32 : i.op = 32
  · rw [if_pos o32] at he
    exact plain _ (Except.ok.inj he).symm (F.put _ F.in0) rfl rfl rfl (by omega)
  rw [if_neg o32] at he
  by_cases o33 : i.op = 33
  · rw [if_pos o33] at he
    exact plain _ (Except.ok.inj he).symm (F.put _ (by split <;> simp [u32])) rfl rfl rfl (by omega)
  rw [if_neg o33] at he
  by_cases o34 : i.op = 34
  · rw [if_pos o34] at he
    split at he
    · rename_i hlt
      refine plain _ (Except.ok.inj he).symm { F with o8 := fun x hx => ?_, olen := by simp; omega } rfl rfl rfl (by omega)
      simp only [List.mem_append, List.mem_singleton] at hx
      rcases hx with hx | rfl
      · exact F.o8 x hx
      · omega
    · cases he
  rw [if_neg o34] at he
  by_cases o35 : i.op = 35
  · rw [if_pos o35] at he
    exact plain _ (Except.ok.inj he).symm { F with ctx := by simp; exact F.ctx, c32 := u32s_set F.c32 _ (F.got _) } rfl rfl rfl (by omega)
  rw [if_neg o35] at he
  have harr : ∀ k, u32s (s.arr.getD k []) := fun k => by
    rw [List.getD_eq_getElem?_getD]
    cases hx : s.arr[k]? with
    | none => intro x hx; cases hx
    | some v => exact F.a32 v (List.mem_of_getElem? hx)
  by_cases o3 : i.op = 3
  · rw [if_pos o3] at he
    split at he
    · exact plain _ (Except.ok.inj he).symm (F.put _ (u32s_at (harr _) _)) rfl rfl rfl (by omega)
    · cases he
  rw [if_neg o3] at he
  by_cases o4 : i.op = 4
  · rw [if_pos o4] at he
    split at he
    · rename_i hlt
      have hv : u32 (if (c.ars.getD i.arg.toNat default).word then s.get i.b else s.get i.b % 256) := by
        have := F.got i.b
        unfold u32 at *
        split <;> omega
      refine plain _ (Except.ok.inj he).symm { F with arr := by simp; exact F.arr, a32 := fun a ha => ?_, asz := fun a ha => ?_ } rfl rfl rfl (by omega)
      · rcases List.mem_or_eq_of_mem_set ha with ha | ha
        · exact F.a32 a ha
        · subst ha; exact u32s_set (harr _) _ hv
      · rcases List.mem_or_eq_of_mem_set ha with ha | ha
        · exact F.asz a ha
        · subst ha
          rw [List.length_set, List.getD_eq_getElem?_getD]
          cases hx : s.arr[i.arg.toNat]? with
          | none => simp
          | some v => exact F.asz v (List.mem_of_getElem? hx)
    · cases he
  rw [if_neg o4] at he
  by_cases o27 : i.op = 27
  · rw [if_pos o27] at he
    have := Except.ok.inj he
    obtain ⟨j1, j2, j3⟩ := L.jump (.inl o27)
    split at this
    · subst this
      exact ⟨⟨F.at (by simp only at j2 ⊢; omega), by show s.loops.map Prod.fst = _; rw [hl]; exact j3.symm⟩, .inl ⟨rfl, by simp only at j1 ⊢; omega, fun e => by omega⟩⟩
    · subst this
      exact ⟨⟨F.at (by omega), by show s.loops.map Prod.fst = _; rw [hl]; exact (L.if1 o27).symm⟩, .inl ⟨rfl, Nat.le_refl _, fun e => by omega⟩⟩
  rw [if_neg o27] at he
  by_cases o28 : i.op = 28
  · rw [if_pos o28] at he
    have := Except.ok.inj he
    obtain ⟨j1, j2, j3⟩ := L.jump (.inr (.inl o28))
    subst this
    exact ⟨⟨F.at (by simp only at j2 ⊢; omega), by show s.loops.map Prod.fst = _; rw [hl]; exact j3.symm⟩, .inl ⟨rfl, by simp only at j1 ⊢; omega, fun e => j1⟩⟩
  rw [if_neg o28] at he
  by_cases o29 : i.op = 29
  · rw [if_pos o29] at he
    obtain ⟨j1, j2, j3⟩ := L.jump (.inr (.inr o29))
    split at he
    · cases he
    · split at he
      · have := Except.ok.inj he
        subst this
        exact ⟨⟨F.at (by simp only at j2 ⊢; omega), by show s.loops.map Prod.fst = _; rw [hl]; exact j3.symm⟩, .inl ⟨rfl, by simp only at j1 ⊢; omega, fun e => by omega⟩⟩
      · rename_i hne
        unfold tick at he
        split at he
        · rename_i hst
          have := Except.ok.inj he
          subst this
          have hg := F.got i.a
          have hlen : s.loops.length ≤ 8 := encl_at_len R hl
          unfold u32 at hg
          refine ⟨⟨{ (F.tick hst) with l32 := fun p hp => ?_, llen := by simp; omega, pc := by show s.pc + 1 ≤ _; omega }, ?_⟩, .inr rfl⟩
          · simp only [List.mem_append, List.mem_singleton] at hp
            rcases hp with hp | rfl
            · exact F.l32 p hp
            · exact ⟨hpc, by simp only; omega, by simp only; omega⟩
          · show (s.loops ++ [(s.pc, s.get i.a)]).map Prod.fst = _
            rw [List.map_append, hl]; exact (L.loop1 o29).symm
        · cases he
  rw [if_neg o29] at he
  by_cases o30 : i.op = 30
  · rw [if_pos o30] at he
    have := Except.ok.inj he
    split at this
    · subst this
      exact plain _ rfl F rfl rfl rfl (by omega)
    · subst this
      rcases L.leave o30 with ⟨l1, l2, l3, l4⟩ | ⟨_, hx, _⟩
      · refine ⟨⟨{ F with l32 := fun p hp => F.l32 p (List.dropLast_subset _ hp), llen := by have := F.llen; simp; omega, pc := by simp only at l3 ⊢; omega }, ?_⟩, .inl ⟨rfl, by simp only at l2 ⊢; omega, fun e => by omega⟩⟩
        show s.loops.dropLast.map Prod.fst = _
        rw [List.map_dropLast, hl]; exact l4.symm
      · cases hx
  rw [if_neg o30] at he
  by_cases o31 : i.op = 31
  · rw [if_pos o31] at he
    split at he
    · rename_i hnone
      have := Except.ok.inj he
      subst this
      have hnil : s.loops = [] := by simpa using hnone
      have hE : t.encl 0 s.pc = [] := by rw [← hl, hnil]; rfl
      rcases L.endd o31 with ⟨X, q, h1, _⟩ | ⟨h1, _⟩
      · rw [hE] at h1; simp at h1
      · exact ⟨⟨F.at (by omega), by show s.loops.map Prod.fst = _; rw [hl]; exact h1.symm⟩, .inl ⟨rfl, Nat.le_refl _, fun e => by omega⟩⟩
    · rename_i b l hsome
      obtain ⟨l0, hl0⟩ : ∃ l0, s.loops = l0 ++ [(b, l)] := by
        rcases List.eq_nil_or_concat s.loops with h | ⟨l0, x, h⟩
        · rw [h] at hsome; simp at hsome
        · rw [h, List.concat_eq_append] at hsome; simp at hsome; exact ⟨l0, by rw [h, List.concat_eq_append, hsome]⟩
      have hE : t.encl 0 s.pc = l0.map Prod.fst ++ [b] := by rw [← hl, hl0]; simp
      have hbl := F.l32 (b, l) (by rw [hl0]; simp)
      split at he
      · rename_i hne
        have := Except.ok.inj he
        subst this
        rcases L.endd o31 with ⟨X, q, h1, _, _, h4, _⟩ | ⟨h1, _⟩
        · rw [hE] at h1
          have := (List.append_inj' h1 rfl).2
          simp at this
          subst this
          exact absurd h4 hne
        · exact ⟨⟨F.at (by omega), by show s.loops.map Prod.fst = _; rw [hl]; exact h1.symm⟩, .inl ⟨rfl, Nat.le_refl _, fun e => by omega⟩⟩
      · rename_i heq
        rcases L.endd o31 with ⟨X, q, h1, _, h3, h4, h5, h6⟩ | ⟨_, h2⟩
        · rw [hE] at h1
          obtain ⟨hX, hq⟩ := List.append_inj' h1 rfl
          simp at hq
          subst hq
          split at he
          · have := Except.ok.inj he
            subst this
            refine ⟨⟨{ F with l32 := fun p hp => F.l32 p (List.dropLast_subset _ hp), llen := by have := F.llen; simp; omega, pc := by show s.pc + 1 ≤ _; omega }, ?_⟩, .inl ⟨rfl, Nat.le_refl _, fun e => by omega⟩⟩
            show s.loops.dropLast.map Prod.fst = _
            rw [hl0, List.dropLast_concat, hX]; exact h5.symm
          · rename_i hl1
            unfold tick at he
            split at he
            · rename_i hst
              have := Except.ok.inj he
              subst this
              refine ⟨⟨{ (F.tick hst) with l32 := fun p hp => ?_, llen := by have := F.llen; rw [hl0] at this ⊢; simp at this ⊢; omega, pc := by show b + 1 ≤ _; simp only at hbl; omega }, ?_⟩, .inr rfl⟩
              · simp only [hl0, List.dropLast_concat, List.mem_append, List.mem_singleton] at hp
                rcases hp with hp | rfl
                · exact F.l32 p (by rw [hl0]; simp [hp])
                · simp only at hbl ⊢; omega
              · show (s.loops.dropLast ++ [(b, l - 1)]).map Prod.fst = t.encl 0 (b + 1)
                rw [h6, hE, hl0]; simp
            · cases he
        · have := h2 b (by rw [hE]; simp)
          exact absurd (by simpa using heq) this
  rw [if_neg o31] at he
  split at he
  · rename_i hok
    exact plain _ (Except.ok.inj he).symm (F.put _ (arith_u32 _ _ _ (F.got _) (F.got _) hok)) rfl rfl rfl (by omega)
  · cases he

end Go.Proofs.Ytefdnjhhaejgbaa

namespace Go.Proofs.Ytefdnjhhaejgbaa
open Go.RowKit
set_option linter.unusedVariables false

theorem step_inv {c : MC} {t : T} (R : RCode c t) {s s' : PS} (I : RInv c t s) (hpc : s.pc < c.cd.length) (h : mstep c s = .ok s') : RInv c t s' ∧ rmu c s' < rmu c s := by
  unfold mstep at h
  have F := I.fine
  by_cases ho : (c.cd.getD s.pc default).op ≠ 28 ∧ (c.cd.getD s.pc default).op ≠ 31
  · simp only [if_pos ho] at h
    unfold tick at h
    split at h
    · rename_i hst
      simp only [Except.bind] at h
      have hs1 : ({ s with steps := s.steps + 1 } : PS).pc = s.pc := rfl
      cases he : effect c { s with steps := s.steps + 1 } (c.cd.getD s.pc default) with
      | error n => rw [he] at h; cases h
      | ok s2 =>
        rw [he] at h
        have := Except.ok.inj h
        subst this
        obtain ⟨i1, i2⟩ := eff_inv R (s := { s with steps := s.steps + 1 }) (F.tick hst) I.loops hpc he
        refine ⟨i1, ?_⟩
        have hfu := i1.fine.st1
        rcases i2 with ⟨h1, _, _⟩ | h1
        · exact rmu_tick h1 hfu F.pc
        · have e : (c.fuel - s.steps).toNat = (c.fuel - s2.steps).toNat + 2 := by simp only at h1 hfu ⊢; omega
          unfold rmu
          simp only
          rw [e, Nat.add_mul]
          omega
    · simp only [Except.bind] at h; cases h
  · simp only [if_neg ho, Except.bind] at h
    cases he : effect c s (c.cd.getD s.pc default) with
    | error n => rw [he] at h; cases h
    | ok s2 =>
      rw [he] at h
      have := Except.ok.inj h
      subst this
      obtain ⟨i1, i2⟩ := eff_inv R F I.loops hpc he
      refine ⟨i1, ?_⟩
      rcases i2 with ⟨h1, h2, _⟩ | h1
      · exact rmu_on h1 (by show s.pc < s2.pc + 1; omega) F.pc
      · exact rmu_tick h1 i1.fine.st1 F.pc

theorem mrun_stable {c : MC} {t : T} (R : RCode c t) : ∀ (n : Nat) (s : PS) (m m' : Nat), RInv c t s → rmu c s ≤ n → rmu c s < m → rmu c s < m' → mrun c m s = mrun c m' s
  | n, s, 0, m', _, _, h, _ => by omega
  | n, s, m + 1, 0, _, _, _, h => by omega
  | n, s, m + 1, m' + 1, I, hn, h1, h2 => by
    unfold mrun
    by_cases hpc : s.pc < c.cd.length
    · rw [if_pos hpc, if_pos hpc]
      cases hs : mstep c s with
      | error e => rfl
      | ok s' =>
        obtain ⟨i1, i2⟩ := step_inv R I hpc hs
        cases n with
        | zero => omega
        | succ n => exact mrun_stable R n s' m m' i1 (by omega) (by omega) (by omega)
    · rw [if_neg hpc, if_neg hpc]

theorem mrun_inv {c : MC} {t : T} (R : RCode c t) : ∀ (m : Nat) (s s' : PS), RInv c t s → mrun c m s = .ok s' → RInv c t s'
  | 0, s, s', I, h => by cases h; exact I
  | m + 1, s, s', I, h => by
    unfold mrun at h
    by_cases hpc : s.pc < c.cd.length
    · rw [if_pos hpc] at h
      cases hs : mstep c s with
      | error e => rw [hs] at h; cases h
      | ok s2 =>
        rw [hs] at h
        exact mrun_inv R m s2 s' (step_inv R I hpc hs).1 h
    · rw [if_neg hpc] at h; cases h; exact I

/-- the result of a run -/
def mres (c : MC) (s : PS) : Except Int PS := mrun c (rmu c s + 1) s

theorem mres_eq {c : MC} {t : T} (R : RCode c t) {s : PS} (I : RInv c t s) : mres c s = if s.pc < c.cd.length then (mstep c s).bind (mres c) else .ok s := by
  unfold mres
  rw [mrun]
  split
  · rename_i hpc
    cases hs : mstep c s with
    | error e => rfl
    | ok s' =>
      obtain ⟨i1, i2⟩ := step_inv R I hpc hs
      exact mrun_stable R _ s' _ _ i1 (Nat.le_refl _) i2 (Nat.lt_succ_self _)
  · rfl

/-- **RUNS OF CODE THAT IS IN ORDER** -/
theorem runs_all {c : MC} {t : T} (R : RCode c t) {s0 : PS} (I : RInv c t s0) : RunsTo c s0 (mres c s0) := by
  refine ⟨RInv c t, rmu c, mres c, fun s h => h.fine, fun s h hpc => ?_, fun s s' h hpc hs => step_inv R h hpc hs, fun s h => mres_eq R h, I, rfl, fun s hs => mrun_inv R _ s0 s I hs⟩
  have hmem : c.cd.getD s.pc default ∈ c.cd := by rw [List.getD_eq_getElem?_getD, List.getElem?_eq_getElem hpc]; exact List.getElem_mem hpc
  have L := R.loc hpc
  refine ⟨R.ins _ hmem, R.arg _ hmem, fun h30 hnil => ?_, fun h29 => ?_⟩
  · have hE : t.encl 0 s.pc = [] := by rw [← h.loops, hnil]; rfl
    rcases L.leave h30 with ⟨l1, _⟩ | ⟨_, hx, _⟩
    · exact l1 hE
    · cases hx
  · have := encl_at_len R h.loops; omega

end Go.Proofs.Ytefdnjhhaejgbaa

namespace Go.Proofs.Ytefdnjhhaejgbaa
open Go.RowKit
set_option linter.unusedVariables false

theorem Try.elNB : ElT Try.prog 112 114 (.agg #[.bool false, .bool false, .bool false]) 3 3 := ⟨Try.underlying112, by kernel_rfl, rfl, by decide, by decide⟩

theorem nat_cast_ltQ {r len : Nat} (h : r < len) : (0 : Int) ≤ (r : Int) ∧ (r : Int) < (len : Int) := by omega
structure NestAt (w : World) (cd : List RI) (k : Nat) (o : List NB) (v : Value) (wr : World) : Prop where
  le : k ≤ cd.length
  own : wr.ownsRow w.heap.size 114 3 v o.length (flatNB o)
  bel : Below w.heap.size w wr
  len : o.length ≤ 8
  run : nestRun cd 0 [] = nestRun (cd.drop k) k o

def NestRel (w : World) (cd : List RI) (u i : Value) (wr : World) : Prop := ∃ (k : Nat) (o : List NB) (va : Option Addr) (vc : Nat), i = .int .i64 (k : Int) ∧ u = .slice va o.length vc ∧ NestAt w cd k o (.slice va o.length vc) wr

theorem NestAt.rel {w : World} {cd : List RI} {k : Nat} {o : List NB} {v : Value} {wr : World} (h : NestAt w cd k o v wr) : NestRel w cd v (.int .i64 (k : Int)) wr := by
  obtain ⟨va, vc, rfl⟩ : ∃ va vc, v = .slice va o.length vc := by
    rcases h.own.2 with ⟨h1, h2⟩ | ⟨g, cc, cur, h1, _⟩
    · exact ⟨none, 0, by rw [h1, h2]⟩
    · exact ⟨_, cc, h1⟩
  exact ⟨k, o, va, vc, rfl, rfl, h⟩

theorem own_cap {w : World} {base : Nat} {e : TypeId} {g cc n m : Nat} {xs : List Value} (h : w.ownsRow base e m (.slice (some ⟨g, 0, none⟩) n cc) n xs) : n ≤ cc := by
  rcases h.2 with ⟨h1, _⟩ | ⟨g', cc', cur, hv, hb, hgg, hle, hmx, hcs, htk⟩
  · cases h1
  · simp only [Value.slice.injEq, Option.some.injEq, Addr.mk.injEq] at hv
    omega

theorem NestAt.alloc {w : World} {cd : List RI} {k : Nat} {o : List NB} {v : Value} {wr : World} (h : NestAt w cd k o v wr) (x : Obj) : NestAt w cd k o v (wr.alloc x) :=
  ⟨h.le, h.own.alloc _, h.bel.alloc h.bel.size _, h.len, h.run⟩

/-- the top of the open blocks, at the address of the row -/
theorem NestAt.top {w : World} {cd : List RI} {k : Nat} {l : List NB} {t : NB} {v : Value} {wr : World} (h : NestAt w cd k (l ++ [t]) v wr) :
    ∃ g cc, v = .slice (some ⟨g, 0, none⟩) (l.length + 1) cc ∧ l.length + 1 ≤ cc ∧ w.heap.size ≤ g ∧ g < wr.heap.size ∧ (∀ j, j < 3 → wr.cell? ⟨g, l.length * 3 + j, none⟩ = [Value.bool t.loop, .bool t.within, .bool t.other][j]?) ∧ (∀ j, wr.frozen? ⟨g, j, none⟩ = false) := by
  have hown := h.own
  rw [flatNB_snoc, List.length_append, List.length_singleton] at hown
  obtain ⟨g, cc, rfl⟩ : ∃ g cc, v = .slice (some ⟨g, 0, none⟩) (l.length + 1) cc := by
    rcases hown.2 with ⟨h1, h2⟩ | ⟨g, cc, cur, h1, _⟩
    · simp at h2
    · exact ⟨g, cc, h1⟩
  have hl := hown.lt g rfl
  refine ⟨g, cc, rfl, own_cap hown, hl.1, hl.2, fun j hj => ?_, fun j => hown.frozenAt j⟩
  rw [hown.cellAt _ (by omega), List.getElem?_append_right (by rw [flatNB_length]; omega), flatNB_length]
  rw [show l.length * 3 + j - l.length * 3 = j by omega]

theorem NestAt.rel' {w : World} {cd : List RI} {k : Nat} {o : List NB} {v i : Value} {wr : World} (hi : i = .int .i64 ((k : Nat) : Int)) (h : NestAt w cd k o v wr) : NestRel w cd v i wr := by subst hi; exact h.rel
theorem nil_or_snoc {α : Type} (o : List α) : o = [] ∨ ∃ l t, o = l ++ [t] := by
  rcases List.eq_nil_or_concat o with h | ⟨l, t, h⟩
  · exact .inl h
  · exact .inr ⟨l, t, by rw [h, List.concat_eq_append]⟩
theorem heap_new3 (w : World) (o1 o2 o3 : Obj) : (((w.alloc o1).alloc o2).alloc o3).heap[w.heap.size + 1 + 1]? = some o3 := by
  have := heap_alloc_new ((w.alloc o1).alloc o2) o3
  simpa using this
theorem nest_bel {w z w' : World} {v : Value} {n : Nat} {xs : List Value} {o1 : Obj} (hb : Below w.heap.size w z) (hown : (z.alloc o1).ownsRow w.heap.size 114 3 v n xs) (hg : (z.alloc o1).grownBy w' v.ownBlock) : Below w.heap.size w w' :=
  (hb.alloc hb.size _).trans (below_grown hg (by have := hb.size; simp; omega) (fun x hx => (hown.lt x hx).1))
theorem nest_push {w z w' : World} {cd : List RI} {k : Nat} {o : List NB} {v : Value} {n : Nat} {xs : List Value} {o1 : Obj} {b0 b1 b2 : Bool} {g c m : Nat} (hm : o.length = m) (hb : Below w.heap.size w z) (hown : (z.alloc o1).ownsRow w.heap.size 114 3 v n xs)
    (hown' : w'.ownsRow w.heap.size 114 3 (.slice (some ⟨g, 0, none⟩) (m + 1) c) (m + 1) (flatNB o ++ [.bool b0, .bool b1, .bool b2])) (hg : (z.alloc o1).grownBy w' v.ownBlock) (hk : k + 1 ≤ cd.length) (hl : (o ++ [(⟨b0, b1, b2⟩ : NB)]).length ≤ 8)
    (hrun : nestRun cd 0 [] = nestRun (cd.drop (k + 1)) (k + 1) (o ++ [⟨b0, b1, b2⟩])) : NestAt w cd (k + 1) (o ++ [⟨b0, b1, b2⟩]) (.slice (some ⟨g, 0, none⟩) (m + 1) c) w' :=
  ⟨hk, by rw [flatNB_snoc, List.length_append, List.length_singleton, hm]; exact hown', nest_bel hb hown hg, hl, hrun⟩
theorem nest_pop {w z : World} {l : List NB} {t : NB} {g cc : Nat} (h : z.ownsRow w.heap.size 114 3 (.slice (some ⟨g, 0, none⟩) (l.length + 1) cc) (l.length + 1) (flatNB (l ++ [t]))) : z.ownsRow w.heap.size 114 3 (.slice (some ⟨g, 0, none⟩) l.length cc) l.length (flatNB l) := by
  rw [flatNB_snoc] at h
  exact own_pop h (flatNB_length l)
theorem nest_other {w z : World} {cd : List RI} {k : Nat} {l : List NB} {tl tw tt : Bool} {g cc : Nat} (hb : Below w.heap.size w z) (h : z.ownsRow w.heap.size 114 3 (.slice (some ⟨g, 0, none⟩) (l.length + 1) cc) (l.length + 1) (flatNB (l ++ [⟨tl, tw, tt⟩])))
    (hg : w.heap.size ≤ g) (hk : k + 1 ≤ cd.length) (hl : (l ++ [(⟨tl, tw, true⟩ : NB)]).length ≤ 8) (hrun : nestRun cd 0 [] = nestRun (cd.drop (k + 1)) (k + 1) (l ++ [⟨tl, tw, true⟩])) :
    NestAt w cd (k + 1) (l ++ [⟨tl, tw, true⟩]) (.slice (some ⟨g, 0, none⟩) (l.length + 1) cc) (z.setCell ⟨g, l.length * 3 + 2, none⟩ (.bool true)) := by
  refine ⟨hk, ?_, hb.setCell hg _, hl, hrun⟩
  have := (h.stored (l.length * 3 + 2) (.bool true)).1
  rw [List.length_append, List.length_singleton, flatNB_snoc]
  rw [flatNB_snoc] at this
  have e : (flatNB l ++ [Value.bool tl, .bool tw, .bool tt]).set (l.length * 3 + 2) (.bool true) = flatNB l ++ [.bool tl, .bool tw, .bool true] := by
    rw [List.set_append_right _ _ (by rw [flatNB_length]; omega), flatNB_length, show l.length * 3 + 2 - l.length * 3 = 2 by omega]
    rfl
  simp only at this ⊢
  rw [e] at this
  exact this

set_option maxRecDepth 100000 in
set_option maxHeartbeats 1000000 in
theorem nested_any (a : Option Addr) (cap : Nat) (cd : List RI) (w : World) (hrow : RowB w.heap.size w 5 a cd.length fun i j => (cd.getD i default).cell j) (hmax : cd.length ≤ 16384) :
    Calls Try.prog 47 #[.slice a cd.length cap] w fun e w' => e = .returned (.tuple #[.int .i64 (nestRun cd 0 []).1, .bool (nestRun cd 0 []).2]) ∧ Below w.heap.size w w' := by
  have HR := Lib.hid hrow
  clear hrow
  go_enter Try.func47, Try.ntmps47
  go_wp2_with fail
  go_loopw [4, 13] (fun v i wr => NestRel w cd v i wr) (fun _ i _ => cd.length - (intOf i).toNat)
  case atStart => exact NestAt.rel (k := 0) (o := []) ⟨Nat.zero_le _, World.ownsRow_nil _ _ _ _, Below.refl _ _, by simp, by simp⟩
  case round =>
    obtain ⟨k, o, va, vc, rfl, rfl, NA⟩ := hrel
    have hkl := NA.le
    by_cases hk : k < cd.length
    · obtain ⟨b, off, rfl, hb, hc⟩ := HR.out k hk
      have hk' := nat_cast_ltQ hk
      have hbw : b < wr.heap.size := Nat.lt_of_lt_of_le hb NA.bel.size
      have hc2 : ∀ j, j < 5 → wr.cell? ⟨b, off + k * 5 + j, none⟩ = some ((cd.getD k default).cell j) := fun j hj => by rw [NA.bel.cell (p := ⟨b, off + k * 5 + j, none⟩) hb]; exact hc j hj
      have hnext := nest_next cd k hk o
      have hbad := nest_bad cd k hk o
      generalize hi : cd.getD k default = i at hc2 hnext hbad
      obtain ⟨op, to, ra, rb, arg⟩ := i
      have k0 : wr.cell? ⟨b, off + k * 5, none⟩ = some (.int .i64 op) := hc2 0 (by omega)
      have k1 : wr.cell? ⟨b, off + k * 5 + 1, none⟩ = some (.int .i64 to) := hc2 1 (by omega)
      have k2 : wr.cell? ⟨b, off + k * 5 + 1 + 1, none⟩ = some (.int .i64 ra) := hc2 2 (by omega)
      have k3 : wr.cell? ⟨b, off + k * 5 + 1 + 1 + 1, none⟩ = some (.int .i64 rb) := hc2 3 (by omega)
      have k4 : wr.cell? ⟨b, off + k * 5 + 1 + 1 + 1 + 1, none⟩ = some (.int .u32 arg) := hc2 4 (by omega)
      clear hc2 hi hc
      rcases nil_or_snoc o with rfl | ⟨l, ⟨tl, tw, tt⟩, rfl⟩
      · have OWN := Lib.hid ((NA.own.alloc (.cells #[.int .i64 op, .int .i64 to, .int .i64 ra, .int .i64 rb, .int .u32 arg] 61)).alloc (.cells #[.bool false, .bool false, .bool false] 114))
        have BEL2 : Below w.heap.size w ((wr.alloc (.cells #[.int .i64 op, .int .i64 to, .int .i64 ra, .int .i64 rb, .int .u32 arg] 61)).alloc (.cells #[.bool false, .bool false, .bool false] 114)) := (NA.bel.alloc NA.bel.size _).alloc (by have := NA.bel.size; simp; omega) _
        have HRUN := Lib.hid NA.run
        have HNEXT := Lib.hid hnext
        have HBAD := Lib.hid hbad
        clear NA hnext hbad
        by_cases o27 : op = 27
        · subst o27
          have HN := Lib.hid (HNEXT.out ([] ++ [⟨false, false, false⟩]) (by simp [nestStep, nbTop]))
          go_wp2_with (at_builtin; refine wpList_app1 Try.elNB rfl _ _ rfl w.heap.size (.slice va 0 vc) 0 [] rfl (OWN.out.alloc _) (wr.heap.size + 1 + 1) [.bool false, .bool false, .bool false] (0, 0) rfl (heap_new3 wr _ _ _) rfl (by simp [Value.oneCell']) (by omega) (by have := BEL2.size; simp at this ⊢; omega) ?_)
          intro g' c' w' hown' hgrow hat hlt
          have NX := Lib.hid (nest_push (o := []) (by simp) BEL2 (OWN.out.alloc _) hown' hgrow (by omega) (by first | (simp; done) | (simp; omega)) (HRUN.out.trans HN.out))
          clear hown' hgrow hat hlt
          go_wp2
          go_roundw
          case rel => exact NestAt.rel' (by simp) NX.out
          case measure => simp [intOf]; omega
        by_cases o29 : op = 29
        · subst o29
          have HN := Lib.hid (HNEXT.out ([] ++ [⟨true, true, false⟩]) (by simp [nestStep, nbTop]))
          go_wp2_with (at_builtin; refine wpList_app1 Try.elNB rfl _ _ rfl w.heap.size (.slice va 0 vc) 0 [] rfl (OWN.out.alloc _) (wr.heap.size + 1 + 1) [.bool true, .bool true, .bool false] (0, 0) rfl (heap_new3 wr _ _ _) rfl (by simp [Value.oneCell']) (by omega) (by have := BEL2.size; simp at this ⊢; omega) ?_)
          intro g' c' w' hown' hgrow hat hlt
          have NX := Lib.hid (nest_push (o := []) (by simp) BEL2 (OWN.out.alloc _) hown' hgrow (by omega) (by first | (simp; done) | (simp; omega)) (HRUN.out.trans HN.out))
          clear hown' hgrow hat hlt
          go_wp2
          go_roundw
          case rel => exact NestAt.rel' (by simp) NX.out
          case measure => simp [intOf]; omega
        by_cases o28 : op = 28
        · subst o28
          go_wp2
          go_ret2
          refine ⟨?_, BEL2⟩
          rw [HRUN.out, HBAD.out (by simp [nestStep, nbTop])]; rfl
        by_cases o30 : op = 30
        · subst o30
          go_wp2
          go_ret2
          refine ⟨?_, BEL2⟩
          rw [HRUN.out, HBAD.out (by simp [nestStep, nbTop])]; rfl
        by_cases o31 : op = 31
        · subst o31
          go_wp2
          go_ret2
          refine ⟨?_, BEL2⟩
          rw [HRUN.out, HBAD.out (by simp [nestStep, nbTop])]; rfl
        have q27 : (op == 27) = false := by simpa using o27
        have q29 : (op == 29) = false := by simpa using o29
        have q28 : (op == 28) = false := by simpa using o28
        have q30 : (op == 30) = false := by simpa using o30
        have q31 : (op == 31) = false := by simpa using o31
        have HN := Lib.hid (HNEXT.out [] (by simp [nestStep, nbTop, o27, o29, o28, o30, o31]))
        go_wp2
        go_roundw
        case rel => exact NestAt.rel' (k := k + 1) (o := []) (by simp) ⟨by omega, OWN.out, BEL2, by simp, HRUN.out.trans HN.out⟩
        case measure => simp [intOf]; omega
      · obtain ⟨g, cc, hv, hcap, hg0, hgl, htc, hfz⟩ := NA.top
        simp only [Value.slice.injEq] at hv
        obtain ⟨rfl, hv2, rfl⟩ := hv
        have hlb : l.length + 1 ≤ 8 := by have := NA.len; simpa using this
        have t0 : wr.cell? ⟨g, l.length * 3, none⟩ = some (.bool tl) := htc 0 (by omega)
        have t1 : wr.cell? ⟨g, l.length * 3 + 1, none⟩ = some (.bool tw) := htc 1 (by omega)
        have t2 : wr.cell? ⟨g, l.length * 3 + 1 + 1, none⟩ = some (.bool tt) := htc 2 (by omega)
        have t2' : wr.cell? ⟨g, l.length * 3 + 2, none⟩ = some (.bool tt) := htc 2 (by omega)
        have HZ := Lib.hid hfz
        have hown := NA.own
        rw [List.length_append, List.length_singleton] at hown ⊢
        have OWN := Lib.hid ((hown.alloc (.cells #[.int .i64 op, .int .i64 to, .int .i64 ra, .int .i64 rb, .int .u32 arg] 61)).alloc (.cells #[.bool tl, .bool tw, .bool tt] 114))
        have BEL2 : Below w.heap.size w ((wr.alloc (.cells #[.int .i64 op, .int .i64 to, .int .i64 ra, .int .i64 rb, .int .u32 arg] 61)).alloc (.cells #[.bool tl, .bool tw, .bool tt] 114)) := (NA.bel.alloc NA.bel.size _).alloc (by have := NA.bel.size; simp; omega) _
        have OWN0 := Lib.hid hown
        have BEL0 := Lib.hid NA.bel
        have hcapI : (l.length : Int) ≤ (vc : Int) ∧ ¬ vc = 0 := by omega
        have HRUN := Lib.hid NA.run
        have HNEXT := Lib.hid hnext
        have HBAD := Lib.hid hbad
        clear NA hnext hbad htc hv2 hfz hown
        by_cases o27 : op = 27
        · subst o27
          by_cases h8 : l.length + 1 < 8
          · have h8' : ((l.length : Int) + 1 < 8) := by omega
            have HN := Lib.hid (HNEXT.out ((l ++ [⟨tl, tw, tt⟩]) ++ [⟨false, tw, false⟩]) (by simp [nestStep, nbTop, h8]))
            go_wp2_with (at_builtin; refine wpList_app1 Try.elNB rfl _ _ rfl w.heap.size (.slice (some ⟨g, 0, none⟩) (l.length + 1) vc) (l.length + 1) _ rfl (OWN.out.alloc _) (wr.heap.size + 1 + 1) [.bool false, .bool tw, .bool false] (0, 0) rfl (heap_new3 wr _ _ _) rfl (by simp [Value.oneCell']) (by omega) (by have := BEL2.size; simp at this ⊢; omega) ?_)
            intro g' c' w' hown' hgrow hat hlt
            have NX := Lib.hid (nest_push (o := l ++ [⟨tl, tw, tt⟩]) (by simp) BEL2 (OWN.out.alloc _) hown' hgrow (by omega) (by first | (simp; done) | (simp; omega)) (HRUN.out.trans HN.out))
            clear hown' hgrow hat hlt
            go_wp2
            go_roundw
            case rel => exact NestAt.rel' (by simp) NX.out
            case measure => simp [intOf]; omega
          · have h8' : ¬ ((l.length : Int) + 1 < 8) := by omega
            go_wp2_with (at_builtin; refine wpList_app1 Try.elNB rfl _ _ rfl w.heap.size (.slice (some ⟨g, 0, none⟩) (l.length + 1) vc) (l.length + 1) _ rfl (OWN.out.alloc _) (wr.heap.size + 1 + 1) [.bool false, .bool tw, .bool false] (0, 0) rfl (heap_new3 wr _ _ _) rfl (by simp [Value.oneCell']) (by omega) (by have := BEL2.size; simp at this ⊢; omega) ?_)
            intro g' c' w' hown' hgrow hat hlt
            have BX := Lib.hid (nest_bel BEL2 (OWN.out.alloc _) hgrow)
            clear hown' hgrow hat hlt
            go_wp2
            go_ret2
            refine ⟨?_, BX.out⟩
            rw [HRUN.out, HBAD.out (by simp [nestStep, nbTop]; omega)]; rfl
        by_cases o29 : op = 29
        · subst o29
          by_cases h8 : l.length + 1 < 8
          · have h8' : ((l.length : Int) + 1 < 8) := by omega
            have HN := Lib.hid (HNEXT.out ((l ++ [⟨tl, tw, tt⟩]) ++ [⟨true, true, false⟩]) (by simp [nestStep, nbTop, h8]))
            go_wp2_with (at_builtin; refine wpList_app1 Try.elNB rfl _ _ rfl w.heap.size (.slice (some ⟨g, 0, none⟩) (l.length + 1) vc) (l.length + 1) _ rfl (OWN.out.alloc _) (wr.heap.size + 1 + 1) [.bool true, .bool true, .bool false] (0, 0) rfl (heap_new3 wr _ _ _) rfl (by simp [Value.oneCell']) (by omega) (by have := BEL2.size; simp at this ⊢; omega) ?_)
            intro g' c' w' hown' hgrow hat hlt
            have NX := Lib.hid (nest_push (o := l ++ [⟨tl, tw, tt⟩]) (by simp) BEL2 (OWN.out.alloc _) hown' hgrow (by omega) (by first | (simp; done) | (simp; omega)) (HRUN.out.trans HN.out))
            clear hown' hgrow hat hlt
            go_wp2
            go_roundw
            case rel => exact NestAt.rel' (by simp) NX.out
            case measure => simp [intOf]; omega
          · have h8' : ¬ ((l.length : Int) + 1 < 8) := by omega
            go_wp2_with (at_builtin; refine wpList_app1 Try.elNB rfl _ _ rfl w.heap.size (.slice (some ⟨g, 0, none⟩) (l.length + 1) vc) (l.length + 1) _ rfl (OWN.out.alloc _) (wr.heap.size + 1 + 1) [.bool true, .bool true, .bool false] (0, 0) rfl (heap_new3 wr _ _ _) rfl (by simp [Value.oneCell']) (by omega) (by have := BEL2.size; simp at this ⊢; omega) ?_)
            intro g' c' w' hown' hgrow hat hlt
            have BX := Lib.hid (nest_bel BEL2 (OWN.out.alloc _) hgrow)
            clear hown' hgrow hat hlt
            go_wp2
            go_ret2
            refine ⟨?_, BX.out⟩
            rw [HRUN.out, HBAD.out (by simp [nestStep, nbTop]; omega)]; rfl
        by_cases o28 : op = 28
        · subst o28
          cases tl
          · cases tt
            · have HN := Lib.hid (HNEXT.out (l ++ [⟨false, tw, true⟩]) (by simp [nestStep, nbTop]))
              have z2 := HZ.out (l.length * 3 + 2)
              go_wp2
              go_roundw
              case rel => exact NestAt.rel' (k := k + 1) (o := l ++ [⟨false, tw, true⟩]) (by simp) (((nest_other BEL0.out OWN0.out hg0 (by omega) (by simp; omega) (HRUN.out.trans HN.out)).alloc _).alloc _)
              case measure => simp [intOf]; omega
            · go_wp2
              go_ret2
              refine ⟨?_, BEL2⟩
              rw [HRUN.out, HBAD.out (by simp [nestStep, nbTop])]; rfl
          · go_wp2
            go_ret2
            refine ⟨?_, BEL2⟩
            rw [HRUN.out, HBAD.out (by simp [nestStep, nbTop])]; rfl
        by_cases o30 : op = 30
        · subst o30
          cases tw
          · go_wp2
            go_ret2
            refine ⟨?_, BEL2⟩
            rw [HRUN.out, HBAD.out (by simp [nestStep, nbTop])]; rfl
          · have HN := Lib.hid (HNEXT.out (l ++ [⟨tl, true, tt⟩]) (by simp [nestStep, nbTop]))
            go_wp2
            go_roundw
            case rel => exact NestAt.rel' (k := k + 1) (o := l ++ [⟨tl, true, tt⟩]) (by simp) ⟨by omega, by simpa using OWN.out, BEL2, by simp; omega, HRUN.out.trans HN.out⟩
            case measure => simp [intOf]; omega
        by_cases o31 : op = 31
        · subst o31
          have HN := Lib.hid (HNEXT.out l (by simp [nestStep]))
          go_wp2
          go_roundw
          case rel => exact NestAt.rel' (k := k + 1) (o := l) (by simp) ⟨by omega, nest_pop OWN.out, BEL2, by omega, HRUN.out.trans HN.out⟩
          case measure => simp [intOf]; omega
        have q27 : (op == 27) = false := by simpa using o27
        have q29 : (op == 29) = false := by simpa using o29
        have q28 : (op == 28) = false := by simpa using o28
        have q30 : (op == 30) = false := by simpa using o30
        have q31 : (op == 31) = false := by simpa using o31
        have HN := Lib.hid (HNEXT.out (l ++ [⟨tl, tw, tt⟩]) (by simp [nestStep, o27, o29, o28, o30, o31]))
        go_wp2
        go_roundw
        case rel => exact NestAt.rel' (k := k + 1) (o := l ++ [⟨tl, tw, tt⟩]) (by simp) ⟨by omega, by simpa using OWN.out, BEL2, by simp; omega, HRUN.out.trans HN.out⟩
        case measure => simp [intOf]; omega
    · have hkk : k = cd.length := by omega
      subst hkk
      have HB := Lib.hid NA.bel
      have HRUN := Lib.hid NA.run
      clear NA
      go_wp2
      go_ret2
      refine ⟨?_, HB.out⟩
      rw [HRUN.out, nest_end]
      simp
end Go.Proofs.Ytefdnjhhaejgbaa

namespace Go.Proofs.Ytefdnjhhaejgbaa
open Go.RowKit
set_option linter.unusedVariables false

abbrev Sh := Bool × Bool × Bool × Bool
def shCells (p : Sh) : List Value := [.bool p.1, .bool p.2.1, .bool p.2.2.1, .bool p.2.2.2]
/-- a table of shapes, cell by cell -/
def tabCells : List Sh → List Value
  | [] => []
  | p :: l => .bool p.1 :: .bool p.2.1 :: .bool p.2.2.1 :: .bool p.2.2.2 :: tabCells l

theorem tabCells_length : ∀ l : List Sh, (tabCells l).length = 4 * l.length
  | [] => rfl
  | p :: l => by simp only [tabCells, List.length_cons, tabCells_length l]; omega
theorem tabCells_get : ∀ (l : List Sh) (i j : Nat), i < l.length → j < 4 → (tabCells l)[4 * i + j]? = (shCells (l.getD i (false, false, false, false)))[j]?
  | [], i, j, h, _ => by simp at h
  | p :: l, 0, j, h, hj => by
    have : j = 0 ∨ j = 1 ∨ j = 2 ∨ j = 3 := by omega
    rcases this with rfl | rfl | rfl | rfl <;> rfl
  | p :: l, i + 1, j, h, hj => by
    have e : 4 * (i + 1) + j = 4 * i + j + 4 := by omega
    rw [e]
    simp only [tabCells, List.getElem?_cons_succ, List.getD_cons_succ]
    exact tabCells_get l i j (by simpa using h) hj
theorem tabCells_set : ∀ (l : List Sh) (i : Nat) (p : Sh), i < l.length → ((((tabCells l).set (4 * i) (.bool p.1)).set (4 * i + 1) (.bool p.2.1)).set (4 * i + 2) (.bool p.2.2.1)).set (4 * i + 3) (.bool p.2.2.2) = tabCells (l.set i p)
  | [], i, p, h => by simp at h
  | q :: l, 0, p, h => rfl
  | q :: l, i + 1, p, h => by
    have e : 4 * (i + 1) = 4 * i + 4 := by omega
    have e1 : 4 * i + 4 + 1 = (4 * i + 1) + 4 := by omega
    have e2 : 4 * i + 4 + 2 = (4 * i + 2) + 4 := by omega
    have e3 : 4 * i + 4 + 3 = (4 * i + 3) + 4 := by omega
    rw [e, e1, e2, e3]
    simp only [tabCells, List.set_cons_succ]
    rw [tabCells_set l i p (by simpa using h)]

def sets (p : Sh) : List Nat → List Sh → List Sh
  | [], l => l
  | i :: is, l => sets p is (l.set i p)
theorem sets_length (p : Sh) : ∀ (is : List Nat) (l : List Sh), (sets p is l).length = l.length
  | [], l => rfl
  | i :: is, l => by simp only [sets, sets_length p is, List.length_set]
theorem sets_snoc (p : Sh) (i : Nat) : ∀ (is : List Nat) (l : List Sh), sets p (is ++ [i]) l = (sets p is l).set i p
  | [], l => rfl
  | j :: is, l => by simp only [List.cons_append, sets, sets_snoc p i is]

def tb0 : List Sh := List.replicate 39 (false, false, false, false)
def lt1 : List Nat := [8, 9, 10, 11, 12, 13, 14, 15, 16, 17, 18, 19, 20, 21, 22, 23, 24, 25]
def lt2 : List Nat := [0, 32, 33, 38]
def lt3 : List Nat := [3, 23, 26, 36]
def lt4 : List Nat := [27, 30, 29, 34, 35, 37]
def lt5 : List Nat := [28, 31]
def tb1 : List Sh := sets (true, true, true, true) lt1 tb0
def tb2 : List Sh := sets (true, true, false, false) lt2 tb1
def tb3 : List Sh := sets (true, true, true, false) lt3 tb2
def tb4 : List Sh := sets (true, false, true, false) lt4 tb3
def tb5 : List Sh := sets (true, false, false, false) lt5 tb4
def tb6 : List Sh := tb5.set 4 (true, false, true, true)
theorem tb6_get : ∀ op : Fin 39, tb6.getD op.1 (false, false, false, false) = (isOp op.1, usesTo op.1, usesA op.1, usesB op.1) := by decide

/-- behind a store into the table -/
theorem Blk.tab {w : World} {b : Nat} {l : List Sh} {t : TypeId} (h : Blk w b (tabCells l) t) {i : Nat} (hi : i < l.length) (p0 p1 p2 p3 : Bool) :
    Blk ((((w.setCell ⟨b, i * 4, none⟩ (.bool p0)).setCell ⟨b, i * 4 + 1, none⟩ (.bool p1)).setCell ⟨b, i * 4 + 2, none⟩ (.bool p2)).setCell ⟨b, i * 4 + 3, none⟩ (.bool p3)) b (tabCells (l.set i (p0, p1, p2, p3))) t := by
  have := (((h.set (4 * i) (.bool p0)).set (4 * i + 1) (.bool p1)).set (4 * i + 2) (.bool p2)).set (4 * i + 3) (.bool p3)
  rw [tabCells_set l i (p0, p1, p2, p3) hi] at this
  rw [Nat.mul_comm i 4]
  exact this

/-- the head of a round: the table is filled with p at the first k numbers of 'is' -/
structure ShAt (w : World) (j : Nat) (lits is : List Nat) (p : Sh) (l : List Sh) (k : Nat) (wr : World) : Prop where
  le : k ≤ is.length
  res : Blk wr w.heap.size (tabCells tb0) 87
  out : Blk wr (w.heap.size + 1) (tabCells (sets p (is.take k) l)) 87
  lit : lits ≠ [] → Blk wr j (lits.map fun (n : Nat) => .int .i64 (n : Int)) 3
  size : w.heap.size + 2 ≤ wr.heap.size
  bel : Below w.heap.size w wr

theorem ShAt.store {w : World} {j : Nat} {lits is : List Nat} {p : Sh} {l : List Sh} {k : Nat} {wr : World} (h : ShAt w j lits is p l k wr) (hj : lits ≠ [] → w.heap.size + 1 < j) (hl : l.length = 39) {i : Nat} (hk : k < is.length) (hi : is.getD k 0 = i) (hi2 : i < 39) {p0 p1 p2 p3 : Bool} (hp : p = (p0, p1, p2, p3)) :
    ShAt w j lits is p l (k + 1) ((((wr.setCell ⟨w.heap.size + 1, i * 4, none⟩ (.bool p0)).setCell ⟨w.heap.size + 1, i * 4 + 1, none⟩ (.bool p1)).setCell ⟨w.heap.size + 1, i * 4 + 2, none⟩ (.bool p2)).setCell ⟨w.heap.size + 1, i * 4 + 3, none⟩ (.bool p3)) := by
  subst hp
  have hx : w.heap.size ≤ w.heap.size + 1 := by omega
  have n0 : w.heap.size ≠ w.heap.size + 1 := by omega
  refine ⟨hk, ((((h.res.other n0 _).other n0 _).other n0 _).other n0 _), ?_, fun hne => ?_, by simp [World.setCell]; exact h.size, (((h.bel.setCell hx _).setCell hx _).setCell hx _).setCell hx _⟩
  · rw [List.take_succ_eq_append_getElem hk, sets_snoc]
    have : is[k] = i := by rw [← hi, List.getD_eq_getElem?_getD, List.getElem?_eq_getElem hk]; rfl
    rw [this]
    exact h.out.tab (by rw [sets_length, hl]; exact hi2) p0 p1 p2 p3
  · have nj : j ≠ w.heap.size + 1 := by have := hj hne; omega
    exact (((((h.lit hne).other nj _).other nj _).other nj _).other nj _)

theorem ShAt.cells {w : World} {j : Nat} {lits is : List Nat} {p : Sh} {l : List Sh} {k : Nat} {wr : World} (h : ShAt w j lits is p l k wr) (hl : l.length = 39) {i : Nat} (hi : i < 39) :
    ∃ v0 v1 v2 v3, wr.cell? ⟨w.heap.size + 1, i * 4, none⟩ = some v0 ∧ wr.cell? ⟨w.heap.size + 1, i * 4 + 1, none⟩ = some v1 ∧ wr.cell? ⟨w.heap.size + 1, i * 4 + 2, none⟩ = some v2 ∧ wr.cell? ⟨w.heap.size + 1, i * 4 + 3, none⟩ = some v3 := by
  have hlen : i < (sets p (is.take k) l).length := by rw [sets_length, hl]; exact hi
  have g := fun j (hj : j < 4) => tabCells_get _ i j hlen hj
  rw [Nat.mul_comm i 4]
  exact ⟨_, _, _, _, (h.out.cell _).trans (g 0 (by omega)), (h.out.cell _).trans (g 1 (by omega)), (h.out.cell _).trans (g 2 (by omega)), (h.out.cell _).trans (g 3 (by omega))⟩

theorem ShAt.next {w : World} {j : Nat} {lits is : List Nat} {p : Sh} {l : List Sh} {k : Nat} {wr : World} (h : ShAt w j lits is p l k wr) (hk : k = is.length) (p2 : Sh) (is2 : List Nat) (cs : Array Value) (hcs : cs = (is2.map fun (n : Nat) => Value.int .i64 (n : Int)).toArray) :
    ShAt w wr.heap.size is2 is2 p2 (sets p is l) 0 (wr.alloc (.cells cs 3)) := by
  subst hk
  have hb : Below wr.heap.size wr (wr.alloc (.cells cs 3)) := (Below.refl _ _).alloc (Nat.le_refl _) _
  refine ⟨by omega, h.res.below hb h.res.lt, ?_, fun _ => ?_, by have := h.size; simp; omega, h.bel.trans (hb.mono h.bel.size)⟩
  · have := h.out.below hb h.out.lt
    rw [List.take_length] at this
    exact this
  · rw [hcs]; exact heap_new1 _ _

def ShRel (w : World) (j : Nat) (lits is : List Nat) (p : Sh) (l : List Sh) (from_ : Nat) (i : Value) (wr : World) : Prop :=
  ∃ n : Nat, i = .int .i64 (n : Int) ∧ from_ ≤ n ∧ ShAt w j lits is p l (n - from_) wr

theorem lt1_get : ∀ k, k < 18 → lt1.getD k 0 = 8 + k := by decide

theorem setRow_same {w : World} {g : Nat} {old : List Value} {t : TypeId} (h : Blk w g old t) {cs : Array Value} : (w.setRow g cs).heap[g]? = some (.cells cs t (0, 0)) := by
  unfold Blk at h
  simp [World.setRow, Array.getElem?_modify, h]
theorem below_setRow {w w' : World} (h : Below w.heap.size w w') (cs : Array Value) : Below w.heap.size w (w'.setRow w.heap.size cs) :=
  ⟨h.os, h.tape, h.output, by simp [World.setRow]; exact h.size, fun k hk => by
    rw [← h.block k hk]
    simp only [World.setRow, Array.getElem?_modify]
    rw [if_neg (by omega)]⟩

set_option maxRecDepth 100000 in
set_option maxHeartbeats 1000000 in
theorem shapes_any (w : World) : Calls Try.prog 45 #[] w fun e w' => e = .returned (.agg (tabCells tb6).toArray) ∧ Below w.heap.size w w' := by
  have z87 : Try.zeroCells87 = (tabCells tb0).toArray := by kernel_rfl
  have st1 : ∀ wr, wr = (w.alloc (.cells Try.zeroCells87 87)).alloc (.cells Try.zeroCells87 87) → ShRel w 0 [] lt1 (true, true, true, true) tb0 8 (.int .i64 8) wr := by
    rintro wr rfl
    rw [z87]
    exact ⟨8, rfl, by omega, by omega, by unfold Blk; rw [Below.heap_alloc _ _ _ (by simp)]; exact heap_new1 _ _, heap_new2 _ _ _, fun h => absurd rfl h, by simp, ((Below.refl _ _).alloc (by simp) _).alloc (by simp) _⟩
  have H1 := Lib.hid st1
  clear st1 z87
  go_enter Try.func45, Try.ntmps45
  go_wp2_with fail
  go_loopw [2] (fun i wr => ShRel w 0 [] lt1 (true, true, true, true) tb0 8 i wr) (fun i _ => 26 - (intOf i).toNat)
  case atStart => exact H1.out _ rfl
  case round =>
    clear H1
    obtain ⟨n, rfl, hn8, SA⟩ := hrel
    have hk : n - 8 ≤ 18 := SA.le
    by_cases hlt : n < 26
    · have S2 := SA.store (fun h => absurd rfl h) rfl (show n - 8 < 18 by omega) (show lt1.getD (n - 8) 0 = n by rw [lt1_get _ (by omega)]; omega) (by omega) (p0 := true) (p1 := true) (p2 := true) (p3 := true) rfl
      obtain ⟨v0, v1, v2, v3, q0, q1, q2, q3⟩ := SA.cells rfl (show n < 39 by omega)
      have z0 := SA.out.frozen (n * 4)
      have z1 := SA.out.frozen (n * 4 + 1)
      have z2 := SA.out.frozen (n * 4 + 2)
      have z3 := SA.out.frozen (n * 4 + 3)
      have HS := Lib.hid S2
      have hnn : (0 : Int) ≤ n ∧ (n : Int) < 39 ∧ (n : Int) ≤ 25 := by omega
      clear S2 SA
      go_wp2
      go_roundw
      case rel => exact ⟨n + 1, by simp, by omega, by have := HS.out; rw [show n - 8 + 1 = n + 1 - 8 by omega] at this; exact this⟩
      case measure => simp [intOf]; omega
    · have SN := (SA.next (by show n - 8 = _; simp [lt1]; omega) (true, true, false, false) lt2 #[.int .i64 0, .int .i64 32, .int .i64 33, .int .i64 38] rfl)
      have hwz := SA.size
      have HN := Lib.hid SN
      clear SN SA
      obtain ⟨w20, hw20⟩ : ∃ z : World, z = wr := ⟨wr, rfl⟩
      subst hw20
      go_wp2
      go_loopw [20] (fun i wr => ShRel w w20.heap.size lt2 lt2 (true, true, false, false) tb1 0 i wr) (fun i _ => 4 - (intOf i).toNat)
      case atStart => exact ⟨0, rfl, by omega, HN.out⟩
      case round =>
        clear HN
        obtain ⟨n, rfl, _, SA⟩ := hrel
        have hk : n - 0 ≤ 4 := SA.le
        by_cases hlt : n < 4
        · obtain ⟨m, hm⟩ : ∃ m, lt2.getD n 0 = m := ⟨_, rfl⟩
          have hm39 : m < 39 := by rw [← hm]; exact (show ∀ n, n < 4 → lt2.getD n 0 < 39 by decide) n hlt
          have S2 := SA.store (fun _ => by omega) rfl (show n - 0 < 4 by omega) hm hm39 (p0 := true) (p1 := true) (p2 := false) (p3 := false) rfl
          obtain ⟨v0, v1, v2, v3, q0, q1, q2, q3⟩ := SA.cells rfl hm39
          have ql : wr.cell? ⟨w20.heap.size, n, none⟩ = some (.int .i64 (m : Int)) := by
            rw [(SA.lit (by simp [lt2])).cell, List.getElem?_map, ← hm, List.getD_eq_getElem?_getD, List.getElem?_eq_getElem (show n < lt2.length from hlt)]; rfl
          have z0 := SA.out.frozen (m * 4)
          have z1 := SA.out.frozen (m * 4 + 1)
          have z2 := SA.out.frozen (m * 4 + 2)
          have z3 := SA.out.frozen (m * 4 + 3)
          have HS := Lib.hid S2
          have hnn : (0 : Int) ≤ n ∧ (n : Int) < 4 := by omega
          have hmm : (0 : Int) ≤ m ∧ (m : Int) < 39 := by omega
          clear S2 SA hm
          go_wp2
          go_roundw
          case rel => exact ⟨n + 1, by simp, by omega, HS.out⟩
          case measure => simp [intOf]; omega
        · have SN := (SA.next (by show n - 0 = _; simp [lt2]; omega) (true, true, true, false) lt3 #[.int .i64 3, .int .i64 23, .int .i64 26, .int .i64 36] rfl)
          have hwz := SA.size
          have HN := Lib.hid SN
          clear SN SA
          obtain ⟨w30, hw30⟩ : ∃ z : World, z = wr := ⟨wr, rfl⟩
          subst hw30
          go_wp2
          go_loopw [30] (fun i wr => ShRel w w30.heap.size lt3 lt3 (true, true, true, false) tb2 0 i wr) (fun i _ => 4 - (intOf i).toNat)
          case atStart => exact ⟨0, rfl, by omega, HN.out⟩
          case round =>
            clear HN
            obtain ⟨n, rfl, _, SA⟩ := hrel
            have hk : n - 0 ≤ 4 := SA.le
            by_cases hlt : n < 4
            · obtain ⟨m, hm⟩ : ∃ m, lt3.getD n 0 = m := ⟨_, rfl⟩
              have hm39 : m < 39 := by rw [← hm]; exact (show ∀ n, n < 4 → lt3.getD n 0 < 39 by decide) n hlt
              have S2 := SA.store (fun _ => by omega) rfl (show n - 0 < 4 by omega) hm hm39 (p0 := true) (p1 := true) (p2 := true) (p3 := false) rfl
              obtain ⟨v0, v1, v2, v3, q0, q1, q2, q3⟩ := SA.cells rfl hm39
              have ql : wr.cell? ⟨w30.heap.size, n, none⟩ = some (.int .i64 (m : Int)) := by
                rw [(SA.lit (by simp [lt3])).cell, List.getElem?_map, ← hm, List.getD_eq_getElem?_getD, List.getElem?_eq_getElem (show n < lt3.length from hlt)]; rfl
              have z0 := SA.out.frozen (m * 4)
              have z1 := SA.out.frozen (m * 4 + 1)
              have z2 := SA.out.frozen (m * 4 + 2)
              have z3 := SA.out.frozen (m * 4 + 3)
              have HS := Lib.hid S2
              have hnn : (0 : Int) ≤ n ∧ (n : Int) < 4 := by omega
              have hmm : (0 : Int) ≤ m ∧ (m : Int) < 39 := by omega
              clear S2 SA hm
              go_wp2
              go_roundw
              case rel => exact ⟨n + 1, by simp, by omega, HS.out⟩
              case measure => simp [intOf]; omega
            · have SN := (SA.next (by show n - 0 = _; simp [lt3]; omega) (true, false, true, false) lt4 #[.int .i64 27, .int .i64 30, .int .i64 29, .int .i64 34, .int .i64 35, .int .i64 37] rfl)
              have hwz := SA.size
              have HN := Lib.hid SN
              clear SN SA
              obtain ⟨w40, hw40⟩ : ∃ z : World, z = wr := ⟨wr, rfl⟩
              subst hw40
              go_wp2
              go_loopw [40] (fun i wr => ShRel w w40.heap.size lt4 lt4 (true, false, true, false) tb3 0 i wr) (fun i _ => 6 - (intOf i).toNat)
              case atStart => exact ⟨0, rfl, by omega, HN.out⟩
              case round =>
                clear HN
                obtain ⟨n, rfl, _, SA⟩ := hrel
                have hk : n - 0 ≤ 6 := SA.le
                by_cases hlt : n < 6
                · obtain ⟨m, hm⟩ : ∃ m, lt4.getD n 0 = m := ⟨_, rfl⟩
                  have hm39 : m < 39 := by rw [← hm]; exact (show ∀ n, n < 6 → lt4.getD n 0 < 39 by decide) n hlt
                  have S2 := SA.store (fun _ => by omega) rfl (show n - 0 < 6 by omega) hm hm39 (p0 := true) (p1 := false) (p2 := true) (p3 := false) rfl
                  obtain ⟨v0, v1, v2, v3, q0, q1, q2, q3⟩ := SA.cells rfl hm39
                  have ql : wr.cell? ⟨w40.heap.size, n, none⟩ = some (.int .i64 (m : Int)) := by
                    rw [(SA.lit (by simp [lt4])).cell, List.getElem?_map, ← hm, List.getD_eq_getElem?_getD, List.getElem?_eq_getElem (show n < lt4.length from hlt)]; rfl
                  have z0 := SA.out.frozen (m * 4)
                  have z1 := SA.out.frozen (m * 4 + 1)
                  have z2 := SA.out.frozen (m * 4 + 2)
                  have z3 := SA.out.frozen (m * 4 + 3)
                  have HS := Lib.hid S2
                  have hnn : (0 : Int) ≤ n ∧ (n : Int) < 6 := by omega
                  have hmm : (0 : Int) ≤ m ∧ (m : Int) < 39 := by omega
                  clear S2 SA hm
                  go_wp2
                  go_roundw
                  case rel => exact ⟨n + 1, by simp, by omega, HS.out⟩
                  case measure => simp [intOf]; omega
                · have SN := (SA.next (by show n - 0 = _; simp [lt4]; omega) (true, false, false, false) lt5 #[.int .i64 28, .int .i64 31] rfl)
                  have hwz := SA.size
                  have HN := Lib.hid SN
                  clear SN SA
                  obtain ⟨w50, hw50⟩ : ∃ z : World, z = wr := ⟨wr, rfl⟩
                  subst hw50
                  go_wp2
                  go_loopw [50] (fun i wr => ShRel w w50.heap.size lt5 lt5 (true, false, false, false) tb4 0 i wr) (fun i _ => 2 - (intOf i).toNat)
                  case atStart => exact ⟨0, rfl, by omega, HN.out⟩
                  case round =>
                    clear HN
                    obtain ⟨n, rfl, _, SA⟩ := hrel
                    have hk : n - 0 ≤ 2 := SA.le
                    by_cases hlt : n < 2
                    · obtain ⟨m, hm⟩ : ∃ m, lt5.getD n 0 = m := ⟨_, rfl⟩
                      have hm39 : m < 39 := by rw [← hm]; exact (show ∀ n, n < 2 → lt5.getD n 0 < 39 by decide) n hlt
                      have S2 := SA.store (fun _ => by omega) rfl (show n - 0 < 2 by omega) hm hm39 (p0 := true) (p1 := false) (p2 := false) (p3 := false) rfl
                      obtain ⟨v0, v1, v2, v3, q0, q1, q2, q3⟩ := SA.cells rfl hm39
                      have ql : wr.cell? ⟨w50.heap.size, n, none⟩ = some (.int .i64 (m : Int)) := by
                        rw [(SA.lit (by simp [lt5])).cell, List.getElem?_map, ← hm, List.getD_eq_getElem?_getD, List.getElem?_eq_getElem (show n < lt5.length from hlt)]; rfl
                      have z0 := SA.out.frozen (m * 4)
                      have z1 := SA.out.frozen (m * 4 + 1)
                      have z2 := SA.out.frozen (m * 4 + 2)
                      have z3 := SA.out.frozen (m * 4 + 3)
                      have HS := Lib.hid S2
                      have hnn : (0 : Int) ≤ n ∧ (n : Int) < 2 := by omega
                      have hmm : (0 : Int) ≤ m ∧ (m : Int) < 39 := by omega
                      clear S2 SA hm
                      go_wp2
                      go_roundw
                      case rel => exact ⟨n + 1, by simp, by omega, HS.out⟩
                      case measure => simp [intOf]; omega
                    · have hb5 : Blk wr (w.heap.size + 1) (tabCells tb5) 87 := by
                        have := SA.out
                        rw [show n - 0 = lt5.length by simp [lt5]; omega, List.take_length] at this
                        exact this
                      obtain ⟨v0, v1, v2, v3, q0, q1, q2, q3⟩ := SA.cells rfl (show 4 < 39 by omega)
                      have z0 := SA.out.frozen (4 * 4)
                      have z1 := SA.out.frozen (4 * 4 + 1)
                      have z2 := SA.out.frozen (4 * 4 + 2)
                      have z3 := SA.out.frozen (4 * 4 + 3)
                      have hbl := SA.bel
                      have hres := SA.res
                      have HA := Lib.hid (And.intro hb5 (And.intro hbl hres))
                      clear SA hb5 hbl hres
                      go_upto_region 27 with (fail)
                      refine wp_gen (fun z => Blk z (w.heap.size + 1) (tabCells tb6) 87 ∧ Blk z w.heap.size (tabCells tb0) 87 ∧ Below w.heap.size w z) ?_ ?_
                      · obtain ⟨b1, b2, b3'⟩ := HA.out
                        have n0 : w.heap.size ≠ w.heap.size + 1 := by omega
                        have hx : w.heap.size ≤ w.heap.size + 1 := by omega
                        exact ⟨b1.tab (i := 4) (by decide) true false true true, ((((b3'.other n0 _).other n0 _).other n0 _).other n0 _), (((b2.setCell hx _).setCell hx _).setCell hx _).setCell hx _⟩
                      rintro z ⟨b1, b2, b3⟩
                      clear HA q0 q1 q2 q3 z0 z1 z2 z3
                      go_wp2_with (first | (refine wpList_load_row rfl _ _ rfl (w.heap.size + 1) rfl 87 (tabCells tb6).toArray (0, 0) _ b1 Try.underlying87 rfl (by kernel_rfl) ?_) | (refine wpList_store_row rfl _ _ _ rfl w.heap.size (tabCells tb6).toArray rfl rfl 87 (tabCells tb0).toArray b2 (by kernel_rfl) (by kernel_rfl) (by kernel_rfl) ?_))
                      refine bodyPost_ret (v := .agg (tabCells tb6).toArray) (results_cell_row rfl _ _ w.heap.size 87 (tabCells tb6).toArray (0, 0) _ rfl (setRow_same b2) Try.underlying87 rfl (by kernel_rfl)) rfl ⟨rfl, below_setRow b3 _⟩
end Go.Proofs.Ytefdnjhhaejgbaa

namespace Go.Proofs.Ytefdnjhhaejgbaa
open Go.RowKit

section
variable {P : Program} {ops : Array Oper} {Q : Exit → Act → World → Prop} {md : Region.Mode} {S : World → Prop}

/-- whatever order is picked from here on; behind an operation that does not come behind all floats the class holds, or nothing has turned -/
def wpMixK (P : Program) (md : Region.Mode) (ops : Array Oper) (Q : Exit → Act → World → Prop) (S : World → Prop) (pu : List Nat) : Nat → Array Bool → Act → World → Prop
  | 0, listed, a, w => Region.ready md ops listed = [] ∧ Q .normal a w
  | fuel + 1, listed, a, w =>
    (Region.ready md ops listed = [] → Q .normal a w) ∧
    ∀ i ∈ Region.ready md ops listed, wpOp P ops Q i (fun a' w' => ((pu.contains i = true ∧ w' = w) ∨ S w') ∧ wpMixK P md ops Q S pu fuel (listed.setIfInBounds i true) a' w') a w

theorem wpAny_of_mixK {pu : List Nat} : ∀ (fuel : Nat) (listed : Array Bool) (a : Act) (w : World), wpMixK P md ops Q S pu fuel listed a w → wpAny P md ops Q fuel listed a w
  | 0, _, _, _, h => h
  | fuel + 1, _, _, _, h => ⟨h.1, fun i hi => wpOp_mono (fun a' w' h' => wpAny_of_mixK fuel _ a' w' h'.2) (h.2 i hi)⟩

theorem wpMixK_first {pu : List Nat} {i : Nat} {oi : Oper} {v : Value} (hi : ops[i]? = some oi) (hsel : ∀ (j : Nat) (o : Oper) cs b, ops[j]? = some o → o.op ≠ .select cs b)
    (hQ : ∀ c a w, Q (.panic c) (a.put oi.dst v) w → Q (.panic c) a w) :
    ∀ (fuel : Nat) (listed : Array Bool) (a : Act) (w : World), 
      (∀ j oj, ops[j]? = some oj → j ≠ i → listed.getD j true = false → (∀ e ∈ oj.after, Region.binds md e = true → e.on ≠ i) → oi.apart ops oj = true) →
      i ∈ Region.ready md ops listed → YieldsIf P ops S oi v a → S w →
      wpMixK P md ops Q S pu fuel (listed.setIfInBounds i true) (a.put oi.dst v) w → wpMixK P md ops Q S pu (fuel + 1) listed a w := by
  intro fuel
  induction fuel with
  | zero =>
    intro listed a w _ hr hy hS H
    refine ⟨fun h => (by rw [h] at hr; cases hr), fun j hj => ?_⟩
    by_cases hji : j = i
    · subst hji; exact hy.wpOp hi hS ⟨.inr hS, H⟩
    · have := ready_mono hj hji
      rw [H.1] at this
      cases this
  | succ fuel ih =>
    intro listed a w hfree hr hy hS H
    refine ⟨fun h => (by rw [h] at hr; cases hr), fun j hj => ?_⟩
    by_cases hji : j = i
    · subst hji; exact hy.wpOp hi hS ⟨.inr hS, H⟩
    · have h1 := H.2 j (ready_mono hj hji)
      obtain ⟨hjun, oj, hoj, hall⟩ := mem_ready.1 hj
      have hiun : listed.getD i false = false := getD_both (mem_ready.1 hr).1
      have hnot : ∀ e ∈ oj.after, Region.binds md e = true → e.on ≠ i := fun e he hb heq => by
        have h1 := hall e he hb
        rw [heq, hiun] at h1
        cases h1
      have h2 := wpOp_putIf hoj (hfree j oj hoj hji hjun hnot) (fun cs b => hsel i oi cs b hi) (fun cs b => hsel j oj cs b hoj) hQ hy h1
      have hfree' : ∀ k ok, ops[k]? = some ok → k ≠ i → (listed.setIfInBounds j true).getD k true = false →
          (∀ e ∈ ok.after, Region.binds md e = true → e.on ≠ i) → oi.apart ops ok = true := fun k ok hk hki hun hno => by
        refine hfree k ok hk hki ?_ hno
        by_cases hjk : j = k
        · subst hjk; exact hjun
        · rw [getD_set_ne true hjk] at hun; exact hun
      refine wpOp_mono (fun a' w' h3 => ⟨h3.2.1, ih (listed.setIfInBounds j true) a' w' hfree' (ready_mono hr (Ne.symm hji)) h3.1 ?_ ?_⟩) h2
      · rcases h3.2.1 with ⟨_, hw⟩ | hw
        · rw [hw]; exact hS
        · exact hw
      · rw [Array.setIfInBounds_comm _ _ hji]
        exact h3.2.2

/-- a float that looks at no world at all -/
theorem wpMixK_first_pure {pu : List Nat} {i : Nat} {oi : Oper} {v : Value} (hi : ops[i]? = some oi) (hpu : pu.contains i = true) (hsel : ∀ (j : Nat) (o : Oper) cs b, ops[j]? = some o → o.op ≠ .select cs b)
    (hQ : ∀ c a w, Q (.panic c) (a.put oi.dst v) w → Q (.panic c) a w) :
    ∀ (fuel : Nat) (listed : Array Bool) (a : Act) (w : World),
      (∀ j oj, ops[j]? = some oj → j ≠ i → listed.getD j true = false → (∀ e ∈ oj.after, Region.binds md e = true → e.on ≠ i) → oi.apart ops oj = true) →
      i ∈ Region.ready md ops listed → YieldsIf P ops (fun _ => True) oi v a →
      wpMixK P md ops Q S pu fuel (listed.setIfInBounds i true) (a.put oi.dst v) w → wpMixK P md ops Q S pu (fuel + 1) listed a w := by
  intro fuel
  induction fuel with
  | zero =>
    intro listed a w _ hr hy H
    refine ⟨fun h => (by rw [h] at hr; cases hr), fun j hj => ?_⟩
    by_cases hji : j = i
    · subst hji; exact hy.wpOp hi trivial ⟨.inl ⟨hpu, rfl⟩, H⟩
    · have := ready_mono hj hji
      rw [H.1] at this
      cases this
  | succ fuel ih =>
    intro listed a w hfree hr hy H
    refine ⟨fun h => (by rw [h] at hr; cases hr), fun j hj => ?_⟩
    by_cases hji : j = i
    · subst hji; exact hy.wpOp hi trivial ⟨.inl ⟨hpu, rfl⟩, H⟩
    · have h1 := H.2 j (ready_mono hj hji)
      obtain ⟨hjun, oj, hoj, hall⟩ := mem_ready.1 hj
      have hiun : listed.getD i false = false := getD_both (mem_ready.1 hr).1
      have hnot : ∀ e ∈ oj.after, Region.binds md e = true → e.on ≠ i := fun e he hb heq => by
        have h1 := hall e he hb
        rw [heq, hiun] at h1
        cases h1
      have h2 := wpOp_putIf hoj (hfree j oj hoj hji hjun hnot) (fun cs b => hsel i oi cs b hi) (fun cs b => hsel j oj cs b hoj) hQ hy h1
      have hfree' : ∀ k ok, ops[k]? = some ok → k ≠ i → (listed.setIfInBounds j true).getD k true = false →
          (∀ e ∈ ok.after, Region.binds md e = true → e.on ≠ i) → oi.apart ops ok = true := fun k ok hk hki hun hno => by
        refine hfree k ok hk hki ?_ hno
        by_cases hjk : j = k
        · subst hjk; exact hjun
        · rw [getD_set_ne true hjk] at hun; exact hun
      refine wpOp_mono (fun a' w' h3 => ⟨h3.2.1, ih (listed.setIfInBounds j true) a' w' hfree' (ready_mono hr (Ne.symm hji)) h3.1 ?_⟩) h2
      rw [Array.setIfInBounds_comm _ _ hji]
      exact h3.2.2


/-- the plan: 0: carried out, and the class holds behind it; 1: a float; 2: a float that looks at no world -/
def wpPlanK (P : Program) (ops : Array Oper) (Q : Exit → Act → World → Prop) (S : World → Prop) : List (Nat × Nat × Oper) → Act → World → Prop
  | [], a, w => Q .normal a w
  | (0, _, o) :: rest, a, w => wpList P ops (Exit.then (fun a' w' => S w' ∧ wpPlanK P ops Q S rest a' w') Q) [o] a w
  | (1, _, o) :: rest, a, w => if Region.wanted o (yielded ops a.tmps) then floatOp P o a S (fun a' => wpPlanK P ops Q S rest a' w) else wpPlanK P ops Q S rest (a.put o.dst undef) w
  | (_ + 2, _, o) :: rest, a, w => if Region.wanted o (yielded ops a.tmps) then pureOp P o a (fun a' => wpPlanK P ops Q S rest a' w) else wpPlanK P ops Q S rest (a.put o.dst undef) w

def planKB (md : Region.Mode) (ops : Array Oper) (pu : List Nat) : List (Nat × Nat) → Array Bool → Bool
  | [], listed => (Region.ready md ops listed).isEmpty
  | (0, j) :: rest, listed => decide (Region.ready md ops listed = [j]) && planKB md ops pu rest (listed.setIfInBounds j true)
  | (1, i) :: rest, listed => (Region.ready md ops listed).contains i && Region.free md ops listed i && planKB md ops pu rest (listed.setIfInBounds i true)
  | (_ + 2, i) :: rest, listed => (Region.ready md ops listed).contains i && Region.free md ops listed i && pu.contains i && planKB md ops pu rest (listed.setIfInBounds i true)

def mixKB (md : Region.Mode) (ops : Array Oper) (pu : List Nat) (l : List (Nat × Nat)) : Bool :=
  Region.noSelect ops && decide (l.length = ops.size) && l.all (fun i => decide (i.2 < ops.size)) && planKB md ops pu l (Array.replicate ops.size false)

theorem wpMixK_of_plan {pu : List Nat} (hsel : Region.noSelect ops = true) (hQ : ∀ c (a : Act) d v w, Q (.panic c) (a.put d v) w → Q (.panic c) a w) : ∀ (l : List (Nat × Nat)) (listed : Array Bool) (a : Act) (w : World),
    (∀ j ∈ l, j.2 < ops.size) → planKB md ops pu l listed = true → S w →
    wpPlanK P ops Q S (getPlan ops l) a w → wpMixK P md ops Q S pu l.length listed a w
  | [], _, _, _, _, hB, _, h => ⟨by simpa [planKB] using hB, h⟩
  | (1, i) :: l, listed, a, w, hlt, hB, hS, h => by
    simp only [planKB, Bool.and_eq_true] at hB
    obtain ⟨⟨hr, hf⟩, hB'⟩ := hB
    have hi : ops[i]? = some ops[i]! := by
      have := hlt (1, i) (by simp)
      simp at this
      simp [this]
    have hg : getPlan ops ((1, i) :: l) = (1, i, ops[i]!) :: getPlan ops l := by simp only [getPlan, List.filterMap_cons, hi]; rfl
    rw [hg] at h
    have hr' : i ∈ Region.ready md ops listed := by simpa using hr
    have next : ∀ a', wpPlanK P ops Q S (getPlan ops l) a' w → wpMixK P md ops Q S pu l.length (listed.setIfInBounds i true) a' w := fun a' ha' =>
      wpMixK_of_plan hsel hQ l _ a' w (fun k hk => hlt k (by simp [hk])) hB' hS ha'
    simp only [List.length_cons]
    unfold wpPlanK at h
    split at h
    · rename_i hw
      obtain ⟨v, h1, h2⟩ := h
      exact wpMixK_first hi (Region.noSelect_spec hsel) (fun c a w => hQ c a _ v w) _ listed a w (Region.free_spec hi hf) hr' (.inl ⟨hw, h1⟩) hS (next _ h2)
    · rename_i hw
      exact wpMixK_first hi (Region.noSelect_spec hsel) (fun c a w => hQ c a _ undef w) _ listed a w (Region.free_spec hi hf) hr' (.inr ⟨by simpa using hw, rfl⟩) hS (next _ h)
  | (k + 2, i) :: l, listed, a, w, hlt, hB, hS, h => by
    simp only [planKB, Bool.and_eq_true] at hB
    obtain ⟨⟨⟨hr, hf⟩, hpu⟩, hB'⟩ := hB
    have hi : ops[i]? = some ops[i]! := by
      have := hlt (k + 2, i) (by simp)
      simp at this
      simp [this]
    have hg : getPlan ops ((k + 2, i) :: l) = (k + 2, i, ops[i]!) :: getPlan ops l := by simp only [getPlan, List.filterMap_cons, hi]; rfl
    rw [hg] at h
    have hr' : i ∈ Region.ready md ops listed := by simpa using hr
    have next : ∀ a', wpPlanK P ops Q S (getPlan ops l) a' w → wpMixK P md ops Q S pu l.length (listed.setIfInBounds i true) a' w := fun a' ha' =>
      wpMixK_of_plan hsel hQ l _ a' w (fun k hk => hlt k (by simp [hk])) hB' hS ha'
    simp only [List.length_cons]
    unfold wpPlanK at h
    split at h
    · rename_i hw
      obtain ⟨v, h1, h2⟩ := h
      exact wpMixK_first_pure hi hpu (Region.noSelect_spec hsel) (fun c a w => hQ c a _ v w) _ listed a w (Region.free_spec hi hf) hr' (.inl ⟨hw, fun w _ => h1 w⟩) (next _ h2)
    · rename_i hw
      exact wpMixK_first_pure hi hpu (Region.noSelect_spec hsel) (fun c a w => hQ c a _ undef w) _ listed a w (Region.free_spec hi hf) hr' (.inr ⟨by simpa using hw, rfl⟩) (next _ h)
  | (0, j) :: l, listed, a, w, hlt, hB, hS, h => by
    simp only [planKB, Bool.and_eq_true, decide_eq_true_eq] at hB
    obtain ⟨hr, hB'⟩ := hB
    have hj : ops[j]? = some ops[j]! := by
      have := hlt (0, j) (by simp)
      simp at this
      simp [this]
    have hg : getPlan ops ((0, j) :: l) = (0, j, ops[j]!) :: getPlan ops l := by simp only [getPlan, List.filterMap_cons, hj]; rfl
    rw [hg] at h
    refine ⟨fun h0 => (by rw [hr] at h0; cases h0), fun i hi => ?_⟩
    rw [hr] at hi
    have hij : i = j := by simpa using hi
    subst hij
    refine wpOp_of_one hj ?_
    unfold wpPlanK at h
    refine wpList_one_mono (fun a' w' hx => ⟨.inr hx.1, wpMixK_of_plan hsel hQ l _ a' w' (fun k hk => hlt k (by simp [hk])) hB' hx.1 hx.2⟩) (fun e a' w' hne hx => ?_) h
    cases e <;> first | exact absurd rfl hne | exact hx

/-- **THE REGION**: its operations in the order of the plan. -/
theorem wp_region_keeps {id : Nat} {l : List Oper} {a : Act} {w : World} (pu : List Nat) (pl : List (Nat × Nat)) (hm : P.follows .mixedOrders = true) (hB : mixKB .any l.toArray pu pl = true)
    (hQ : ∀ c (a : Act) d v w, Q (.panic c) (a.put d v) w → Q (.panic c) a w)
    (h : wpPlanK P l.toArray Q (Grew w) (getPlan l.toArray pl) a w.drew) : (Code.region id l.toArray true).wp P Q a w := by
  simp only [mixKB, Bool.and_eq_true, decide_eq_true_eq] at hB
  obtain ⟨⟨⟨hsel, hlen⟩, hpl⟩, hrest⟩ := hB
  have hpl' : ∀ j ∈ pl, j.2 < l.toArray.size := fun j hj => of_decide_eq_true (List.all_eq_true.1 hpl j hj)
  refine wp_region_any hm (wpAny_of_mixK (S := Grew w) (pu := pu) _ _ _ _ ?_)
  have := wpMixK_of_plan (P := P) (md := .any) (Q := Q) (S := Grew w) (pu := pu) hsel hQ pl _ a w.drew hpl' hrest (grew_below (Below.refl _ _).drew) h
  rw [hlen] at this
  exact this

theorem wpPlanK_nil {a : Act} {w : World} (h : Q .normal a w) : wpPlanK P ops Q S [] a w := by unfold wpPlanK; exact h
theorem wpPlanK_float {i : Nat} {a : Act} {w : World} {o : Oper} {rest : List (Nat × Nat × Oper)}
    (h : ∀ K : Act → Prop, (∀ a, wpPlanK P ops Q S rest a w → K a) → if Region.wanted o (yielded ops a.tmps) then floatOp P o a S K else K (a.put o.dst undef)) : wpPlanK P ops Q S ((1, i, o) :: rest) a w := by
  have := h _ (fun _ h => h)
  unfold wpPlanK
  exact this
theorem wpPlanK_pure {i : Nat} {a : Act} {w : World} {o : Oper} {rest : List (Nat × Nat × Oper)}
    (h : ∀ K : Act → Prop, (∀ a, wpPlanK P ops Q S rest a w → K a) → if Region.wanted o (yielded ops a.tmps) then pureOp P o a K else K (a.put o.dst undef)) : wpPlanK P ops Q S ((2, i, o) :: rest) a w := by
  have := h _ (fun _ h => h)
  unfold wpPlanK
  exact this
theorem wpPlanK_keep {j : Nat} {o : Oper} {rest : List (Nat × Nat × Oper)} {a : Act} {w : World} (h : wpList P ops (Exit.then (fun a' w' => S w' ∧ wpPlanK P ops Q S rest a' w') Q) [o] a w) :
    wpPlanK P ops Q S ((0, j, o) :: rest) a w := by unfold wpPlanK; exact h
theorem wpPlanK_gen {l : List (Nat × Nat × Oper)} {a : Act} {w : World} (F : World → Prop) (hF : F w) (h : ∀ w', F w' → wpPlanK P ops Q S l a w') : wpPlanK P ops Q S l a w := h w hF
end
attribute [irreducible] wpPlanK
end Go.Proofs.Ytefdnjhhaejgbaa
