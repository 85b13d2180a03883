/- A part of the proof of OptimizerPrunes: EvQ EvR. No condition. -/
import Derived.Test.YtidhfimbnjaceaaGreatGp09
set_option linter.unusedSimpArgs false
set_option linter.unusedVariables false
set_option linter.constructorNameAsVariable false
set_option maxRecDepth 100000
set_option maxHeartbeats 4000000
namespace Go.Proofs.YtidhfimbnjaceaaGreat
open Go.RowKit
set_option linter.unusedVariables false
/-! ### temporaries -/
def envOf : List (Nat × AV) → Tr AV
 |[] => .nil
 |p :: l => Tr.set 48 (envOf l) p.1 p.2
theorem env_nil (t : Nat) : (envOf []).get t = none := id rfl
theorem env_cons {d : Nat} (h : d < 1000000) (v : AV) (l : List (Nat × AV)) (t : Nat) : (envOf ((d, v) :: l)).get t = if t = d then some v else (envOf l).get t := by
 show (Tr.set 48 (envOf l) d v).get t = _
 rw [Tr.get_set 48 _ _ _ _ (by omega)]
theorem env_put (l : List (Nat × AV)) (d : Nat) (v : AV) : putA (envOf l) (some d) v = envOf ((d, v) :: l) := rfl
theorem env_put0 (e : Tr AV) (v : AV) : putA e none v = e := id rfl
def argE : Nat → List AV → List (Nat × AV)
 |_, [] => []
 |i, v :: l => (i, v) :: argE (i + 1) l
theorem argE_get : ∀ (l : List AV) (i t : Nat), i + l.length < 1000000 → (envOf (argE i l)).get t = if i ≤ t ∧ t < i + l.length then l[t - i]? else none
 |[], i, t, _ => by simp [argE, env_nil]
 |v :: l, i, t, h => by
  simp only [List.length_cons] at h
  rw [argE, env_cons (by omega), argE_get l (i + 1) t (by omega), List.length_cons]
  by_cases e : t = i
  ·subst e; rw [if_pos rfl, if_pos (by omega)]; simp
  ·rw [if_neg e]
   by_cases h2 : i + 1 ≤ t ∧ t < i + 1 + l.length
   ·rw [if_pos h2, if_pos (by omega), show t - i = (t - (i + 1)) + 1 by omega, List.getElem?_cons_succ]
   ·rw [if_neg h2, if_neg (by omega)]
/-! ### blocks -/
def heapOf : List AB → AH
 |[] => ⟨.nil, 0, 2 ^ 40⟩
 |x :: l => (heapOf l).new x
theorem heap_next : ∀ l : List AB, (heapOf l).next = l.length
 |[] => rfl
 |x :: l => by show (heapOf l).next + 1 = _; rw [heap_next l]; rfl
theorem at_nil (b : Nat) : (heapOf []).at b = none := by simp [heapOf, AH.at, Tr.get]
theorem at_new {H : AH} (h : H.next < 1000000) (x : AB) (b : Nat) : (H.new x).at b = if b = H.next then (if x.live then some x else none) else H.at b := by
 unfold AH.new
 rw [AH.at_put _ _ _ _ _ _ (by omega)]
theorem next_new (H : AH) (x : AB) : (H.new x).next = H.next + 1 := id rfl
theorem low_new (H : AH) (x : AB) : (H.new x).low = H.low := id rfl
theorem heap_cons (x : AB) (l : List AB) : heapOf (x :: l) = (heapOf l).new x := id rfl
theorem low_nil : (heapOf []).low = 2 ^ 40 := id rfl
theorem at_kill' {H : AH} {b : Nat} (h : b < 1000000) (b' : Nat) : (H.kill b).at b' = if b' = b then none else H.at b' := by
 unfold AH.kill
 cases hx : H.at b with
 |none =>
  simp only
  by_cases e : b' = b
  ·subst e; rw [if_pos rfl, hx]
  ·rw [if_neg e]
 |some x =>
  simp only
  rw [AH.at_put _ _ _ _ _ _ (by omega)]
  by_cases e : b' = b
  ·rw [if_pos e, if_pos e]; simp
  ·rw [if_neg e, if_neg e]
theorem next_kill (H : AH) (b : Nat) : (H.kill b).next = H.next := AH.kill_next H b
def AH.upd (H : AH) (b : Nat) (x : AB) : AH := { H with blks := Tr.set 48 H.blks b x, low := min H.low b }
theorem store_upd (H : AH) (b o : Nat) (v : AV) : H.store b o v = match H.at b with
 |some x => if o < x.size ∧ x.fzn ≤ o then some (H.upd b (x.set o v)) else none
 |none => none := rfl
theorem Tr.set_set {α : Type} : ∀ (f : Nat) (t : Tr α) (k : Nat) (x y : α), Tr.set f (Tr.set f t k x) k y = Tr.set f t k y
 |0, t, k, x, y => rfl
 |f + 1, t, k, x, y => by
  cases t with
  |nil =>
   by_cases k0 : k = 0
   ·simp [Tr.set, k0]
   ·by_cases k1 : k % 2 = 1
    ·simp [Tr.set, k0, k1, Tr.set_set f]
    ·simp [Tr.set, k0, k1, Tr.set_set f]
  |node v l r =>
   by_cases k0 : k = 0
   ·simp [Tr.set, k0]
   ·by_cases k1 : k % 2 = 1
    ·simp [Tr.set, k0, k1, Tr.set_set f]
    ·simp [Tr.set, k0, k1, Tr.set_set f]
theorem upd_upd (H : AH) (b : Nat) (x y : AB) : (H.upd b x).upd b y = H.upd b y := by
 simp only [AH.upd, Tr.set_set, Nat.min_assoc, Nat.min_self]
def AB.putN (x : AB) (o : Nat) (l : List AV) : AB := { x with cells := trPut x.cells o l }
theorem storeN_upd {H : AH} {b : Nat} (hb : b < 1000000) : ∀ (l : List AV) (o : Nat) (v : AV), H.storeN b o (v :: l) = match H.at b with
  |some x => if o + (l.length + 1) ≤ x.size ∧ x.fzn ≤ o then some (H.upd b (x.putN o (v :: l))) else none
  |none => none
 |[], o, v => by
  simp only [AH.storeN, store_upd]
  cases hx : H.at b with
  |none => rfl
  |some x =>
   simp only [List.length_nil]
   by_cases h : o < x.size ∧ x.fzn ≤ o
   ·rw [if_pos h, if_pos ⟨by omega, h.2⟩]; rfl
   ·rw [if_neg h, if_neg (fun h' => h ⟨by omega, h'.2⟩)]
 |v' :: l, o, v => by
  rw [AH.storeN, store_upd]
  cases hx : H.at b with
  |none => rfl
  |some x =>
   have hl : x.live = true := by
    unfold AH.at at hx
    split at hx
    ·split at hx
     ·rename_i hl; cases hx; exact hl
     ·cases hx
    ·cases hx
   simp only [List.length_cons]
   by_cases h : o < x.size ∧ x.fzn ≤ o
   ·rw [if_pos h]
    simp only
    have h1 : (H.upd b (x.set o v)).at b = some (x.set o v) := by
     show AH.at ⟨Tr.set 48 H.blks b (x.set o v), H.next, min H.low b⟩ b = _
     rw [AH.at_put _ _ _ _ _ _ (by omega), if_pos rfl, if_pos (show (x.set o v).live = true from hl)]
    rw [storeN_upd (H := H.upd b (x.set o v)) hb l (o + 1) v', h1]
    simp only
    have e1 : (x.set o v).size = x.size := rfl
    have e2 : (x.set o v).fzn = x.fzn := rfl
    rw [e1, e2, upd_upd]
    by_cases h2 : o + (l.length + 1 + 1) ≤ x.size
    ·rw [if_pos ⟨by omega, by omega⟩, if_pos ⟨h2, h.2⟩]; rfl
    ·rw [if_neg (fun hh => h2 (by omega)), if_neg (fun hh => h2 hh.1)]
   ·rw [if_neg h, if_neg (fun h' => h ⟨by omega, h'.2⟩)]
theorem storeN_nil (H : AH) (b o : Nat) : H.storeN b o [] = some H := id rfl
theorem putN_get {x : AB} {o : Nat} {l : List AV} (h : o + l.length < 1000000) (i : Nat) : (x.putN o l).get i = if o ≤ i ∧ i < o + l.length then l[i - o]?.getD .u else x.get i := by
 simp only [AB.putN, AB.get]
 rw [trPut_get _ _ _ _ (by omega)]
 by_cases hh : o ≤ i ∧ i < o + l.length
 ·rw [if_pos hh, if_pos hh, List.getElem?_eq_getElem (by omega)]; rfl
 ·rw [if_neg hh, if_neg hh]
theorem size_putN (x : AB) (o : Nat) (l : List AV) : (x.putN o l).size = x.size := id rfl
theorem fzn_putN (x : AB) (o : Nat) (l : List AV) : (x.putN o l).fzn = x.fzn := id rfl
theorem live_putN (x : AB) (o : Nat) (l : List AV) : (x.putN o l).live = x.live := id rfl
theorem esz_putN (x : AB) (o : Nat) (l : List AV) : (x.putN o l).esz = x.esz := id rfl
theorem ty_putN (x : AB) (o : Nat) (l : List AV) : (x.putN o l).ty = x.ty := id rfl
theorem opn_putN (x : AB) (o : Nat) (l : List AV) : (x.putN o l).opn = x.opn := id rfl
theorem at_upd {H : AH} {b : Nat} (h : b < 1000000) (x : AB) (b' : Nat) : (H.upd b x).at b' = if b' = b then (if x.live then some x else none) else H.at b' := AH.at_put _ _ _ _ _ _ (by omega)
theorem next_upd (H : AH) (b : Nat) (x : AB) : (H.upd b x).next = H.next := id rfl
theorem low_upd (H : AH) (b : Nat) (x : AB) : (H.upd b x).low = min H.low b := id rfl
theorem at_mark' {H : AH} {b : Nat} (h : b < 1000000) (b' : Nat) : (H.mark b).at b' = if b' = b then (H.at b).map (fun x => { x with fzn := max x.size x.fzn }) else H.at b' := AH.at_mark (by omega)
theorem next_low (H : AH) (l : Nat) : AH.next { H with low := l } = H.next := id rfl
theorem at_low (H : AH) (l b : Nat) : AH.at { H with low := l } b = H.at b := id rfl
theorem size_set (x : AB) (i : Nat) (v : AV) : (x.set i v).size = x.size := id rfl
theorem fzn_set (x : AB) (i : Nat) (v : AV) : (x.set i v).fzn = x.fzn := id rfl
theorem live_set (x : AB) (i : Nat) (v : AV) : (x.set i v).live = x.live := id rfl
theorem esz_set (x : AB) (i : Nat) (v : AV) : (x.set i v).esz = x.esz := id rfl
theorem ty_set (x : AB) (i : Nat) (v : AV) : (x.set i v).ty = x.ty := id rfl
theorem opn_set (x : AB) (i : Nat) (v : AV) : (x.set i v).opn = x.opn := id rfl
def lstB (esz ty : Nat) (l : List AV) : AB := ⟨l.length, esz, ty, fun _ => .u, trOf l, false, true, 0⟩
theorem lst_get (esz ty : Nat) (l : List AV) (i : Nat) (h : l.length < 1000000) : (lstB esz ty l).get i = l[i]?.getD .u := by
 simp only [lstB, AB.get]
 rw [trOf_get l i (by omega)]
theorem row_get {ty esz n z : Nat} {row : Nat → Nat → AV} (i j : Nat) (h : j < esz) : (rowB ty esz n z row).get (i * esz + j) = row i j := by
 show row ((i * esz + j) / esz) ((i * esz + j) % esz) = _
 have h0 : 0 < esz := by omega
 rw [show i * esz + j = j + esz * i by rw [Nat.mul_comm]; omega, Nat.add_mul_div_left _ _ h0, Nat.div_eq_of_lt h, Nat.zero_add, Nat.add_mul_mod_self_left, Nat.mod_eq_of_lt h]
/-! ### another view of a state -/
inductive Wv (r : Nat → Option Nat) (M : List Nat) (H : AH) : AV → AV → Prop where
 |cv {v v2 : AV} (h : Cv M H v v2) : Wv r M H v v2
 |os {b b2 n : Nat} (h : r b2 = some b) : Wv r M H (.os b n) (.os b2 n)
 |sl {b b2 o n cap : Nat} (h : r b2 = some b) : Wv r M H (.sl b o n cap) (.sl b2 o n cap)
 |p {b b2 o : Nat} (h : r b2 = some b) : Wv r M H (.p b o) (.p b2 o)
 |nil {b2 : Nat} (h : r b2 = none) : Wv r M H .sl0 .sl0
 |f {g : FuncId} {l1 l2 l1' l2' : List AV} (n1 : l1.length = l1'.length) (n2 : l2.length = l2'.length) (h1 : ∀ (i : Nat) (v v' : AV), l1[i]? = some v → l1'[i]? = some v' → Wv r M H v v') (h2 : ∀ (i : Nat) (v v' : AV), l2[i]? = some v → l2'[i]? = some v' → Wv r M H v v') : Wv r M H (.f g l1 l2) (.f g l1' l2')
 |agg {l l' : List AV} (n1 : l.length = l'.length) (h1 : ∀ (i : Nat) (v v' : AV), l[i]? = some v → l'[i]? = some v' → Wv r M H v v') : Wv r M H (.agg l) (.agg l')
theorem Wv.ok {r : Nat → Option Nat} {M : List Nat} {B : Nat} {σ σ2 σ3 : Sg} {H : AH} {w : World} (h : HR B σ H w) (hle : σ.le σ2) (hnm : σ2.nm = σ.nm) (hM : ∀ b ∈ M, FzAt σ2 H w b) (h3 : σ2.bare.le σ3) (hr : ∀ b2 b, r b2 = some b → σ3 b2 = σ b ∧ (σ.nl b → σ3.nl b2))
  {v v2 : AV} (hc : Wv r M H v v2) : ∀ {u : Value}, VR σ v u → VR σ3 v2 u := by
 induction hc with
 |cv hc => intro u hu; exact (hc.ok h hle hnm hM hu).mono h3
 |os hb =>
  intro u hu
  obtain ⟨e1, e2⟩ := hr _ _ hb
  cases hu with
  |os0 hh a => exact .os0 (e2 hh) a
  |os hh hl => exact .os (by show σ3 _ = _; rw [e1]; exact hh) hl
 |sl hb =>
  intro u hu
  obtain ⟨e1, e2⟩ := hr _ _ hb
  cases hu with
  |sl hh => exact .sl (by show σ3 _ = _; rw [e1]; exact hh)
  |slo hh hc h0 => exact .slo (by show σ3 _ = _; rw [e1]; exact hh) hc h0
 |p hb =>
  intro u hu
  obtain ⟨e1, e2⟩ := hr _ _ hb
  cases hu with
  |p hh => exact .p (by show σ3 _ = _; rw [e1]; exact hh)
 |nil hb => intro u hu; cases hu; exact .sl0 _
 |f n1 n2 h1 h2 i1 i2 =>
  intro u hu
  cases hu with
  |f m1 k1 m2 k2 =>
   refine .f (by omega) (fun i v' hv' => ?_) (by omega) (fun i v' hv' => ?_)
   ·have hlt := (List.getElem?_eq_some_iff.1 hv').1
    exact i1 i _ v' (List.getElem?_eq_getElem (by omega)) hv' (k1 i _ (List.getElem?_eq_getElem (by omega)))
   ·have hlt := (List.getElem?_eq_some_iff.1 hv').1
    exact i2 i _ v' (List.getElem?_eq_getElem (by omega)) hv' (k2 i _ (List.getElem?_eq_getElem (by omega)))
 |agg n1 h1 i1 =>
  intro u hu
  cases hu with
  |agg m1 k1 =>
   refine .agg (by omega) (fun i v' hv' => ?_)
   have hlt := (List.getElem?_eq_some_iff.1 hv').1
   exact i1 i _ v' (List.getElem?_eq_getElem (by omega)) hv' (k1 i _ (List.getElem?_eq_getElem (by omega)))
def WkE (r : Nat → Option Nat) (M : List Nat) (H : AH) (e : Tr AV) : List (Nat × AV) → Prop
 |[] => True
 |(t, v2) :: l => (t < 1000000 ∧ ∃ v, e.get t = some v ∧ Wv r M H v v2) ∧ WkE r M H e l
def WkB (r : Nat → Option Nat) (M : List Nat) (H : AH) (b : Nat) (x2 : AB) : Prop :=
 ∃ x, H.at b = some x ∧ x2.ty = x.ty ∧ x2.esz = x.esz ∧ x2.opn = x.opn ∧ x2.live = true ∧ (x2.size = x.size ∨ (x.opn = true ∧ x2.size ≤ x.size)) ∧ (if b ∈ M then max x.size x.fzn else x.fzn) ≤ x2.fzn ∧ ∀ i, i < x2.size → Wv r M H (x.get i) (x2.get i)
def WkH (r : Nat → Option Nat) (M : List Nat) (H : AH) : List Nat → List AB → Prop
 |[], [] => True
 |b :: ρ, x2 :: bl => b ∉ ρ ∧ WkB r M H b x2 ∧ WkH r M H ρ bl
 |_, _ => False
theorem WkE.get {r : Nat → Option Nat} {M : List Nat} {H : AH} {e : Tr AV} : ∀ {L : List (Nat × AV)}, WkE r M H e L → ∀ t v2, (envOf L).get t = some v2 → ∃ v, e.get t = some v ∧ Wv r M H v v2
 |[], _, t, v2, h => by rw [env_nil] at h; cases h
 |(d, v) :: L, ⟨⟨hd, v0, h1, h2⟩, hL⟩, t, v2, h => by
  rw [env_cons hd] at h
  by_cases e1 : t = d
  ·rw [if_pos e1] at h
   cases h
   exact ⟨v0, by rw [e1]; exact h1, h2⟩
  ·rw [if_neg e1] at h
   exact hL.get t v2 h
theorem WkH.len {r : Nat → Option Nat} {M : List Nat} {H : AH} : ∀ {ρ : List Nat} {bl : List AB}, WkH r M H ρ bl → ρ.length = bl.length
 |[], [], _ => rfl
 |[], _ :: _, h => h.elim
 |_ :: _, [], h => h.elim
 |_ :: ρ, _ :: bl, h => by simp [h.2.2.len]
theorem WkH.at {r : Nat → Option Nat} {M : List Nat} {H : AH} : ∀ {ρ : List Nat} {bl : List AB}, WkH r M H ρ bl → bl.length < 1000000 → ∀ b2 x2, (heapOf bl).at b2 = some x2 → ∃ b, ρ.reverse[b2]? = some b ∧ WkB r M H b x2
 |[], [], _, _, b2, x2, hx => by rw [at_nil] at hx; cases hx
 |[], _ :: _, h, _, _, _, _ => h.elim
 |_ :: _, [], h, _, _, _, _ => h.elim
 |b :: ρ, x :: bl, h, hl, b2, x2, hx => by
  simp only [List.length_cons] at hl
  have hlen := h.2.2.len
  rw [heap_cons, at_new (by rw [heap_next]; omega), heap_next] at hx
  by_cases e : b2 = bl.length
  ·rw [if_pos e] at hx
   split at hx
   ·cases hx
    refine ⟨b, ?_, h.2.1⟩
    rw [e, List.reverse_cons, List.getElem?_append_right (by simp; omega)]
    simp [hlen]
   ·cases hx
  ·rw [if_neg e] at hx
   obtain ⟨b', h1, h2⟩ := h.2.2.at (by omega) b2 x2 hx
   refine ⟨b', ?_, h2⟩
   have hlt := (List.getElem?_eq_some_iff.1 h1).1
   rw [List.reverse_cons, List.getElem?_append_left (by simpa using hlt)]
   exact h1
theorem WkH.inj {r : Nat → Option Nat} {M : List Nat} {H : AH} : ∀ {ρ : List Nat} {bl : List AB}, WkH r M H ρ bl → ∀ (i j : Nat) (b : Nat), ρ.reverse[i]? = some b → ρ.reverse[j]? = some b → i = j
 |[], [], _, i, j, b, h1, _ => by simp at h1
 |[], _ :: _, h, _, _, _, _, _ => h.elim
 |_ :: _, [], h, _, _, _, _, _ => h.elim
 |b0 :: ρ, _ :: bl, h, i, j, b, h1, h2 => by
  have hn := h.1
  have part : ∀ i, (b0 :: ρ).reverse[i]? = some b → (i < ρ.length ∧ ρ.reverse[i]? = some b) ∨ (i = ρ.length ∧ b = b0) := fun i hi => by
   rw [List.reverse_cons] at hi
   by_cases hl : i < ρ.length
   ·rw [List.getElem?_append_left (by simpa using hl)] at hi
    exact .inl ⟨hl, hi⟩
   ·rw [List.getElem?_append_right (by simp; omega), List.length_reverse] at hi
    have : i - ρ.length = 0 := by
     by_cases hz : i - ρ.length = 0
     ·exact hz
     ·rw [List.getElem?_eq_none (by simp; omega)] at hi; cases hi
    rw [this] at hi
    simp at hi
    exact .inr ⟨by omega, hi.symm⟩
  have mem : ∀ i, ρ.reverse[i]? = some b → b ∈ ρ := fun i hi => List.mem_reverse.1 (List.mem_of_getElem? hi)
  rcases part i h1 with ⟨_, e1⟩ | ⟨e1, e2⟩ <;> rcases part j h2 with ⟨_, f1⟩ | ⟨f1, f2⟩
  ·exact h.2.2.inj i j b e1 f1
  ·exact absurd (f2 ▸ mem i e1) hn
  ·exact absurd (e2 ▸ mem j f1) hn
  ·omega
theorem at_markL : ∀ (M : List Nat) {H : AH} {b : Nat} {x : AB}, (∀ b x, H.at b = some x → b < 2 ^ 40) → H.at b = some x → ∃ y, (markL H M).at b = some y ∧ y.fzn ≤ if b ∈ M then max x.size x.fzn else x.fzn
 |[], H, b, x, _, hx => ⟨x, hx, by simp⟩
 |m :: M, H, b, x, hs, hx => by
  have h1 : ∀ b', (H.mark m).at b' = if b' = m then (H.at m).map (fun x => { x with fzn := max x.size x.fzn }) else H.at b' := fun b' => by
   by_cases hm : m < 2 ^ 40
   ·exact AH.at_mark hm
   ·have hn : H.at m = none := by
     cases h0 : H.at m with
     |none => rfl
     |some z => exact absurd (hs m z h0) hm
    have : H.mark m = H := by unfold AH.mark; rw [hn]
    rw [this]
    by_cases e : b' = m
    ·rw [if_pos e, e, hn]; rfl
    ·rw [if_neg e]
  have hs2 : ∀ b x, (H.mark m).at b = some x → b < 2 ^ 40 := fun b' x' hx' => by
   rw [h1] at hx'
   by_cases e : b' = m
   ·rw [if_pos e] at hx'
    cases h0 : H.at m with
    |none => rw [h0] at hx'; cases hx'
    |some z => rw [e]; exact hs m z h0
   ·rw [if_neg e] at hx'; exact hs b' x' hx'
  by_cases e : b = m
  ·have h2 : (H.mark m).at b = some { x with fzn := max x.size x.fzn } := by rw [h1, if_pos e, ← e, hx]; rfl
   obtain ⟨y, y1, y2⟩ := at_markL M hs2 h2
   refine ⟨y, y1, ?_⟩
   rw [if_pos (by simp [e])]
   split at y2 <;> simp at y2 <;> omega
  ·have h2 : (H.mark m).at b = some x := by rw [h1, if_neg e, hx]
   obtain ⟨y, y1, y2⟩ := at_markL M hs2 h2
   refine ⟨y, y1, ?_⟩
   simpa [e] using y2
theorem Wk.mk {n : Nat} {e : Tr AV} {H : AH} {L : List (Nat × AV)} {bl : List AB} (ρ M : List Nat) (he : WkE (fun b2 => ρ.reverse[b2]?) M H e L) (hh : WkH (fun b2 => ρ.reverse[b2]?) M H ρ bl) (hl : bl.length < 1000000) : Wk n e H (envOf L) (heapOf bl) := by
 intro B σ a w hE hH
 obtain ⟨σ2, q1, q2, q3, q4, q5, q6, q7⟩ := hH.marks M
 have hlen := hh.len
 let σ3 : Sg := ⟨fun b2 => (ρ.reverse[b2]?).bind σ.nm, fun b2 => ∃ b, ρ.reverse[b2]? = some b ∧ σ.nl b, σ2.fz⟩
 have hr : ∀ b2 b, ρ.reverse[b2]? = some b → σ3 b2 = σ b ∧ (σ.nl b → σ3.nl b2) := fun b2 b hb => ⟨by show (ρ.reverse[b2]?).bind σ.nm = _; rw [hb]; rfl, fun hn => ⟨b, hb, hn⟩⟩
 have h3 : σ2.bare.le σ3 := ⟨fun b x hx => (by cases hx), fun b hb => False.elim hb, fun c fs hf => ⟨fs, hf, Pre.refl _⟩⟩
 have conv : ∀ {v v2 : AV} {u : Value}, Wv (fun b2 => ρ.reverse[b2]?) M H v v2 → VR σ v u → VR σ3 v2 u := fun hc hu => hc.ok hH q1 q2 q7 h3 hr hu
 have hat := hh.at hl
 have out : ∀ b2, bl.length ≤ b2 → ρ.reverse[b2]? = none := fun b2 hb => List.getElem?_eq_none (by simp; omega)
 refine ⟨σ3, ⟨⟨hE.er.df, fun t v2 hv => ?_⟩, hE.sz, hE.sm⟩, ?_, fun c hc => q4 c hc⟩
 ·obtain ⟨v, h1, h2⟩ := he.get t v2 hv
  exact conv h2 (hE.er.get t v h1)
 ·refine ⟨fun b hb => ?_, fun b hb => ?_, fun b hb => ?_, by rw [heap_next]; omega, hH.hB, fun b x hx hs => ?_, fun b hb => ?_, fun b x c o hx hs => ?_, fun b x hx => ?_, fun b b' x x' c o o' k1 k2 k3 k4 => ?_, fun c fs hf => ?_⟩
  ·rw [heap_next] at hb
   show (ρ.reverse[b]?).bind σ.nm = none
   rw [out b hb]; rfl
  ·rw [heap_next] at hb
   rintro ⟨b0, e1, _⟩
   rw [out b hb] at e1; cases e1
  ·rw [heap_next] at hb
   cases hx : (heapOf bl).at b with
   |none => rfl
   |some x =>
    obtain ⟨b0, e1, _⟩ := hat b x hx
    rw [out b hb] at e1; cases e1
  ·obtain ⟨b0, e1, x0, e2, e3, e4, e5, e6, e7, e8, e9⟩ := hat b x hx
   obtain ⟨g1, g2⟩ := hr b b0 e1
   rw [g1] at hs
   obtain ⟨p1, p2, p3⟩ := hH.nil b0 x0 e2 hs
   refine ⟨?_, by rw [e5]; exact p2, g2 p3⟩
   rcases e7 with e7 | e7 <;> omega
  ·obtain ⟨b0, e1, e2⟩ := hb
   rw [(hr b b0 e1).1]
   exact hH.nilp b0 e2
  ·obtain ⟨b0, e1, x0, e2, e3, e4, e5, e6, e7, e8, e9⟩ := hat b x hx
   rw [(hr b b0 e1).1] at hs
   obtain ⟨cs, p1, p2, p3⟩ := hH.blk b0 x0 c o e2 hs
   refine ⟨cs, p1, by rw [e3]; exact p2, ⟨?_, fun ho => ?_, fun k hk => by rw [e4]; exact p3.op k hk, by rw [e5]; exact p3.ob, fun i hi => conv (e9 i hi) (p3.cell i ?_)⟩⟩
   ·have := p3.sz
    rcases e7 with e7 | e7 <;> omega
   ·rcases e7 with e7 | e7
    ·rw [e7]; exact p3.ex ho
    ·have := p3.ob
     rw [e7.1, ho] at this; cases this
   ·rcases e7 with e7 | e7 <;> omega
  ·obtain ⟨b0, e1, x0, e2, e3, e4, e5, e6, e7, e8, e9⟩ := hat b x hx
   have := hH.szs b0 x0 e2
   rcases e7 with e7 | e7 <;> omega
  ·obtain ⟨b0, e1, x0, e2, _⟩ := hat b x k1
   obtain ⟨b1, f1, x1, f2, _⟩ := hat b' x' k2
   rw [(hr b b0 e1).1] at k3
   rw [(hr b' b1 f1).1] at k4
   have hbb := hH.inj b0 b1 x0 x1 c o o' e2 f2 k3 k4
   subst hbb
   exact hh.inj b b' b0 e1 f1
  ·obtain ⟨cs, t, fr, p1, p2, p3⟩ := q6.frz c fs hf
   refine ⟨cs, t, fr, p1, p2, fun b x o hx hs => ?_⟩
   obtain ⟨b0, e1, x0, e2, e3, e4, e5, e6, e7, e8, e9⟩ := hat b x hx
   rw [(hr b b0 e1).1] at hs
   obtain ⟨y, y1, y2⟩ := at_markL M (fun b x hx => Nat.lt_trans (AH.at_lt hH hx) hH.small) e2
   have := p3 b0 y o y1 (by rw [q2]; exact hs)
   omega
end Go.Proofs.YtidhfimbnjaceaaGreat

namespace Go.Proofs.YtidhfimbnjaceaaGreat
open Go.RowKit
set_option linter.unusedVariables false
def autoGo (P : Program) (ops : Array Oper) : Nat → Array Bool → List (Nat × Nat) → List (Nat × Nat)
 |0, _, acc => acc.reverse
 |f + 1, listed, acc =>
  let ready := Region.ready .any ops listed
  let kind (j : Nat) : Nat := match ops[j]? with
   |some o => match akOf P o.op with
    |some (.ap x) => x.kind
    |_ => 0
   |none => 0
  let fr := ready.filter fun j => Region.free .any ops listed j
  match fr.find? (fun j => kind j == 2) with
  |some j => autoGo P ops f (listed.setIfInBounds j true) ((2, j) :: acc)
  |none => match fr.find? (fun j => kind j == 1) with
   |some j => autoGo P ops f (listed.setIfInBounds j true) ((1, j) :: acc)
   |none => match ready with
    |j :: _ => autoGo P ops f (listed.setIfInBounds j true) ((0, j) :: acc)
    |[] => acc.reverse
def late (ops : Array Oper) (fl : List Nat) : List (Nat × Nat) → List (Nat × Nat)
 |[] => []
 |(0, j) :: l => (if l.all (·.1 != 1) && sees .any ops fl j then (3, j) else (0, j)) :: late ops fl l
 |p :: l => p :: late ops fl l
def autoPlan (P : Program) (ops : Array Oper) : List Nat × List Nat × List (Nat × Nat) :=
 let pl := autoGo P ops ops.size (Array.replicate ops.size false) []
 let fl := (pl.filter (·.1 == 1)).map (·.2)
 let pu := (pl.filter (·.1 == 2)).map (·.2)
 (fl, pu, late ops fl pl)
def floatsGo (P : Program) (ops : Array Oper) : Nat → Array Bool → List (Nat × Nat) → List (Nat × Nat) × Array Bool
 |0, listed, acc => (acc.reverse, listed)
 |f + 1, listed, acc =>
  let kind (j : Nat) : Nat := match ops[j]? with
   |some o => match akOf P o.op with
    |some (.ap x) => x.kind
    |_ => 0
   |none => 0
  match (Region.ready .any ops listed).find? (fun j => kind j != 0 && Region.free .any ops listed j) with
  |some j => floatsGo P ops f (listed.setIfInBounds j true) ((kind j, j) :: acc)
  |none => (acc.reverse, listed)
def treeGo (ops : Array Oper) : Nat → Array Bool → PT
 |0, _ => .fin
 |f + 1, listed => match Region.ready .any ops listed with
  |[] => .fin
  |l => l.foldr (fun j more => .alt j (treeGo ops f (listed.setIfInBounds j true)) more) .none
def forkPlan (P : Program) (ops : Array Oper) : List Nat × List Nat × List (Nat × Nat) × Option PT :=
 let (pl, listed) := floatsGo P ops ops.size (Array.replicate ops.size false) []
 ((pl.filter (·.1 == 1)).map (·.2), (pl.filter (·.1 == 2)).map (·.2), pl, some (treeGo ops ops.size listed))
def anyPlan (P : Program) (ops : Array Oper) : List Nat × List Nat × List (Nat × Nat) × Option PT :=
 let (fl, pu, pl) := autoPlan P ops
 if mixB .any ops fl pu (pl.map unk) then (fl, pu, pl, none) else forkPlan P ops
def regionsOf : Code → List (Nat × Array Oper)
 |.region id ops true => [(id, ops)]
 |.region _ _ false => []
 |.seq a b => regionsOf a ++ regionsOf b
 |.cond _ a b => regionsOf a ++ regionsOf b
 |.block _ b => regionsOf b
 |.loop b => regionsOf b
 |_ => []
def hintsOf (P : Program) (f : FuncId) : Hints := fun id => match (P.funcs[f]?).bind (·.body) with
 |some c => ((regionsOf c).find? (·.1 == id)).map fun x => anyPlan P x.2
 |none => none
end Go.Proofs.YtidhfimbnjaceaaGreat
