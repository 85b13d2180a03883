/- A part of the proof of OptimizerPrunes: PsA PsB AwA AwB AwC LaB PrD. No condition. -/
import Derived.Test.YtidhfimbnjaceaaGreatGp35
import Derived.Test.YtidhfimbnjaceaaGreatGp38
import Derived.Test.YtidhfimbnjaceaaGreatGp19
import Derived.Test.YtidhfimbnjaceaaGreatGp11
import Derived.Test.YtidhfimbnjaceaaGreatGp13
import Derived.Test.YtidhfimbnjaceaaGreatGp15
import Derived.Test.YtidhfimbnjaceaaGreatGp12
set_option linter.unusedSimpArgs false
set_option linter.unusedVariables false
set_option linter.constructorNameAsVariable false
set_option maxRecDepth 100000
set_option maxHeartbeats 4000000
namespace Go.Proofs.YtidhfimbnjaceaaGreat
open Go.RowKit
set_option linter.unusedVariables false
def argOk (cs : List In) : Prop := ∀ x ∈ cs, 0 ≤ x.2.2.2.2 ∧ x.2.2.2.2 < 4294967296
theorem COk.inC {la : List (Bool × Int)} {regs par : Int} {cs : List In} (h : COk la regs par cs) : ∀ x ∈ cs, InC regs par la.length x := fun x hx => inC_of (h.ins x hx)
theorem COk.inOk {la : List (Bool × Int)} {regs : Nat} {par : Int} {cs : List In} (h : COk la regs par cs) (ha : argOk cs) : ∀ x ∈ cs, InOk regs x := fun x hx => (h.inC x hx).ok (ha x hx)
theorem COk.opOk {la : List (Bool × Int)} {regs par : Int} {cs : List In} (h : COk la regs par cs) : ∀ x ∈ cs, Proofs.YtidhfimbnjaceaaGreat.opOk x := fun x hx => (h.inC x hx).op
def ptC (cs : List In) : List Int := (pairsP cs).getD []
theorem COk.pt {la : List (Bool × Int)} {regs par : Int} {cs : List In} (h : COk la regs par cs) : pairsP cs = some (ptC cs) ∧ (ptC cs).length = cs.length ∧ shGo cs (ptC cs) cs.length 0 0 = some 0 ∧ ∃ t : T, cs.map toRI = t.flat ∧ t.wf false 8 ∧ ptC cs = t.rq 0 0 := by
 obtain ⟨t, ht, hw⟩ := h.tree
 have hp := pairs_tree ht hw
 have he : ptC cs = t.rq 0 0 := by unfold ptC; rw [hp]; rfl
 rw [he]
 have hl : cs.length = t.size := by rw [← t.flat_length, ← ht, List.length_map]
 exact ⟨hp, by rw [T.rq_length, hl], sh_ok ht hw, t, ht, hw, rfl⟩
theorem walk_some {F : Type} (D : In → F → Bool) (E : F → F → Bool) (V : In → List F → In × Bool × List F) {cs : List In} {pt : List Int} (hV : ∀ x ∈ cs, (x.1 = 27 ∨ x.1 = 28 ∨ x.1 = 29 ∨ x.1 = 31) → ∀ fs, (V x fs).2.1 = true) (hsh : shGo cs pt cs.length 0 0 = some 0) (fs0 : List F) :
  ∃ s, walkGo D E V cs pt cs 0 ⟨[], fs0, []⟩ = some s := by
 obtain ⟨a, b, e1, _, _⟩ := lock (cs := cs) (pt := pt) (f1 := walkStep D E V cs pt) (f2 := fun _ _ (s : Unit) => some s) (fun i d s _ => s.op.length = d) (fun i d d' s1 s2 hi hs hR => by
  have hmem : cs.getD i dIn ∈ cs := by rw [List.getD_eq_getElem?_getD, List.getElem?_eq_getElem hi]; exact List.getElem_mem _
  have hv := hV _ hmem
  generalize cs.getD i dIn = x at hs hv ⊢
  obtain ⟨out, fs, op⟩ := s1
  simp only at hR
  have hsw : ∃ q, walkSw D E cs pt i x.1 fs op = some q ∧ q.2.length = d' := by
   unfold shStep at hs
   unfold walkSw
   by_cases c27 : x.1 = 27
   ·rw [if_pos c27] at hs ⊢; cases hs; exact ⟨_, rfl, by simp [hR]⟩
   rw [if_neg c27] at hs ⊢
   by_cases c28 : x.1 = 28
   ·rw [if_pos c28] at hs ⊢
    split at hs
    rotate_left
    ·cases hs
    cases hs
    cases op with
    |nil => simp at hR; omega
    |cons t r => exact ⟨_, rfl, by simpa using hR⟩
   rw [if_neg c28] at hs ⊢
   by_cases c29 : x.1 = 29
   ·rw [if_pos c29] at hs ⊢
    split at hs
    rotate_left
    ·cases hs
    rename_i hp
    cases hs
    rw [if_pos hp]
    exact ⟨_, rfl, hR⟩
   rw [if_neg c29] at hs ⊢
   by_cases c31 : x.1 = 31
   ·rw [if_pos c31] at hs ⊢
    split at hs
    rotate_left
    ·cases hs
    rename_i hp
    rw [if_pos hp]
    split at hs
    ·rename_i hb
     cases hs
     rw [if_pos hb]
     exact ⟨_, rfl, hR⟩
    ·rename_i hb
     rw [if_neg hb]
     split at hs
     rotate_left
     ·cases hs
     cases hs
     cases op with
     |nil => simp at hR; omega
     |cons t r => exact ⟨_, rfl, by simp at hR ⊢; omega⟩
   rw [if_neg c31] at hs ⊢
   cases hs
   exact ⟨_, rfl, hR⟩
  by_cases hr : (V x fs).2.1 = true
  ·obtain ⟨q, hq, hl⟩ := hsw
   refine ⟨_, s2, by unfold walkStep; simp only [hr, if_true, hq, Option.map_some]; rfl, rfl, hl⟩
  ·refine ⟨_, s2, by unfold walkStep; rw [if_neg hr], rfl, ?_⟩
   have hns : ¬ (x.1 = 27 ∨ x.1 = 28 ∨ x.1 = 29 ∨ x.1 = 31) := fun h => hr (hv h fs)
   unfold shStep at hs
   rw [if_neg (by omega), if_neg (by omega), if_neg (by omega), if_neg (by omega)] at hs
   cases hs
   exact hR) cs.length 0 0 0 ⟨[], fs0, []⟩ () (by omega) hsh rfl
 rw [List.drop_zero] at e1
 exact ⟨a, by rw [goS_walk]; exact e1⟩
/-! ### Fold -/
def foldC (regs : Nat) (cs : List In) : List In := ((walkGo DK EK VK cs (ptC cs) cs 0 ⟨[], facts0 regs, []⟩).map (·.out)).getD []
theorem numsOf_rng {fs : List (Int × Int)} (hf : ∀ f ∈ fs, 0 ≤ f.2 ∧ f.2 < 4294967296) : ∀ {rs vs : List Int}, numsOf fs rs = some vs → ∀ v ∈ vs, 0 ≤ v ∧ v < 4294967296
 |[], vs, h, v, hv => by simp [numsOf] at h; subst h; cases hv
 |r :: rs, vs, h, v, hv => by
  rw [numsOf] at h
  split at h
  ·cases h
  rename_i hi
  obtain ⟨ws, hw, rfl⟩ := Option.map_eq_some_iff.1 h
  rcases List.mem_cons.1 hv with rfl | hv
  ·rcases idx_spec (fun f : Int × Int => decide (f.1 = r)) fs 0 with ⟨h1, _⟩ | ⟨j, h1, h2, f, h3, _⟩
   ·exact absurd h1 hi
   ·rw [h2, Int.toNat_natCast, Nat.zero_add, List.getD_eq_getElem?_getD, h3]
    exact hf f (List.mem_of_getElem? h3)
  ·exact numsOf_rng hf hw v hv
theorem getD_rng {vs : List Int} (h : ∀ v ∈ vs, 0 ≤ v ∧ v < 4294967296) (i : Nat) : 0 ≤ vs.getD i 0 ∧ vs.getD i 0 < 4294967296 := by
 rw [List.getD_eq_getElem?_getD]
 cases hi : vs[i]? with
 |none => simp
 |some v => exact h v (List.mem_of_getElem? hi)
theorem foldedI_ok {fs : List (Int × Int)} {x : In} (hf : ∀ f ∈ fs, 0 ≤ f.2 ∧ f.2 < 4294967296) (hx : Proofs.YtidhfimbnjaceaaGreat.opOk x) (harg : 0 ≤ x.2.2.2.2 ∧ x.2.2.2.2 < 4294967296) : Proofs.YtidhfimbnjaceaaGreat.opOk (foldedI apI fs x) ∧ 0 ≤ (foldedI apI fs x).2.2.2.2 ∧ (foldedI apI fs x).2.2.2.2 < 4294967296 := by
 unfold foldedI
 split
 ·exact ⟨hx, harg⟩
 split
 ·exact ⟨hx, harg⟩
 ·rename_i vs hv
  have hr := getD_rng (numsOf_rng hf hv)
  split
  ·split
   ·exact ⟨⟨by simp, by simp⟩, apI_rng _ _ _ (hr 0) (hr 1)⟩
   ·exact ⟨hx, harg⟩
  ·exact ⟨⟨by simp, by simp⟩, hr 0⟩
theorem foldP_has {la : List (Bool × Int)} {na : Nat} {ra : Nat → Nat → AV} {regs : Nat} {par : Int} {cs : List In} (h : COk la regs par cs) (ha : argOk cs) : Has Tryz.prog 25 [codeV na ra regs par cs] [.v (.fs 5 (foldC regs cs).length (cC (foldC regs cs)))] := by
 obtain ⟨hp, hpl, hsh, _⟩ := h.pt
 have hr := h.nregs
 have hn := h.ncs
 obtain ⟨s, hs⟩ := walk_some DK EK VK (fun x hx _ fs => rfl) hsh (facts0 regs)
 have he : foldC regs cs = s.out := by unfold foldC; rw [hs]; rfl
 rw [he]
 refine fold_has rfl (by omega) ?_
 refine has_frz (rs := [.o 37 5 s.out.length 0 (cC s.out)]) ?_ rfl
 refine walkK_has (n0 := regs) (pf := fun f => 0 ≤ f.2 ∧ f.2 < 4294967296) DK VK 56 58 cs (facts0 regs) (ptC cs) s ?_ ?_ ?_ ?_ (by omega) h.opOk (by rw [facts0_length]; exact Nat.le_refl _) (by omega) ?_ hp hpl hs
 ·intro x hx f
  obtain ⟨op, to, a, b, arg⟩ := x
  exact fold1_has op to a b arg f hx
 ·intro x hx fs hl hf
  exact fold2_has apI (fun op a b h h1 h2 => apply_has op a b h h1 h2) fs x hl hf (h.opOk x hx)
 ·intro x hx fs hf
  have hk := foldedI_ok hf (h.opOk x hx) (ha x hx)
  simp only [VK, newFacts]
  split
  ·refine ⟨by simp, fun f hm => ?_⟩
   rw [List.mem_singleton.1 hm]
   exact hk.2
  ·exact ⟨by simp, fun f hm => by cases hm⟩
 ·intro x hx fs hf
  exact (foldedI_ok hf (h.opOk x hx) (ha x hx)).1
 ·intro f hf
  obtain ⟨q, _, _, h3⟩ := (facts0_mem regs f.1 f.2).1 hf
  omega
/-! ### Copies -/
def copC (cs : List In) : List In := ((walkGo desS (fun f g => decide (f.1 = g.1) && decide (f.2 = g.2)) copV cs (ptC cs) cs 0 ⟨[], [], []⟩).map (·.out)).getD []
theorem copP_has {la : List (Bool × Int)} {na : Nat} {ra : Nat → Nat → AV} {regs par : Int} {cs : List In} (h : COk la regs par cs) : Has Tryz.prog 36 [codeV na ra regs par cs] [.v (.fs 5 (copC cs).length (cC (copC cs)))] := by
 obtain ⟨hp, hpl, hsh, _⟩ := h.pt
 have hn := h.ncs
 obtain ⟨s, hs⟩ := walk_some desS (fun f g => decide (f.1 = g.1) && decide (f.2 = g.2)) copV (fun x hx hst fs => by
  unfold copV copV5
  rw [if_neg (by omega)]) hsh []
 have he : copC cs = s.out := by unfold copC; rw [hs]; rfl
 rw [he]
 exact has_frz (copies_has (by omega) h.opOk hp hpl hs) rfl
/-! ### Share -/
def shaC (cs : List In) : List In := ((walkGo desV eqIn shaV cs (ptC cs) cs 0 ⟨[], [], []⟩).map (·.out)).getD []
theorem exp_struct {op : Int} (h : op = 27 ∨ op = 28 ∨ op = 29 ∨ op = 31) : expB op = false := by
 rcases h with rfl | rfl | rfl | rfl <;> rfl
theorem shaP_has {la : List (Bool × Int)} {na : Nat} {ra : Nat → Nat → AV} {regs par : Int} {cs : List In} (h : COk la regs par cs) : Has Tryz.prog 41 [codeV na ra regs par cs] [.v (.fs 5 (shaC cs).length (cC (shaC cs)))] := by
 obtain ⟨hp, hpl, hsh, _⟩ := h.pt
 have hn := h.ncs
 obtain ⟨s, hs⟩ := walk_some desV eqIn shaV (fun x hx hst fs => by
  unfold shaV
  rw [exp_struct hst]
  rfl) hsh []
 have he : shaC cs = s.out := by unfold shaC; rw [hs]; rfl
 rw [he]
 exact has_frz (share_has (by omega) h.opOk hp hpl hs) rfl
/-! ### Prune -/
def livC (fuel regs : Nat) (cs : List In) : Option Lv := rounds cs (ptC cs) regs fuel (fun _ _ => false)
def pruC (fuel regs : Nat) (cs : List In) : List In := match livC fuel regs cs with
 |some L => dels (prGo L cs 0).length (prGo L cs 0)
 |none => []
theorem follow_in {cs : List In} {pt : List Int} {i : Nat} (hi : i < cs.length) (hp : -1 ≤ pt.getD i 0 ∧ pt.getD i 0 < cs.length) : ∀ nx ∈ follP cs pt i, 0 ≤ nx ∧ nx ≤ cs.length := by
 intro nx hm
 unfold follP at hm
 split at hm
 ·simp only [List.mem_singleton] at hm; omega
 split at hm
 ·simp only [List.mem_cons, List.mem_singleton, List.not_mem_nil, or_false] at hm; omega
 ·simp only [List.mem_singleton] at hm; omega
/-! ### the exported functions -/
theorem cC_aC {la : List (Bool × Int)} : ∀ i j, i < la.length → j < 2 → (aC la i j).cell = true := fun i j _ hj => by
 have : j = 0 ∨ j = 1 := by omega
 rcases this with rfl | rfl <;> rfl
theorem full_of {la : List (Bool × Int)} {regs par : Int} {cs cs2 : List In} {g : FuncId} (h : COk la regs par cs) (hz : (chkD la regs par cs).2 = 0) (ha : argOk cs) (hl : cs2.length ≤ cs.length) (hg : Has Tryz.prog g [codeV la.length (aC la) regs par cs] [.v (.fs 5 cs2.length (cC cs2))]) :
  Has Tryz.prog 24 [codeV la.length (aC la) regs par cs, .f g [] []] [.v (codeV la.length (aC la) regs par cs2), .v (.n .i64 0)] := by
 have hn := h.ncs
 have hA := h.nA
 have hc := check_has la regs par cs (by omega) (by omega) ha
 rw [hz] at hc
 exact checked_has hc hg (copied_v (by omega) cC_aC (by omega))
theorem err_of {la : List (Bool × Int)} {regs par : Int} {cs : List In} {g : FuncId} (hla : la.length < 1000000) (hcs : cs.length < 1000000) (hz : ¬ (chkD la regs par cs).2 = 0) (ha : argOk cs) :
  Has Tryz.prog 24 [codeV la.length (aC la) regs par cs, .f g [] []] [.v codeZ, .v (.n .i64 (chkD la regs par cs).2)] :=
 checked_err hz (check_has la regs par cs hla hcs ha)
theorem walk_len {F : Type} {D : In → F → Bool} {E : F → F → Bool} {V : In → List F → In × Bool × List F} {cs : List In} {pt : List Int} : ∀ (l : List In) (i : Nat) (s s2 : WSt F), walkGo D E V cs pt l i s = some s2 → s2.out.length ≤ s.out.length + l.length
 |[], _, s, s2, h => by cases h; simp
 |x :: l, i, s, s2, h => by
  rw [walkGo] at h
  obtain ⟨s1, h1, h2⟩ := Option.bind_eq_some_iff.1 h
  have := walk_len l (i + 1) s1 s2 h2
  have h3 : s1.out.length ≤ s.out.length + 1 := by
   unfold walkStep at h1
   split at h1
   ·obtain ⟨q, _, rfl⟩ := Option.map_eq_some_iff.1 h1
    simp
   ·cases h1; omega
  simp only [List.length_cons]
  omega
theorem foldC_len {regs : Nat} {cs : List In} : (foldC regs cs).length ≤ cs.length := by
 unfold foldC
 cases h : walkGo DK EK VK cs (ptC cs) cs 0 ⟨[], facts0 regs, []⟩ with
 |none => simp
 |some s => simpa using walk_len _ _ _ _ h
theorem copC_len {cs : List In} : (copC cs).length ≤ cs.length := by
 unfold copC
 cases h : walkGo desS (fun f g => decide (f.1 = g.1) && decide (f.2 = g.2)) copV cs (ptC cs) cs 0 ⟨[], [], []⟩ with
 |none => simp
 |some s => simpa using walk_len _ _ _ _ h
theorem shaC_len {cs : List In} : (shaC cs).length ≤ cs.length := by
 unfold shaC
 cases h : walkGo desV eqIn shaV cs (ptC cs) cs 0 ⟨[], [], []⟩ with
 |none => simp
 |some s => simpa using walk_len _ _ _ _ h
theorem Fold_full {la : List (Bool × Int)} {regs : Nat} {par : Int} {cs : List In} (hz : (chkD la regs par cs).2 = 0) (ha : argOk cs) : Has Tryz.prog 10 [codeV la.length (aC la) regs par cs] [.v (codeV la.length (aC la) regs par (foldC regs cs)), .v (.n .i64 0)] :=
 Fold_has (full_of (chk_ok hz) hz ha foldC_len (foldP_has (chk_ok hz) ha))
theorem Copies_full {la : List (Bool × Int)} {regs par : Int} {cs : List In} (hz : (chkD la regs par cs).2 = 0) (ha : argOk cs) : Has Tryz.prog 13 [codeV la.length (aC la) regs par cs] [.v (codeV la.length (aC la) regs par (copC cs)), .v (.n .i64 0)] :=
 Copies_has (full_of (chk_ok hz) hz ha copC_len (copP_has (chk_ok hz)))
theorem Share_full {la : List (Bool × Int)} {regs par : Int} {cs : List In} (hz : (chkD la regs par cs).2 = 0) (ha : argOk cs) : Has Tryz.prog 15 [codeV la.length (aC la) regs par cs] [.v (codeV la.length (aC la) regs par (shaC cs)), .v (.n .i64 0)] :=
 Share_has (full_of (chk_ok hz) hz ha shaC_len (shaP_has (chk_ok hz)))
end Go.Proofs.YtidhfimbnjaceaaGreat

namespace Go.Proofs.YtidhfimbnjaceaaGreat
open Go.RowKit
set_option linter.unusedVariables false
/-! ### partners -/
theorem rq_rng {n : Int} : ∀ (t : T) (k : Nat) (e : Int), (-1 ≤ e ∧ e < n) → ((k + t.size : Nat) : Int) ≤ n → ∀ x ∈ t.rq k e, -1 ≤ x ∧ x < n
 |.nil, k, e, he, hk, x, hx => by cases hx
 |.plain i r, k, e, he, hk, x, hx => by
  simp only [T.rq, List.mem_cons] at hx
  simp only [T.size] at hk
  rcases hx with rfl | hx
  ·split <;> omega
  ·exact rq_rng r (k + 1) e he (by omega) x hx
 |.ite i a j r, k, e, he, hk, x, hx => by
  simp only [T.rq, List.mem_cons, List.mem_append] at hx
  simp only [T.size] at hk
  rcases hx with rfl | hx | rfl | hx
  ·omega
  ·exact rq_rng a (k + 1) e he (by omega) x hx
  ·omega
  ·exact rq_rng r _ e he (by omega) x hx
 |.ite2 i a y b j r, k, e, he, hk, x, hx => by
  simp only [T.rq, List.mem_cons, List.mem_append] at hx
  simp only [T.size] at hk
  rcases hx with rfl | hx | rfl | hx | rfl | hx
  ·omega
  ·exact rq_rng a (k + 1) e he (by omega) x hx
  ·omega
  ·exact rq_rng b _ e he (by omega) x hx
  ·omega
  ·exact rq_rng r _ e he (by omega) x hx
 |.loop i a j r, k, e, he, hk, x, hx => by
  simp only [T.rq, List.mem_cons, List.mem_append] at hx
  simp only [T.size] at hk
  rcases hx with rfl | hx | rfl | hx
  ·omega
  ·exact rq_rng a (k + 1) _ (by omega) (by omega) x hx
  ·omega
  ·exact rq_rng r _ e he (by omega) x hx
theorem sh_at {cs : List In} {pt : List Int} : ∀ (n k d d' : Nat), shGo cs pt n k d = some d' → ∀ i, k ≤ i → i < k + n → ∃ d1 d2, shStep cs pt i (cs.getD i dIn).1 d1 = some d2
 |0, k, d, d', h, i, h1, h2 => by omega
 |n + 1, k, d, d', h, i, h1, h2 => by
  rw [shGo] at h
  obtain ⟨d1, h3, h4⟩ := Option.bind_eq_some_iff.1 h
  by_cases hi : i = k
  ·subst hi; exact ⟨d, d1, h3⟩
  ·exact sh_at n (k + 1) d1 d' h4 i (by omega) (by omega)
theorem COk.ptr {la : List (Bool × Int)} {regs par : Int} {cs : List In} (h : COk la regs par cs) : ∀ i, i < cs.length → (-1 ≤ (ptC cs).getD i 0 ∧ (ptC cs).getD i 0 < cs.length) ∧ ((cs.getD i (0, 0, 0, 0, 0)).1 = 31 → 0 ≤ (ptC cs).getD i 0) := by
 obtain ⟨hp, hpl, hsh, t, ht, hw, he⟩ := h.pt
 intro i hi
 have hl : cs.length = t.size := by rw [← t.flat_length, ← ht, List.length_map]
 constructor
 ·have hm : (ptC cs).getD i 0 ∈ t.rq 0 0 := by
   rw [← he, List.getD_eq_getElem?_getD, List.getElem?_eq_getElem (by omega)]; exact List.getElem_mem _
  exact rq_rng t 0 0 (by omega) (by omega) _ hm
 ·intro h31
  obtain ⟨d1, d2, hs⟩ := sh_at cs.length 0 0 0 hsh i (by omega) (by omega)
  unfold shStep at hs
  have h31' : (cs.getD i dIn).1 = 31 := h31
  rw [h31', if_neg (by decide), if_neg (by decide), if_neg (by decide), if_pos rfl] at hs
  split at hs
  ·rename_i hp; exact hp.1
  ·cases hs
/-! ### the rounds -/
def cn (f : Nat → Nat) : Nat → Nat
 |0 => 0
 |n + 1 => cn f n + f n
theorem cn_le {f g : Nat → Nat} : ∀ n, (∀ i, i < n → f i ≤ g i) → cn f n ≤ cn g n
 |0, _ => Nat.le_refl _
 |n + 1, h => Nat.add_le_add (cn_le n fun i hi => h i (by omega)) (h n (by omega))
theorem cn_lt {f g : Nat → Nat} : ∀ n, (∀ i, i < n → f i ≤ g i) → (∃ i, i < n ∧ f i < g i) → cn f n < cn g n
 |0, _, ⟨i, hi, _⟩ => by omega
 |n + 1, h, ⟨i, hi, hlt⟩ => by
  have h1 := cn_le n fun i hi => h i (Nat.lt_succ_of_lt hi)
  have h2 := h n (by omega)
  unfold cn
  by_cases e : i = n
  ·subst e; omega
  ·have := cn_lt n (fun i hi => h i (Nat.lt_succ_of_lt hi)) ⟨i, by omega, hlt⟩
   omega
theorem cn_bd {f : Nat → Nat} {b : Nat} : ∀ n, (∀ i, i < n → f i ≤ b) → cn f n ≤ n * b
 |0, _ => by simp [cn]
 |n + 1, h => by
  have := cn_bd n fun i hi => h i (Nat.lt_succ_of_lt hi)
  have := h n (by omega)
  unfold cn
  rw [Nat.succ_mul]
  omega
def rowN (regs : Nat) (f : Nat → Bool) : Nat := cn (fun r => if f r = true then 1 else 0) regs
def lvN (n regs : Nat) (L : Lv) : Nat := cn (fun i => rowN regs (L i)) n
theorem rowN_le {regs : Nat} {f g : Nat → Bool} (h : ∀ r, f r = true → g r = true) : rowN regs f ≤ rowN regs g := by
 refine cn_le _ fun i _ => ?_
 by_cases hf : f i = true
 ·rw [if_pos hf, if_pos (h i hf)]; exact Nat.le_refl _
 ·rw [if_neg hf]; exact Nat.zero_le _
theorem rowN_lt {regs : Nat} {f g : Nat → Bool} (h : ∀ r, f r = true → g r = true) (hne : eqB regs g f ≠ true) : rowN regs f < rowN regs g := by
 have : ∃ r, r < regs ∧ g r ≠ f r := by
  refine Classical.byContradiction fun hc => hne (eqB_iff.2 fun r hr => Classical.byContradiction fun hh => hc ⟨r, hr, hh⟩)
 obtain ⟨r, hr, hgf⟩ := this
 refine cn_lt _ (fun i _ => ?_) ⟨r, hr, ?_⟩
 ·by_cases hf : f i = true
  ·rw [if_pos hf, if_pos (h i hf)]; exact Nat.le_refl _
  ·rw [if_neg hf]; exact Nat.zero_le _
 ·have hf : ¬ f r = true := fun hf => hgf (by rw [hf, h r hf])
  have hg : g r = true := by
   cases hg : g r
   ·have : f r = false := by simpa using hf
    rw [hg, this] at hgf; exact absurd rfl hgf
   ·rfl
  rw [if_neg hf, if_pos hg]; exact Nat.zero_lt_one
theorem rowN_bd {regs : Nat} {f : Nat → Bool} : rowN regs f ≤ regs := by
 have := cn_bd (f := fun r => if f r = true then 1 else 0) (b := 1) regs (fun i _ => by split <;> omega)
 unfold rowN
 omega
theorem nowP_mono {cs : List In} {pt : List Int} {L : Lv} {i r : Nat} (h : L i r = true) : nowP cs pt L i r = true := by
 unfold nowP nowB nowA
 simp [h]
theorem sweepAt_le {cs : List In} {pt : List Int} {regs i n : Nat} {s : Lv × Bool} (hi : i < n) : lvN n regs s.1 ≤ lvN n regs (sweepAt cs pt regs i s).1 ∧ ((sweepAt cs pt regs i s).2 = true → s.2 = true ∨ lvN n regs s.1 < lvN n regs (sweepAt cs pt regs i s).1) := by
 unfold sweepAt
 split
 ·exact ⟨Nat.le_refl _, fun h => .inl h⟩
 ·rename_i hne
  have hle : ∀ q, q < n → rowN regs (s.1 q) ≤ rowN regs (upd s.1 i (nowP cs pt s.1 i) q) := fun q _ => by
   unfold upd
   split
   ·rename_i e; subst e; exact rowN_le fun r hr => nowP_mono hr
   ·exact Nat.le_refl _
  have hlt : lvN n regs s.1 < lvN n regs (upd s.1 i (nowP cs pt s.1 i)) := by
   refine cn_lt _ hle ⟨i, hi, ?_⟩
   unfold upd
   rw [if_pos rfl]
   exact rowN_lt (fun r hr => nowP_mono hr) hne
  exact ⟨Nat.le_of_lt hlt, fun _ => .inr hlt⟩
theorem sweep_le {cs : List In} {pt : List Int} {regs n : Nat} : ∀ (k : Nat) (s : Lv × Bool), k ≤ n → lvN n regs s.1 ≤ lvN n regs (sweep cs pt regs k s).1 ∧ ((sweep cs pt regs k s).2 = true → s.2 = true ∨ lvN n regs s.1 < lvN n regs (sweep cs pt regs k s).1)
 |0, s, _ => ⟨Nat.le_refl _, fun h => .inl h⟩
 |k + 1, s, hk => by
  obtain ⟨h1, h2⟩ := sweepAt_le (cs := cs) (pt := pt) (regs := regs) (s := s) (show k < n by omega)
  obtain ⟨h3, h4⟩ := sweep_le (cs := cs) (pt := pt) (regs := regs) k (sweepAt cs pt regs k s) (show k ≤ n by omega)
  rw [sweep]
  refine ⟨Nat.le_trans h1 h3, fun h => ?_⟩
  rcases h4 h with h5 | h5
  ·rcases h2 h5 with h6 | h6
   ·exact .inl h6
   ·exact .inr (Nat.lt_of_lt_of_le h6 h3)
  ·exact .inr (Nat.lt_of_le_of_lt h1 h5)
theorem rounds_some {cs : List In} {pt : List Int} {regs : Nat} : ∀ (f : Nat) (L : Lv), cs.length * regs < f + lvN cs.length regs L → ∃ L', rounds cs pt regs f L = some L'
 |0, L, h => by
  have : lvN cs.length regs L ≤ cs.length * regs := cn_bd _ fun i _ => rowN_bd
  omega
 |f + 1, L, h => by
  rw [rounds]
  split
  ·rename_i hc
   obtain ⟨h1, h2⟩ := sweep_le (cs := cs) (pt := pt) (regs := regs) cs.length (L, false) (Nat.le_refl _)
   rcases h2 hc with h3 | h3
   ·cases h3
   ·exact rounds_some f _ (by simp only at h3; omega)
  ·exact ⟨_, rfl⟩
def livF (regs : Nat) (cs : List In) : Nat := cs.length * regs + 1
theorem liv_some (regs : Nat) (cs : List In) : ∃ L, livC (livF regs cs) regs cs = some L := rounds_some _ _ (by unfold livF; omega)
theorem idle_to {x : In} {regs : Nat} {par nA : Int} (h : InC regs par nA x) (hi : idleB x.1 = true) : 0 ≤ x.2.1 ∧ x.2.1 < regs := by
 have ht := h.to
 have hs : (shapeT x.1.toNat).getD 1 false = true := by
  obtain ⟨k, hk⟩ : ∃ k : Nat, x.1 = (k : Int) := ⟨x.1.toNat, by have := h.op; omega⟩
  have hk39 : k < 39 := by have := h.op; omega
  rw [hk] at hi ⊢
  rw [Int.toNat_natCast]
  have key : ∀ k : Nat, k < 39 → idleB (k : Int) = true → (shapeT k).getD 1 false = true := by decide
  exact key k hk39 hi
 rw [if_pos hs] at ht
 exact ht
theorem pruP_has {la : List (Bool × Int)} {regs : Nat} {par : Int} {cs : List In} (fuel : Nat) {L : Lv} (h : COk la regs par cs) (ha : argOk cs) (hL : livC fuel regs cs = some L)
  (hdel : holP (prGo L cs 0) ≠ none → DelOK Tryz.prog 77 37) :
  Has Tryz.prog 47 [codeV la.length (aC la) regs par cs] [.v (.fs 5 (pruC fuel regs cs).length (cC (pruC fuel regs cs)))] := by
 obtain ⟨hp, hpl, hsh, _⟩ := h.pt
 have hn := h.ncs
 have hr := h.nregs
 have hlv := live_has (na := la.length) (ra := aC la) (par := par) (fuel := fuel) (Lf := L) (by omega) (by omega) hp hpl (h.inOk ha) h.ptr (fun i hi => follow_in hi (h.ptr i hi).1) hL
 have he : pruC fuel regs cs = dels (prGo L cs 0).length (prGo L cs 0) := by unfold pruC; rw [hL]
 rw [he]
 exact has_frz (prune_has (by omega) (by omega) (h.inOk ha) (fun x hx hi => idle_to (h.inC x hx) hi) hlv hdel) rfl
theorem delP_le {cs : List In} {i d : Nat} : (delP cs i d).length ≤ cs.length := by
 unfold delP
 rw [List.length_append, List.length_take, List.length_drop]
 omega
theorem dels_le : ∀ (f : Nat) (l : List In), (dels f l).length ≤ l.length
 |0, l => Nat.le_refl _
 |f + 1, l => by
  rw [dels]
  split
  ·exact Nat.le_refl _
  ·exact Nat.le_trans (dels_le f _) delP_le
theorem pruC_len {fuel regs : Nat} {cs : List In} : (pruC fuel regs cs).length ≤ cs.length := by
 unfold pruC
 split
 ·exact Nat.le_trans (dels_le _ _) (prGo_len _ _ _)
 ·simp
theorem Prune_full {la : List (Bool × Int)} {regs : Nat} {par : Int} {cs : List In} (fuel : Nat) {L : Lv} (hz : (chkD la regs par cs).2 = 0) (ha : argOk cs) (hL : livC fuel regs cs = some L)
  (hdel : holP (prGo L cs 0) ≠ none → DelOK Tryz.prog 77 37) :
  Has Tryz.prog 17 [codeV la.length (aC la) regs par cs] [.v (codeV la.length (aC la) regs par (pruC fuel regs cs)), .v (.n .i64 0)] :=
 Prune_has (full_of (chk_ok hz) hz ha pruC_len (pruP_has fuel (chk_ok hz) ha hL hdel))
/-! ### Optimize -/
structure Ready (la : List (Bool × Int)) (regs : Nat) (par : Int) (cs : List In) : Prop where
 chk : (chkD la regs par cs).2 = 0
 arg : argOk cs
theorem Optimize_full {la : List (Bool × Int)} {regs : Nat} {par : Int} {cs : List In} (Good : List In → Prop) (hgood : ∀ c, Good c → Ready la regs par c) (h1 : ∀ c, Good c → Good (foldC regs c)) (h2 : ∀ c, Good c → Good (copC c)) (h3 : ∀ c, Good c → Good (shaC c)) (fuel : Nat) (hL : ∀ c, Good c → livC fuel regs c ≠ none)
  (h4 : ∀ c, Good c → Good (pruC fuel regs c)) (hdel : ∀ c L, Good c → livC fuel regs c = some L → holP (prGo L c 0) ≠ none → DelOK Tryz.prog 77 37) (hg : Good cs) (hlen : (optR (fun c => pruC fuel regs (shaC (copC (foldC regs c)))) 8 cs).length ≤ cs.length) :
  Has Tryz.prog 19 [codeV la.length (aC la) regs par cs] [.v (codeV la.length (aC la) regs par (optR (fun c => pruC fuel regs (shaC (copC (foldC regs c)))) 8 cs)), .v (.n .i64 0)] := by
 have hz := (hgood cs hg).chk
 have hk := chk_ok hz
 have hA := hk.nA
 refine Optimize_has (full_of hk hz (hgood cs hg).arg hlen ?_)
 refine opt1_has (Good := Good) (by omega) cC_aC (fun c hc => by have := (chk_ok (hgood c hc).chk).ncs; omega) (fun c hc => ⟨foldP_has (chk_ok (hgood c hc).chk) (hgood c hc).arg, h1 c hc⟩) (fun c hc => ⟨copP_has (chk_ok (hgood c hc).chk), h2 c hc⟩) (fun c hc => ⟨shaP_has (chk_ok (hgood c hc).chk), h3 c hc⟩) (fun c hc => ⟨?_, h4 c hc⟩) hg
 cases hLc : livC fuel regs c with
 |none => exact absurd hLc (hL c hc)
 |some L => exact pruP_has fuel (chk_ok (hgood c hc).chk) (hgood c hc).arg hLc (hdel c L hc hLc)
end Go.Proofs.YtidhfimbnjaceaaGreat

namespace Go.Proofs.YtidhfimbnjaceaaGreat
open Go.RowKit
set_option linter.unusedVariables false
set_option linter.unusedSimpArgs false
theorem has_cvs {P : Program} {f : FuncId} {args l l' : List AV} (h : Has P f args (l.map .v)) (hc : ∀ H, Cvs [] H l l') (hp : l'.all (AV.pu 3) = true) : Has P f args (l'.map .v) := by
 refine ⟨h.1, fun φ w args' hφ ha => (h.2 φ w args' hφ ha).mono fun e w' hq => ?_⟩
 cases e with
 |panicked c => exact hq.elim
 |outgrown => exact hq.elim
 |returned u =>
  obtain ⟨v, Hc, σ', ⟨l2, rfl, hr⟩, hv, hHc, hbel, hfz⟩ := hq
  have hl2 : ∀ {l l2 : List AV}, RRs (l.map RT.v) l2 Hc → l2 = l := fun {l l2} => by
   intro h
   induction l generalizing l2 with
   |nil => cases l2 with
    |nil => rfl
    |cons _ _ => exact h.elim
   |cons x l ih => cases l2 with
    |nil => exact h.elim
    |cons y l2 =>
     have h1 : y = x := h.1.1
     rw [h1, ih h.2]
  have := hl2 hr
  subst this
  obtain ⟨us, hus, hback⟩ := oneOf_inv hv
  obtain ⟨σ2, q1, q2, q3, q4, q5, q6, q7⟩ := hHc.marks []
  have hd := (hc Hc).ok hHc q1 q2 q7 hus
  refine ⟨_, markL Hc [], σ2, ⟨_, rfl, RRs_data _ hp⟩, hback (hc Hc).len.symm (hd.mono (Sg.bare_le _)), q6, hbel, fun c hc => ?_⟩
  rw [q4 c hc]; exact hfz c hc
theorem i_has (op to a b arg : Int) : Has Tryz.prog 23 [.n .i64 op, .n .i64 to, .n .i64 a, .n .i64 b, .n .u32 arg] [.v (insV (op, to, a, b, arg))] := by
 refine hasQ_of' mixo x76ok ⟨by simp, by decide⟩ ?_
 simp only [argE]
 repeat (first | (with_reducible refine GA.go mixo rfl ?_) | simp only [go_sem, simprocAttr])
 exact has_end1 rfl rfl
theorem code_has {cs : List In} : Has Tryz.prog 22 [.fs 5 cs.length (cC cs)] [.v (codeV 0 (aC []) 4 0 cs)] := by
 refine has_cvs (l := [.agg [.sl0, .n .i64 4, .n .i64 0, .fs 5 cs.length (cC cs)]]) (l' := [codeV 0 (aC []) 4 0 cs]) ?_ (fun H => .cons (.agg rfl fun i v v' h1 h2 => ?_) .nil) rfl
 ·refine hasQ_of' mixo x75ok ⟨by simp, by decide⟩ ?_
  simp only [argE]
  repeat (first | (with_reducible refine GA.go mixo rfl ?_) | simp only [go_sem, simprocAttr])
  exact has_end1 rfl rfl
 ·match i, h1, h2 with
  |0, h1, h2 => cases h1; cases h2; exact .sl0 _ _
  |1, h1, h2 => cases h1; cases h2; exact .rfl rfl
  |2, h1, h2 => cases h1; cases h2; exact .rfl rfl
  |3, h1, h2 => cases h1; cases h2; exact .rfl rfl
  |i + 4, h1, h2 => cases h1
def awOne : List In := [(0, 0, -1, -1, 2), (0, 1, -1, -1, 3), (8, 0, 0, 1, 0), (34, -1, 0, -1, 0)]
def awOneA : List In := [(0, 0, -1, -1, 2), (0, 1, -1, -1, 3), (0, 0, -1, -1, 5), (34, -1, 0, -1, 0)]
def awOneB : List In := [(0, 0, -1, -1, 5), (34, -1, 0, -1, 0)]
def awTwo : List In := [(32, 1, -1, -1, 0), (36, 2, 1, -1, 0), (34, -1, 2, -1, 0), (34, -1, 1, -1, 0)]
def awTwoC : List In := [(32, 1, -1, -1, 0), (36, 2, 1, -1, 0), (34, -1, 1, -1, 0), (34, -1, 1, -1, 0)]
def awTwoD : List In := [(32, 1, -1, -1, 0), (34, -1, 1, -1, 0), (34, -1, 1, -1, 0)]
def awThree : List In := [(32, 0, -1, -1, 0), (32, 1, -1, -1, 0), (8, 2, 0, 1, 0), (8, 3, 0, 1, 0), (34, -1, 3, -1, 0)]
def awThreeS : List In := [(32, 0, -1, -1, 0), (36, 1, 0, -1, 0), (8, 2, 0, 1, 0), (36, 3, 2, -1, 0), (34, -1, 3, -1, 0)]
def awThreeT : List In := [(32, 0, -1, -1, 0), (8, 2, 0, 0, 0), (34, -1, 2, -1, 0)]
def awFuel : Nat := 8
theorem aw_fold : foldC 4 awOne = awOneA := by kernel_rfl
theorem aw_prune : pruC awFuel 4 awOneA = awOneB := by kernel_rfl
theorem aw_copies : copC awTwo = awTwoC := by kernel_rfl
theorem aw_prune2 : pruC awFuel 4 awTwoC = awTwoD := by kernel_rfl
theorem aw_share : shaC awThree = awThreeS := by kernel_rfl
theorem aw_opt : optR (fun c => pruC awFuel 4 (shaC (copC (foldC 4 c)))) 8 awThree = awThreeT := by kernel_rfl
end Go.Proofs.YtidhfimbnjaceaaGreat

namespace Go.Proofs.YtidhfimbnjaceaaGreat
open Go.RowKit
set_option linter.unusedVariables false
def awL : List (List In) := [awThree, awThreeS, [(32, 0, -1, -1, 0), (32, 1, -1, -1, 0), (8, 3, 0, 1, 0), (34, -1, 3, -1, 0)], [(32, 0, -1, -1, 0), (36, 1, 0, -1, 0), (8, 2, 0, 0, 0), (36, 3, 2, -1, 0), (34, -1, 2, -1, 0)],
 [(32, 0, -1, -1, 0), (36, 1, 0, -1, 0), (8, 3, 0, 1, 0), (34, -1, 3, -1, 0)], awThreeT, [(32, 0, -1, -1, 0), (36, 1, 0, -1, 0), (8, 3, 0, 0, 0), (34, -1, 3, -1, 0)], [(32, 0, -1, -1, 0), (8, 3, 0, 0, 0), (34, -1, 3, -1, 0)]]
def argB (cs : List In) : Bool := cs.all fun x => decide (0 ≤ x.2.2.2.2) && decide (x.2.2.2.2 < 4294967296)
theorem argB_ok {cs : List In} (h : argB cs = true) : argOk cs := fun x hx => by
 have := List.all_eq_true.1 h x hx
 simpa using this
def holeB (cs : List In) : Bool := match livC awFuel 4 cs with
 |some L => decide (holP (prGo L cs 0) = none)
 |none => false
theorem holeB_ok {cs : List In} (h : holeB cs = true) : ∃ L, livC awFuel 4 cs = some L ∧ holP (prGo L cs 0) = none := by
 unfold holeB at h
 split at h
 ·rename_i L hL; exact ⟨L, hL, by simpa using h⟩
 ·cases h
def allB (p : List In → Bool) : Bool := awL.all p
theorem allB_ok {p : List In → Bool} (h : allB p = true) {c : List In} (hc : c ∈ awL) : p c = true := List.all_eq_true.1 h c hc
theorem awF : Has Tryz.prog 10 [codeV 0 (aC []) 4 0 awOne] [.v (codeV 0 (aC []) 4 0 awOneA), .v (.n .i64 0)] := by
 have h := Fold_full (la := []) (regs := 4) (par := 0) (cs := awOne) (by kernel_rfl) (argB_ok (by kernel_rfl))
 rw [aw_fold] at h
 exact h
theorem awP {cs cs2 : List In} (hz : (chkD [] 4 0 cs).2 = 0) (ha : argB cs = true) (hh : holeB cs = true) (he : pruC awFuel 4 cs = cs2) : Has Tryz.prog 17 [codeV 0 (aC []) 4 0 cs] [.v (codeV 0 (aC []) 4 0 cs2), .v (.n .i64 0)] := by
 obtain ⟨L, hL, hn⟩ := holeB_ok hh
 have h := Prune_full (la := []) (regs := 4) (par := 0) (cs := cs) awFuel hz (argB_ok ha) hL (fun hne => absurd hn hne)
 rw [he] at h
 exact h
theorem awP1 : Has Tryz.prog 17 [codeV 0 (aC []) 4 0 awOneA] [.v (codeV 0 (aC []) 4 0 awOneB), .v (.n .i64 0)] := awP (by kernel_rfl) (by kernel_rfl) (by kernel_rfl) aw_prune
theorem awC : Has Tryz.prog 13 [codeV 0 (aC []) 4 0 awTwo] [.v (codeV 0 (aC []) 4 0 awTwoC), .v (.n .i64 0)] := by
 have h := Copies_full (la := []) (regs := 4) (par := 0) (cs := awTwo) (by kernel_rfl) (argB_ok (by kernel_rfl))
 rw [aw_copies] at h
 exact h
theorem awP2 : Has Tryz.prog 17 [codeV 0 (aC []) 4 0 awTwoC] [.v (codeV 0 (aC []) 4 0 awTwoD), .v (.n .i64 0)] := awP (by kernel_rfl) (by kernel_rfl) (by kernel_rfl) aw_prune2
theorem awS : Has Tryz.prog 15 [codeV 0 (aC []) 4 0 awThree] [.v (codeV 0 (aC []) 4 0 awThreeS), .v (.n .i64 0)] := by
 have h := Share_full (la := []) (regs := 4) (par := 0) (cs := awThree) (by kernel_rfl) (argB_ok (by kernel_rfl))
 rw [aw_share] at h
 exact h
theorem awO : Has Tryz.prog 19 [codeV 0 (aC []) 4 0 awThree] [.v (codeV 0 (aC []) 4 0 awThreeT), .v (.n .i64 0)] := by
 have h := Optimize_full (la := []) (regs := 4) (par := 0) (cs := awThree) (fun c => c ∈ awL)
  (fun c hc => ⟨of_decide_eq_true (allB_ok (p := fun c => decide ((chkD [] 4 0 c).2 = 0)) (by kernel_rfl) hc), argB_ok (allB_ok (p := argB) (by kernel_rfl) hc)⟩)
  (fun c hc => of_decide_eq_true (allB_ok (p := fun c => decide (foldC 4 c ∈ awL)) (by kernel_rfl) hc))
  (fun c hc => of_decide_eq_true (allB_ok (p := fun c => decide (copC c ∈ awL)) (by kernel_rfl) hc))
  (fun c hc => of_decide_eq_true (allB_ok (p := fun c => decide (shaC c ∈ awL)) (by kernel_rfl) hc)) awFuel
  (fun c hc => by
   obtain ⟨L, hL, _⟩ := holeB_ok (allB_ok (p := holeB) (by kernel_rfl) hc)
   rw [hL]; simp)
  (fun c hc => of_decide_eq_true (allB_ok (p := fun c => decide (pruC awFuel 4 c ∈ awL)) (by kernel_rfl) hc))
  (fun c L hc hL hne => by
   obtain ⟨L', hL', hn⟩ := holeB_ok (allB_ok (p := holeB) (by kernel_rfl) hc)
   rw [hL] at hL'
   cases hL'
   exact absurd hn hne)
  (of_decide_eq_true (by kernel_rfl)) (by rw [aw_opt]; exact of_decide_eq_true (by kernel_rfl))
 rw [aw_opt] at h
 exact h
theorem awSame (cs : List In) (h : cs.length < 1000000) : Has Tryz.prog 12 [codeV 0 (aC []) 4 0 cs, codeV 0 (aC []) 4 0 cs] [.v (.b true)] := by
 have := same_any [] (by decide) 4 0 cs cs h
 rw [decide_eq_true rfl] at this
 exact this
end Go.Proofs.YtidhfimbnjaceaaGreat

namespace Go.Proofs.YtidhfimbnjaceaaGreat
open Go.RowKit
set_option linter.unusedVariables false
set_option linter.unusedSimpArgs false
theorem lt4a {i : Nat} (h : i < 4) : i = 0 ∨ i = 1 ∨ i = 2 ∨ i = 3 := by omega
abbrev awV (cs : List In) : List AV := [.fs 2 0 (aC []), .n .i64 4, .n .i64 0, .fs 5 cs.length (cC cs)]
abbrev cellsI (x : In) : List AV := [.n .i64 x.1, .n .i64 x.2.1, .n .i64 x.2.2.1, .n .i64 x.2.2.2.1, .n .u32 x.2.2.2.2]
theorem lt_2 {i : Nat} (h : i < 2) : i = 0 ∨ i = 1 := by omega
theorem lt_3 {i : Nat} (h : i < 3) : i = 0 ∨ i = 1 ∨ i = 2 := by omega
theorem lt_4 {i : Nat} (h : i < 4) : i = 0 ∨ i = 1 ∨ i = 2 ∨ i = 3 := by omega
theorem lt_5 {i : Nat} (h : i < 5) : i = 0 ∨ i = 1 ∨ i = 2 ∨ i = 3 ∨ i = 4 := by omega
theorem aw_add : IntKind.wrap .i64 ((0 : Int) + 0) = 0 := by decide
theorem aw_w0 : IntKind.wrap .i64 0 = 0 := by decide
theorem awake_has : Has Tryz.prog 9 [] [.v (.b true)] := by
 refine hasQ_of' mixo x77ok ⟨by simp, by decide⟩ ?_
 simp only [argE]
 repeat (first | (with_reducible refine GA.go mixo rfl ?_) | simp only [go_sem, simprocAttr])
 refine gcall_has [] (.cons (.rfl rfl) (.cons (.rfl rfl) (.cons (.rfl rfl) (.cons (.rfl rfl) (.cons (.rfl rfl) .nil))))) (i_has _ _ _ _ _) (by simp only [go_sem, simprocAttr]) ?_
 simp only [insV, go_sem, simprocAttr]
 refine gcall_has [] (.cons (.rfl rfl) (.cons (.rfl rfl) (.cons (.rfl rfl) (.cons (.rfl rfl) (.cons (.rfl rfl) .nil))))) (i_has _ _ _ _ _) (by simp only [go_sem, simprocAttr]) ?_
 simp only [insV, go_sem, simprocAttr]
 refine gcall_has [] (.cons (.rfl rfl) (.cons (.rfl rfl) (.cons (.rfl rfl) (.cons (.rfl rfl) (.cons (.rfl rfl) .nil))))) (i_has _ _ _ _ _) (by simp only [go_sem, simprocAttr]) ?_
 simp only [insV, go_sem, simprocAttr]
 refine gcall_has [] (.cons (.rfl rfl) (.cons (.rfl rfl) (.cons (.rfl rfl) (.cons (.rfl rfl) (.cons (.rfl rfl) .nil))))) (i_has _ _ _ _ _) (by simp only [go_sem, simprocAttr]) ?_
 simp only [insV, go_sem, simprocAttr]
 refine gcall_has [0] (fargs := [.fs 5 awOne.length (cC awOne)]) (.cons (.sl (x := _) (by simp) (by simp only [go_sem, simprocAttr] <;> rfl) (by simp only [awOne, go_sem, simprocAttr] <;> decide) (by decide) (by simp only [go_sem, simprocAttr] <;> decide) (fun i j hi hj => ?_) (fun i j _ hj => cC_cell i hj)) .nil) code_has (by simp only [go_sem, simprocAttr]) ?_
 ·rcases lt_4 hi with rfl | rfl | rfl | rfl <;> rcases lt5 hj with rfl | rfl | rfl | rfl | rfl <;> rfl
 simp only [codeV, insV, go_sem, simprocAttr]
 refine GA.wk (Wk.mk (L := [(1, .p 0 0)]) (bl := [lstB 0 25 (awV awOne)]) [1] [] ?_ ?_ ?_) ?_
 ·simp only [WkE, WkH, go_sem, simprocAttr]
  repeat' refine and_of ?_ ?_
  all_goals first | exact wku | skip
 ·exact .cons rfl (.lsti (x := _) (by simp only [go_sem, simprocAttr] <;> rfl) (by rfl) (by rfl) (by rfl) (by rfl) (by rfl) (by rfl) (by simp) (fun i hi => by rcases lt4a hi with rfl | rfl | rfl | rfl <;> (simp only [awV, go_sem, simprocAttr]; first | done | rfl)) (by rfl)) (.nil)
 ·simp
 have hF := awF
 have hP1 := awP1
 simp only [codeV] at hF hP1
 repeat (first | (with_reducible refine GA.go mixo rfl ?_) | simp only [go_sem, simprocAttr])
 refine gcall_has [] (.cons (.rfl (by rfl)) .nil) hF (by simp only [go_sem, simprocAttr]) ?_
 simp only [codeV, go_sem, simprocAttr]
 refine GA.wk (Wk.mk (L := [(1, .p 0 0), (2, .p 1 0), (3, .n .i64 0)]) (bl := [lstB 0 25 (awV awOneA), lstB 0 25 (awV awOne)]) [1, 0] [] ?_ ?_ ?_) ?_
 ·simp only [WkE, WkH, go_sem, simprocAttr]
  repeat' refine and_of ?_ ?_
  all_goals first | exact wku | skip
 ·exact .cons rfl (.lsti (x := _) (by simp only [go_sem, simprocAttr] <;> rfl) (by rfl) (by rfl) (by rfl) (by rfl) (by rfl) (by rfl) (by simp) (fun i hi => by rcases lt4a hi with rfl | rfl | rfl | rfl <;> (simp only [awV, go_sem, simprocAttr]; first | done | rfl)) (by rfl)) (.cons rfl (.lsti (x := _) (by simp only [go_sem, simprocAttr] <;> rfl) (by rfl) (by rfl) (by rfl) (by rfl) (by rfl) (by rfl) (by simp) (fun i hi => by rcases lt4a hi with rfl | rfl | rfl | rfl <;> (simp only [awV, go_sem, simprocAttr]; first | done | rfl)) (by rfl)) (.nil))
 ·simp
 repeat (first | (with_reducible refine GA.go mixo rfl ?_) | simp only [go_sem, simprocAttr])
 refine gcall_has [] (.cons (.rfl (by rfl)) .nil) hP1 (by simp only [go_sem, simprocAttr]) ?_
 simp only [codeV, go_sem, simprocAttr]
 refine GA.wk (Wk.mk (L := [(1, .p 0 0), (2, .p 1 0), (4, .p 2 0), (3, .n .i64 0), (5, .n .i64 0)]) (bl := [lstB 0 25 (awV awOneB), lstB 0 25 (awV awOneA), lstB 0 25 (awV awOne)]) [2, 1, 0] [] ?_ ?_ ?_) ?_
 ·simp only [WkE, WkH, go_sem, simprocAttr]
  repeat' refine and_of ?_ ?_
  all_goals first | exact wku | skip
 ·exact .cons rfl (.lsti (x := _) (by simp only [go_sem, simprocAttr] <;> rfl) (by rfl) (by rfl) (by rfl) (by rfl) (by rfl) (by rfl) (by simp) (fun i hi => by rcases lt4a hi with rfl | rfl | rfl | rfl <;> (simp only [awV, go_sem, simprocAttr]; first | done | rfl)) (by rfl)) (.cons rfl (.lsti (x := _) (by simp only [go_sem, simprocAttr] <;> rfl) (by rfl) (by rfl) (by rfl) (by rfl) (by rfl) (by rfl) (by simp) (fun i hi => by rcases lt4a hi with rfl | rfl | rfl | rfl <;> (simp only [awV, go_sem, simprocAttr]; first | done | rfl)) (by rfl)) (.cons rfl (.lsti (x := _) (by simp only [go_sem, simprocAttr] <;> rfl) (by rfl) (by rfl) (by rfl) (by rfl) (by rfl) (by rfl) (by simp) (fun i hi => by rcases lt4a hi with rfl | rfl | rfl | rfl <;> (simp only [awV, go_sem, simprocAttr]; first | done | rfl)) (by rfl)) (.nil)))
 ·simp
 repeat (first | (with_reducible refine GA.go mixo rfl ?_) | simp only [go_sem, simprocAttr])
 refine gcall_has [] (.cons (.rfl rfl) (.cons (.rfl rfl) (.cons (.rfl rfl) (.cons (.rfl rfl) (.cons (.rfl rfl) .nil))))) (i_has _ _ _ _ _) (by simp only [go_sem, simprocAttr]) ?_
 simp only [insV, go_sem, simprocAttr]
 refine GA.wk (Wk.mk (L := [(1, .p 0 0), (2, .p 1 0), (4, .p 2 0), (6, .p 3 0), (3, .n .i64 0), (5, .n .i64 0)]) (bl := [lstB 0 37 (cellsI (0, 0, -1, -1, 5)), lstB 0 25 (awV awOneB), lstB 0 25 (awV awOneA), lstB 0 25 (awV awOne)]) [3, 2, 1, 0] [] ?_ ?_ ?_) ?_
 ·simp only [WkE, WkH, go_sem, simprocAttr]
  repeat' refine and_of ?_ ?_
  all_goals first | exact wku | skip
 ·exact .cons rfl (.lsti (x := _) (by simp only [go_sem, simprocAttr] <;> rfl) (by rfl) (by rfl) (by rfl) (by rfl) (by rfl) (by rfl) (by simp) (fun i hi => by rcases lt5 hi with rfl | rfl | rfl | rfl | rfl <;> (simp only [cellsI, go_sem, simprocAttr]; first | done | rfl)) (by rfl)) (.cons rfl (.lsti (x := _) (by simp only [go_sem, simprocAttr] <;> rfl) (by rfl) (by rfl) (by rfl) (by rfl) (by rfl) (by rfl) (by simp) (fun i hi => by rcases lt4a hi with rfl | rfl | rfl | rfl <;> (simp only [awV, go_sem, simprocAttr]; first | done | rfl)) (by rfl)) (.cons rfl (.lsti (x := _) (by simp only [go_sem, simprocAttr] <;> rfl) (by rfl) (by rfl) (by rfl) (by rfl) (by rfl) (by rfl) (by simp) (fun i hi => by rcases lt4a hi with rfl | rfl | rfl | rfl <;> (simp only [awV, go_sem, simprocAttr]; first | done | rfl)) (by rfl)) (.cons rfl (.lsti (x := _) (by simp only [go_sem, simprocAttr] <;> rfl) (by rfl) (by rfl) (by rfl) (by rfl) (by rfl) (by rfl) (by simp) (fun i hi => by rcases lt4a hi with rfl | rfl | rfl | rfl <;> (simp only [awV, go_sem, simprocAttr]; first | done | rfl)) (by rfl)) (.nil))))
 ·simp
 have hl0 : (0 : Int) < (awOne.length : Int) := by decide
 have hp0 : (0 : Int) ≤ 0 := by decide
 have hn0 : Int.toNat 0 = 0 := rfl
 have hc00 : cC awOne 0 0 = .n .i64 (0) := rfl
 have hc01 : cC awOne 0 1 = .n .i64 (0) := rfl
 have hc02 : cC awOne 0 2 = .n .i64 (-1) := rfl
 have hc03 : cC awOne 0 3 = .n .i64 (-1) := rfl
 have hc04 : cC awOne 0 4 = .n .u32 (2) := rfl
 have hl1 : (1 : Int) < (awOne.length : Int) := by decide
 have hp1 : (0 : Int) ≤ 1 := by decide
 have hn1 : Int.toNat 1 = 1 := rfl
 have hc10 : cC awOne 1 0 = .n .i64 (0) := rfl
 have hc11 : cC awOne 1 1 = .n .i64 (1) := rfl
 have hc12 : cC awOne 1 2 = .n .i64 (-1) := rfl
 have hc13 : cC awOne 1 3 = .n .i64 (-1) := rfl
 have hc14 : cC awOne 1 4 = .n .u32 (3) := rfl
 have hl3 : (3 : Int) < (awOne.length : Int) := by decide
 have hp3 : (0 : Int) ≤ 3 := by decide
 have hn3 : Int.toNat 3 = 3 := rfl
 have hc30 : cC awOne 3 0 = .n .i64 (34) := rfl
 have hc31 : cC awOne 3 1 = .n .i64 (-1) := rfl
 have hc32 : cC awOne 3 2 = .n .i64 (0) := rfl
 have hc33 : cC awOne 3 3 = .n .i64 (-1) := rfl
 have hc34 : cC awOne 3 4 = .n .u32 (0) := rfl
 with_reducible refine GA.seq ?_
 with_reducible refine GA.seq ?_
 with_reducible refine GA.mixv mixo ?_ ?_
 ·rfl
 try simp only [gMixV_nil, gdV_true, gdV_false, kMixV_app, ldV_some, puK_some, puV_none, puV_u, puV_n, puV_b, puV_p, puV_fp, puV_fs, puV_tup, puV_agg, aprun_ap, erV_ld, hl0, hp0, hn0, hc00, hc01, hc02, hc03, hc04, hl1, hp1, hn1, hc10, hc11, hc12, hc13, hc14, hl3, hp3, hn3, hc30, hc31, hc32, hc33, hc34, aw_add, aw_w0, decide_true, decide_false, go_sem, simprocAttr]
 repeat (rw [gMixV_cons]; simp only [gMixV_nil, gdV_true, gdV_false, kMixV_app, ldV_some, puK_some, puV_none, puV_u, puV_n, puV_b, puV_p, puV_fp, puV_fs, puV_tup, puV_agg, aprun_ap, erV_ld, hl0, hp0, hn0, hc00, hc01, hc02, hc03, hc04, hl1, hp1, hn1, hc10, hc11, hc12, hc13, hc14, hl3, hp3, hn3, hc30, hc31, hc32, hc33, hc34, aw_add, aw_w0, decide_true, decide_false, go_sem, simprocAttr])
 refine gcall_has [4] (fargs := [.fs 5 awOneA.length (cC awOneA)]) (.cons (.sl (x := _) (by simp) (by simp only [go_sem, simprocAttr] <;> rfl) (by simp only [awOneA, go_sem, simprocAttr] <;> decide) (by decide) (by simp only [go_sem, simprocAttr] <;> decide) (fun i j hi hj => ?_) (fun i j _ hj => cC_cell i hj)) .nil) code_has (by simp only [go_sem, simprocAttr]) ?_
 ·rcases lt_4 hi with rfl | rfl | rfl | rfl <;> rcases lt5 hj with rfl | rfl | rfl | rfl | rfl <;> rfl
 simp only [codeV, insV, gMixV_nil, gdV_true, gdV_false, kMixV_app, ldV_some, puK_some, puV_none, puV_u, puV_n, puV_b, puV_p, puV_fp, puV_fs, puV_tup, puV_agg, aprun_ap, erV_ld, hl0, hp0, hn0, hc00, hc01, hc02, hc03, hc04, hl1, hp1, hn1, hc10, hc11, hc12, hc13, hc14, hl3, hp3, hn3, hc30, hc31, hc32, hc33, hc34, aw_add, aw_w0, decide_true, decide_false, go_sem, simprocAttr]
 try simp only [gMixV_nil, gdV_true, gdV_false, kMixV_app, ldV_some, puK_some, puV_none, puV_u, puV_n, puV_b, puV_p, puV_fp, puV_fs, puV_tup, puV_agg, aprun_ap, erV_ld, hl0, hp0, hn0, hc00, hc01, hc02, hc03, hc04, hl1, hp1, hn1, hc10, hc11, hc12, hc13, hc14, hl3, hp3, hn3, hc30, hc31, hc32, hc33, hc34, aw_add, aw_w0, decide_true, decide_false, go_sem, simprocAttr]
 repeat (rw [gMixV_cons]; simp only [gMixV_nil, gdV_true, gdV_false, kMixV_app, ldV_some, puK_some, puV_none, puV_u, puV_n, puV_b, puV_p, puV_fp, puV_fs, puV_tup, puV_agg, aprun_ap, erV_ld, hl0, hp0, hn0, hc00, hc01, hc02, hc03, hc04, hl1, hp1, hn1, hc10, hc11, hc12, hc13, hc14, hl3, hp3, hn3, hc30, hc31, hc32, hc33, hc34, aw_add, aw_w0, decide_true, decide_false, go_sem, simprocAttr])
 refine gcall_has [] (.cons (.rfl (by rfl)) (.cons (.rfl (by rfl)) .nil)) (by have := awSame awOneA (by decide); simp only [codeV] at this; exact this) (by simp only [go_sem, simprocAttr]) ?_
 try simp only [gMixV_nil, gdV_true, gdV_false, kMixV_app, ldV_some, puK_some, puV_none, puV_u, puV_n, puV_b, puV_p, puV_fp, puV_fs, puV_tup, puV_agg, aprun_ap, erV_ld, hl0, hp0, hn0, hc00, hc01, hc02, hc03, hc04, hl1, hp1, hn1, hc10, hc11, hc12, hc13, hc14, hl3, hp3, hn3, hc30, hc31, hc32, hc33, hc34, aw_add, aw_w0, decide_true, decide_false, go_sem, simprocAttr]
 repeat (rw [gMixV_cons]; simp only [gMixV_nil, gdV_true, gdV_false, kMixV_app, ldV_some, puK_some, puV_none, puV_u, puV_n, puV_b, puV_p, puV_fp, puV_fs, puV_tup, puV_agg, aprun_ap, erV_ld, hl0, hp0, hn0, hc00, hc01, hc02, hc03, hc04, hl1, hp1, hn1, hc10, hc11, hc12, hc13, hc14, hl3, hp3, hn3, hc30, hc31, hc32, hc33, hc34, aw_add, aw_w0, decide_true, decide_false, go_sem, simprocAttr])
 refine gcall_has [5] (fargs := [.fs 5 awOneB.length (cC awOneB)]) (.cons (.sl (x := _) (by simp) (by simp only [go_sem, simprocAttr] <;> rfl) (by simp only [awOneB, go_sem, simprocAttr] <;> decide) (by decide) (by simp only [go_sem, simprocAttr] <;> decide) (fun i j hi hj => ?_) (fun i j _ hj => cC_cell i hj)) .nil) code_has (by simp only [go_sem, simprocAttr]) ?_
 ·rcases lt_2 hi with rfl | rfl <;> rcases lt5 hj with rfl | rfl | rfl | rfl | rfl <;> rfl
 simp only [codeV, insV, gMixV_nil, gdV_true, gdV_false, kMixV_app, ldV_some, puK_some, puV_none, puV_u, puV_n, puV_b, puV_p, puV_fp, puV_fs, puV_tup, puV_agg, aprun_ap, erV_ld, hl0, hp0, hn0, hc00, hc01, hc02, hc03, hc04, hl1, hp1, hn1, hc10, hc11, hc12, hc13, hc14, hl3, hp3, hn3, hc30, hc31, hc32, hc33, hc34, aw_add, aw_w0, decide_true, decide_false, go_sem, simprocAttr]
 try simp only [gMixV_nil, gdV_true, gdV_false, kMixV_app, ldV_some, puK_some, puV_none, puV_u, puV_n, puV_b, puV_p, puV_fp, puV_fs, puV_tup, puV_agg, aprun_ap, erV_ld, hl0, hp0, hn0, hc00, hc01, hc02, hc03, hc04, hl1, hp1, hn1, hc10, hc11, hc12, hc13, hc14, hl3, hp3, hn3, hc30, hc31, hc32, hc33, hc34, aw_add, aw_w0, decide_true, decide_false, go_sem, simprocAttr]
 repeat (rw [gMixV_cons]; simp only [gMixV_nil, gdV_true, gdV_false, kMixV_app, ldV_some, puK_some, puV_none, puV_u, puV_n, puV_b, puV_p, puV_fp, puV_fs, puV_tup, puV_agg, aprun_ap, erV_ld, hl0, hp0, hn0, hc00, hc01, hc02, hc03, hc04, hl1, hp1, hn1, hc10, hc11, hc12, hc13, hc14, hl3, hp3, hn3, hc30, hc31, hc32, hc33, hc34, aw_add, aw_w0, decide_true, decide_false, go_sem, simprocAttr])
 refine gcall_has [] (.cons (.rfl (by rfl)) (.cons (.rfl (by rfl)) .nil)) (by have := awSame awOneB (by decide); simp only [codeV] at this; exact this) (by simp only [go_sem, simprocAttr]) ?_
 try simp only [gMixV_nil, gdV_true, gdV_false, kMixV_app, ldV_some, puK_some, puV_none, puV_u, puV_n, puV_b, puV_p, puV_fp, puV_fs, puV_tup, puV_agg, aprun_ap, erV_ld, hl0, hp0, hn0, hc00, hc01, hc02, hc03, hc04, hl1, hp1, hn1, hc10, hc11, hc12, hc13, hc14, hl3, hp3, hn3, hc30, hc31, hc32, hc33, hc34, aw_add, aw_w0, decide_true, decide_false, go_sem, simprocAttr]
 repeat (rw [gMixV_cons]; simp only [gMixV_nil, gdV_true, gdV_false, kMixV_app, ldV_some, puK_some, puV_none, puV_u, puV_n, puV_b, puV_p, puV_fp, puV_fs, puV_tup, puV_agg, aprun_ap, erV_ld, hl0, hp0, hn0, hc00, hc01, hc02, hc03, hc04, hl1, hp1, hn1, hc10, hc11, hc12, hc13, hc14, hl3, hp3, hn3, hc30, hc31, hc32, hc33, hc34, aw_add, aw_w0, decide_true, decide_false, go_sem, simprocAttr])
 (try simp only [go_sem, simprocAttr])
 iterate 2 (with_reducible refine GA.go mixo rfl ?_; try simp only [go_sem, simprocAttr])
 refine GA.wk (Wk.mk (L := []) (bl := []) [] [] ?_ ?_ ?_) ?_
 ·simp only [WkE, WkH, go_sem, simprocAttr]
  repeat' refine and_of ?_ ?_
  all_goals first | exact wku | skip
 ·exact True.intro
 ·simp
 clear hF hP1 hl0 hp0 hn0 hc00 hc01 hc02 hc03 hc04 hl1 hp1 hn1 hc10 hc11 hc12 hc13 hc14 hl3 hp3 hn3 hc30 hc31 hc32 hc33 hc34
 repeat (first | (with_reducible refine GA.go mixo rfl ?_) | simp only [go_sem, simprocAttr])
 refine gcall_has [] (.cons (.rfl rfl) (.cons (.rfl rfl) (.cons (.rfl rfl) (.cons (.rfl rfl) (.cons (.rfl rfl) .nil))))) (i_has _ _ _ _ _) (by simp only [go_sem, simprocAttr]) ?_
 simp only [insV, go_sem, simprocAttr]
 refine gcall_has [] (.cons (.rfl rfl) (.cons (.rfl rfl) (.cons (.rfl rfl) (.cons (.rfl rfl) (.cons (.rfl rfl) .nil))))) (i_has _ _ _ _ _) (by simp only [go_sem, simprocAttr]) ?_
 simp only [insV, go_sem, simprocAttr]
 refine gcall_has [] (.cons (.rfl rfl) (.cons (.rfl rfl) (.cons (.rfl rfl) (.cons (.rfl rfl) (.cons (.rfl rfl) .nil))))) (i_has _ _ _ _ _) (by simp only [go_sem, simprocAttr]) ?_
 simp only [insV, go_sem, simprocAttr]
 refine gcall_has [] (.cons (.rfl rfl) (.cons (.rfl rfl) (.cons (.rfl rfl) (.cons (.rfl rfl) (.cons (.rfl rfl) .nil))))) (i_has _ _ _ _ _) (by simp only [go_sem, simprocAttr]) ?_
 simp only [insV, go_sem, simprocAttr]
 refine gcall_has [0] (fargs := [.fs 5 awTwo.length (cC awTwo)]) (.cons (.sl (x := _) (by simp) (by simp only [go_sem, simprocAttr] <;> rfl) (by simp only [awTwo, go_sem, simprocAttr] <;> decide) (by decide) (by simp only [go_sem, simprocAttr] <;> decide) (fun i j hi hj => ?_) (fun i j _ hj => cC_cell i hj)) .nil) code_has (by simp only [go_sem, simprocAttr]) ?_
 ·rcases lt_4 hi with rfl | rfl | rfl | rfl <;> rcases lt5 hj with rfl | rfl | rfl | rfl | rfl <;> rfl
 simp only [codeV, insV, go_sem, simprocAttr]
 refine GA.wk (Wk.mk (L := [(7, .p 0 0)]) (bl := [lstB 0 25 (awV awTwo)]) [1] [] ?_ ?_ ?_) ?_
 ·simp only [WkE, WkH, go_sem, simprocAttr]
  repeat' refine and_of ?_ ?_
  all_goals first | exact wku | skip
 ·exact .cons rfl (.lsti (x := _) (by simp only [go_sem, simprocAttr] <;> rfl) (by rfl) (by rfl) (by rfl) (by rfl) (by rfl) (by rfl) (by simp) (fun i hi => by rcases lt4a hi with rfl | rfl | rfl | rfl <;> (simp only [awV, go_sem, simprocAttr]; first | done | rfl)) (by rfl)) (.nil)
 ·simp
 have hF := awC
 have hP1 := awP2
 simp only [codeV] at hF hP1
 repeat (first | (with_reducible refine GA.go mixo rfl ?_) | simp only [go_sem, simprocAttr])
 refine gcall_has [] (.cons (.rfl (by rfl)) .nil) hF (by simp only [go_sem, simprocAttr]) ?_
 simp only [codeV, go_sem, simprocAttr]
 refine GA.wk (Wk.mk (L := [(7, .p 0 0), (8, .p 1 0), (3, .n .i64 0)]) (bl := [lstB 0 25 (awV awTwoC), lstB 0 25 (awV awTwo)]) [1, 0] [] ?_ ?_ ?_) ?_
 ·simp only [WkE, WkH, go_sem, simprocAttr]
  repeat' refine and_of ?_ ?_
  all_goals first | exact wku | skip
 ·exact .cons rfl (.lsti (x := _) (by simp only [go_sem, simprocAttr] <;> rfl) (by rfl) (by rfl) (by rfl) (by rfl) (by rfl) (by rfl) (by simp) (fun i hi => by rcases lt4a hi with rfl | rfl | rfl | rfl <;> (simp only [awV, go_sem, simprocAttr]; first | done | rfl)) (by rfl)) (.cons rfl (.lsti (x := _) (by simp only [go_sem, simprocAttr] <;> rfl) (by rfl) (by rfl) (by rfl) (by rfl) (by rfl) (by rfl) (by simp) (fun i hi => by rcases lt4a hi with rfl | rfl | rfl | rfl <;> (simp only [awV, go_sem, simprocAttr]; first | done | rfl)) (by rfl)) (.nil))
 ·simp
 repeat (first | (with_reducible refine GA.go mixo rfl ?_) | simp only [go_sem, simprocAttr])
 refine gcall_has [] (.cons (.rfl (by rfl)) .nil) hP1 (by simp only [go_sem, simprocAttr]) ?_
 simp only [codeV, go_sem, simprocAttr]
 refine GA.wk (Wk.mk (L := [(7, .p 0 0), (8, .p 1 0), (9, .p 2 0), (3, .n .i64 0), (5, .n .i64 0)]) (bl := [lstB 0 25 (awV awTwoD), lstB 0 25 (awV awTwoC), lstB 0 25 (awV awTwo)]) [2, 1, 0] [] ?_ ?_ ?_) ?_
 ·simp only [WkE, WkH, go_sem, simprocAttr]
  repeat' refine and_of ?_ ?_
  all_goals first | exact wku | skip
 ·exact .cons rfl (.lsti (x := _) (by simp only [go_sem, simprocAttr] <;> rfl) (by rfl) (by rfl) (by rfl) (by rfl) (by rfl) (by rfl) (by simp) (fun i hi => by rcases lt4a hi with rfl | rfl | rfl | rfl <;> (simp only [awV, go_sem, simprocAttr]; first | done | rfl)) (by rfl)) (.cons rfl (.lsti (x := _) (by simp only [go_sem, simprocAttr] <;> rfl) (by rfl) (by rfl) (by rfl) (by rfl) (by rfl) (by rfl) (by simp) (fun i hi => by rcases lt4a hi with rfl | rfl | rfl | rfl <;> (simp only [awV, go_sem, simprocAttr]; first | done | rfl)) (by rfl)) (.cons rfl (.lsti (x := _) (by simp only [go_sem, simprocAttr] <;> rfl) (by rfl) (by rfl) (by rfl) (by rfl) (by rfl) (by rfl) (by simp) (fun i hi => by rcases lt4a hi with rfl | rfl | rfl | rfl <;> (simp only [awV, go_sem, simprocAttr]; first | done | rfl)) (by rfl)) (.nil)))
 ·simp
 have hl0 : (0 : Int) < (awTwo.length : Int) := by decide
 have hp0 : (0 : Int) ≤ 0 := by decide
 have hn0 : Int.toNat 0 = 0 := rfl
 have hc00 : cC awTwo 0 0 = .n .i64 (32) := rfl
 have hc01 : cC awTwo 0 1 = .n .i64 (1) := rfl
 have hc02 : cC awTwo 0 2 = .n .i64 (-1) := rfl
 have hc03 : cC awTwo 0 3 = .n .i64 (-1) := rfl
 have hc04 : cC awTwo 0 4 = .n .u32 (0) := rfl
 have hl1 : (1 : Int) < (awTwo.length : Int) := by decide
 have hp1 : (0 : Int) ≤ 1 := by decide
 have hn1 : Int.toNat 1 = 1 := rfl
 have hc10 : cC awTwo 1 0 = .n .i64 (36) := rfl
 have hc11 : cC awTwo 1 1 = .n .i64 (2) := rfl
 have hc12 : cC awTwo 1 2 = .n .i64 (1) := rfl
 have hc13 : cC awTwo 1 3 = .n .i64 (-1) := rfl
 have hc14 : cC awTwo 1 4 = .n .u32 (0) := rfl
 have hl3 : (3 : Int) < (awTwo.length : Int) := by decide
 have hp3 : (0 : Int) ≤ 3 := by decide
 have hn3 : Int.toNat 3 = 3 := rfl
 have hc30 : cC awTwo 3 0 = .n .i64 (34) := rfl
 have hc31 : cC awTwo 3 1 = .n .i64 (-1) := rfl
 have hc32 : cC awTwo 3 2 = .n .i64 (1) := rfl
 have hc33 : cC awTwo 3 3 = .n .i64 (-1) := rfl
 have hc34 : cC awTwo 3 4 = .n .u32 (0) := rfl
 with_reducible refine GA.seq ?_
 with_reducible refine GA.reg ?_
 simp only [hl0, hp0, hn0, hc00, hc01, hc02, hc03, hc04, hl1, hp1, hn1, hc10, hc11, hc12, hc13, hc14, hl3, hp3, hn3, hc30, hc31, hc32, hc33, hc34, aw_add, aw_w0, decide_true, decide_false, go_sem, simprocAttr]
 refine GA.wk (Wk.mk (L := [(7, .p 0 0), (8, .p 1 0), (9, .p 2 0), (10, .p 3 0), (3, .n .i64 0), (5, .n .i64 0)]) (bl := [lstB 0 37 (cellsI (34, -1, 1, -1, 0)), lstB 0 25 (awV awTwoD), lstB 0 25 (awV awTwoC), lstB 0 25 (awV awTwo)]) [3, 2, 1, 0] [] ?_ ?_ ?_) ?_
 ·simp only [WkE, WkH, go_sem, simprocAttr]
  repeat' refine and_of ?_ ?_
  all_goals first | exact wku | skip
 ·exact .cons rfl (.lsti (x := _) (by simp only [go_sem, simprocAttr] <;> rfl) (by rfl) (by rfl) (by rfl) (by rfl) (by rfl) (by rfl) (by simp) (fun i hi => by rcases lt5 hi with rfl | rfl | rfl | rfl | rfl <;> (simp only [cellsI, go_sem, simprocAttr]; first | done | rfl)) (by rfl)) (.cons rfl (.lsti (x := _) (by simp only [go_sem, simprocAttr] <;> rfl) (by rfl) (by rfl) (by rfl) (by rfl) (by rfl) (by rfl) (by simp) (fun i hi => by rcases lt4a hi with rfl | rfl | rfl | rfl <;> (simp only [awV, go_sem, simprocAttr]; first | done | rfl)) (by rfl)) (.cons rfl (.lsti (x := _) (by simp only [go_sem, simprocAttr] <;> rfl) (by rfl) (by rfl) (by rfl) (by rfl) (by rfl) (by rfl) (by simp) (fun i hi => by rcases lt4a hi with rfl | rfl | rfl | rfl <;> (simp only [awV, go_sem, simprocAttr]; first | done | rfl)) (by rfl)) (.cons rfl (.lsti (x := _) (by simp only [go_sem, simprocAttr] <;> rfl) (by rfl) (by rfl) (by rfl) (by rfl) (by rfl) (by rfl) (by simp) (fun i hi => by rcases lt4a hi with rfl | rfl | rfl | rfl <;> (simp only [awV, go_sem, simprocAttr]; first | done | rfl)) (by rfl)) (.nil))))
 ·simp
 with_reducible refine GA.seq ?_
 with_reducible refine GA.seq ?_
 with_reducible refine GA.mixv mixo ?_ ?_
 ·rfl
 try simp only [gMixV_nil, gdV_true, gdV_false, kMixV_app, ldV_some, puK_some, puV_none, puV_u, puV_n, puV_b, puV_p, puV_fp, puV_fs, puV_tup, puV_agg, aprun_ap, erV_ld, hl0, hp0, hn0, hc00, hc01, hc02, hc03, hc04, hl1, hp1, hn1, hc10, hc11, hc12, hc13, hc14, hl3, hp3, hn3, hc30, hc31, hc32, hc33, hc34, aw_add, aw_w0, decide_true, decide_false, go_sem, simprocAttr]
 repeat (rw [gMixV_cons]; simp only [gMixV_nil, gdV_true, gdV_false, kMixV_app, ldV_some, puK_some, puV_none, puV_u, puV_n, puV_b, puV_p, puV_fp, puV_fs, puV_tup, puV_agg, aprun_ap, erV_ld, hl0, hp0, hn0, hc00, hc01, hc02, hc03, hc04, hl1, hp1, hn1, hc10, hc11, hc12, hc13, hc14, hl3, hp3, hn3, hc30, hc31, hc32, hc33, hc34, aw_add, aw_w0, decide_true, decide_false, go_sem, simprocAttr])
 refine gcall_has [4] (fargs := [.fs 5 awTwoC.length (cC awTwoC)]) (.cons (.sl (x := _) (by simp) (by simp only [go_sem, simprocAttr] <;> rfl) (by simp only [awTwoC, go_sem, simprocAttr] <;> decide) (by decide) (by simp only [go_sem, simprocAttr] <;> decide) (fun i j hi hj => ?_) (fun i j _ hj => cC_cell i hj)) .nil) code_has (by simp only [go_sem, simprocAttr]) ?_
 ·rcases lt_4 hi with rfl | rfl | rfl | rfl <;> rcases lt5 hj with rfl | rfl | rfl | rfl | rfl <;> rfl
 simp only [codeV, insV, gMixV_nil, gdV_true, gdV_false, kMixV_app, ldV_some, puK_some, puV_none, puV_u, puV_n, puV_b, puV_p, puV_fp, puV_fs, puV_tup, puV_agg, aprun_ap, erV_ld, hl0, hp0, hn0, hc00, hc01, hc02, hc03, hc04, hl1, hp1, hn1, hc10, hc11, hc12, hc13, hc14, hl3, hp3, hn3, hc30, hc31, hc32, hc33, hc34, aw_add, aw_w0, decide_true, decide_false, go_sem, simprocAttr]
 try simp only [gMixV_nil, gdV_true, gdV_false, kMixV_app, ldV_some, puK_some, puV_none, puV_u, puV_n, puV_b, puV_p, puV_fp, puV_fs, puV_tup, puV_agg, aprun_ap, erV_ld, hl0, hp0, hn0, hc00, hc01, hc02, hc03, hc04, hl1, hp1, hn1, hc10, hc11, hc12, hc13, hc14, hl3, hp3, hn3, hc30, hc31, hc32, hc33, hc34, aw_add, aw_w0, decide_true, decide_false, go_sem, simprocAttr]
 repeat (rw [gMixV_cons]; simp only [gMixV_nil, gdV_true, gdV_false, kMixV_app, ldV_some, puK_some, puV_none, puV_u, puV_n, puV_b, puV_p, puV_fp, puV_fs, puV_tup, puV_agg, aprun_ap, erV_ld, hl0, hp0, hn0, hc00, hc01, hc02, hc03, hc04, hl1, hp1, hn1, hc10, hc11, hc12, hc13, hc14, hl3, hp3, hn3, hc30, hc31, hc32, hc33, hc34, aw_add, aw_w0, decide_true, decide_false, go_sem, simprocAttr])
 refine gcall_has [] (.cons (.rfl (by rfl)) (.cons (.rfl (by rfl)) .nil)) (by have := awSame awTwoC (by decide); simp only [codeV] at this; exact this) (by simp only [go_sem, simprocAttr]) ?_
 try simp only [gMixV_nil, gdV_true, gdV_false, kMixV_app, ldV_some, puK_some, puV_none, puV_u, puV_n, puV_b, puV_p, puV_fp, puV_fs, puV_tup, puV_agg, aprun_ap, erV_ld, hl0, hp0, hn0, hc00, hc01, hc02, hc03, hc04, hl1, hp1, hn1, hc10, hc11, hc12, hc13, hc14, hl3, hp3, hn3, hc30, hc31, hc32, hc33, hc34, aw_add, aw_w0, decide_true, decide_false, go_sem, simprocAttr]
 repeat (rw [gMixV_cons]; simp only [gMixV_nil, gdV_true, gdV_false, kMixV_app, ldV_some, puK_some, puV_none, puV_u, puV_n, puV_b, puV_p, puV_fp, puV_fs, puV_tup, puV_agg, aprun_ap, erV_ld, hl0, hp0, hn0, hc00, hc01, hc02, hc03, hc04, hl1, hp1, hn1, hc10, hc11, hc12, hc13, hc14, hl3, hp3, hn3, hc30, hc31, hc32, hc33, hc34, aw_add, aw_w0, decide_true, decide_false, go_sem, simprocAttr])
 refine gcall_has [5] (fargs := [.fs 5 awTwoD.length (cC awTwoD)]) (.cons (.sl (x := _) (by simp) (by simp only [go_sem, simprocAttr] <;> rfl) (by simp only [awTwoD, go_sem, simprocAttr] <;> decide) (by decide) (by simp only [go_sem, simprocAttr] <;> decide) (fun i j hi hj => ?_) (fun i j _ hj => cC_cell i hj)) .nil) code_has (by simp only [go_sem, simprocAttr]) ?_
 ·rcases lt_3 hi with rfl | rfl | rfl <;> rcases lt5 hj with rfl | rfl | rfl | rfl | rfl <;> rfl
 simp only [codeV, insV, gMixV_nil, gdV_true, gdV_false, kMixV_app, ldV_some, puK_some, puV_none, puV_u, puV_n, puV_b, puV_p, puV_fp, puV_fs, puV_tup, puV_agg, aprun_ap, erV_ld, hl0, hp0, hn0, hc00, hc01, hc02, hc03, hc04, hl1, hp1, hn1, hc10, hc11, hc12, hc13, hc14, hl3, hp3, hn3, hc30, hc31, hc32, hc33, hc34, aw_add, aw_w0, decide_true, decide_false, go_sem, simprocAttr]
 try simp only [gMixV_nil, gdV_true, gdV_false, kMixV_app, ldV_some, puK_some, puV_none, puV_u, puV_n, puV_b, puV_p, puV_fp, puV_fs, puV_tup, puV_agg, aprun_ap, erV_ld, hl0, hp0, hn0, hc00, hc01, hc02, hc03, hc04, hl1, hp1, hn1, hc10, hc11, hc12, hc13, hc14, hl3, hp3, hn3, hc30, hc31, hc32, hc33, hc34, aw_add, aw_w0, decide_true, decide_false, go_sem, simprocAttr]
 repeat (rw [gMixV_cons]; simp only [gMixV_nil, gdV_true, gdV_false, kMixV_app, ldV_some, puK_some, puV_none, puV_u, puV_n, puV_b, puV_p, puV_fp, puV_fs, puV_tup, puV_agg, aprun_ap, erV_ld, hl0, hp0, hn0, hc00, hc01, hc02, hc03, hc04, hl1, hp1, hn1, hc10, hc11, hc12, hc13, hc14, hl3, hp3, hn3, hc30, hc31, hc32, hc33, hc34, aw_add, aw_w0, decide_true, decide_false, go_sem, simprocAttr])
 refine gcall_has [] (.cons (.rfl (by rfl)) (.cons (.rfl (by rfl)) .nil)) (by have := awSame awTwoD (by decide); simp only [codeV] at this; exact this) (by simp only [go_sem, simprocAttr]) ?_
 try simp only [gMixV_nil, gdV_true, gdV_false, kMixV_app, ldV_some, puK_some, puV_none, puV_u, puV_n, puV_b, puV_p, puV_fp, puV_fs, puV_tup, puV_agg, aprun_ap, erV_ld, hl0, hp0, hn0, hc00, hc01, hc02, hc03, hc04, hl1, hp1, hn1, hc10, hc11, hc12, hc13, hc14, hl3, hp3, hn3, hc30, hc31, hc32, hc33, hc34, aw_add, aw_w0, decide_true, decide_false, go_sem, simprocAttr]
 repeat (rw [gMixV_cons]; simp only [gMixV_nil, gdV_true, gdV_false, kMixV_app, ldV_some, puK_some, puV_none, puV_u, puV_n, puV_b, puV_p, puV_fp, puV_fs, puV_tup, puV_agg, aprun_ap, erV_ld, hl0, hp0, hn0, hc00, hc01, hc02, hc03, hc04, hl1, hp1, hn1, hc10, hc11, hc12, hc13, hc14, hl3, hp3, hn3, hc30, hc31, hc32, hc33, hc34, aw_add, aw_w0, decide_true, decide_false, go_sem, simprocAttr])
 (try simp only [go_sem, simprocAttr])
 iterate 2 (with_reducible refine GA.go mixo rfl ?_; try simp only [go_sem, simprocAttr])
 refine GA.wk (Wk.mk (L := []) (bl := []) [] [] ?_ ?_ ?_) ?_
 ·simp only [WkE, WkH, go_sem, simprocAttr]
  repeat' refine and_of ?_ ?_
  all_goals first | exact wku | skip
 ·exact True.intro
 ·simp
 clear hF hP1 hl0 hp0 hn0 hc00 hc01 hc02 hc03 hc04 hl1 hp1 hn1 hc10 hc11 hc12 hc13 hc14 hl3 hp3 hn3 hc30 hc31 hc32 hc33 hc34
 repeat (first | (with_reducible refine GA.go mixo rfl ?_) | simp only [go_sem, simprocAttr])
 refine gcall_has [] (.cons (.rfl rfl) (.cons (.rfl rfl) (.cons (.rfl rfl) (.cons (.rfl rfl) (.cons (.rfl rfl) .nil))))) (i_has _ _ _ _ _) (by simp only [go_sem, simprocAttr]) ?_
 simp only [insV, go_sem, simprocAttr]
 refine gcall_has [] (.cons (.rfl rfl) (.cons (.rfl rfl) (.cons (.rfl rfl) (.cons (.rfl rfl) (.cons (.rfl rfl) .nil))))) (i_has _ _ _ _ _) (by simp only [go_sem, simprocAttr]) ?_
 simp only [insV, go_sem, simprocAttr]
 refine gcall_has [] (.cons (.rfl rfl) (.cons (.rfl rfl) (.cons (.rfl rfl) (.cons (.rfl rfl) (.cons (.rfl rfl) .nil))))) (i_has _ _ _ _ _) (by simp only [go_sem, simprocAttr]) ?_
 simp only [insV, go_sem, simprocAttr]
 refine gcall_has [] (.cons (.rfl rfl) (.cons (.rfl rfl) (.cons (.rfl rfl) (.cons (.rfl rfl) (.cons (.rfl rfl) .nil))))) (i_has _ _ _ _ _) (by simp only [go_sem, simprocAttr]) ?_
 simp only [insV, go_sem, simprocAttr]
 refine gcall_has [] (.cons (.rfl rfl) (.cons (.rfl rfl) (.cons (.rfl rfl) (.cons (.rfl rfl) (.cons (.rfl rfl) .nil))))) (i_has _ _ _ _ _) (by simp only [go_sem, simprocAttr]) ?_
 simp only [insV, go_sem, simprocAttr]
 refine gcall_has [0] (fargs := [.fs 5 awThree.length (cC awThree)]) (.cons (.sl (x := _) (by simp) (by simp only [go_sem, simprocAttr] <;> rfl) (by simp only [awThree, go_sem, simprocAttr] <;> decide) (by decide) (by simp only [go_sem, simprocAttr] <;> decide) (fun i j hi hj => ?_) (fun i j _ hj => cC_cell i hj)) .nil) code_has (by simp only [go_sem, simprocAttr]) ?_
 ·rcases lt_5 hi with rfl | rfl | rfl | rfl | rfl <;> rcases lt5 hj with rfl | rfl | rfl | rfl | rfl <;> rfl
 simp only [codeV, insV, go_sem, simprocAttr]
 refine GA.wk (Wk.mk (L := [(11, .p 0 0)]) (bl := [lstB 0 25 (awV awThree)]) [1] [] ?_ ?_ ?_) ?_
 ·simp only [WkE, WkH, go_sem, simprocAttr]
  repeat' refine and_of ?_ ?_
  all_goals first | exact wku | skip
 ·exact .cons rfl (.lsti (x := _) (by simp only [go_sem, simprocAttr] <;> rfl) (by rfl) (by rfl) (by rfl) (by rfl) (by rfl) (by rfl) (by simp) (fun i hi => by rcases lt4a hi with rfl | rfl | rfl | rfl <;> (simp only [awV, go_sem, simprocAttr]; first | done | rfl)) (by rfl)) (.nil)
 ·simp
 have hF := awS
 have hP1 := awO
 simp only [codeV] at hF hP1
 repeat (first | (with_reducible refine GA.go mixo rfl ?_) | simp only [go_sem, simprocAttr])
 refine gcall_has [] (.cons (.rfl (by rfl)) .nil) hF (by simp only [go_sem, simprocAttr]) ?_
 simp only [codeV, go_sem, simprocAttr]
 refine GA.wk (Wk.mk (L := [(11, .p 0 0), (12, .p 1 0), (3, .n .i64 0)]) (bl := [lstB 0 25 (awV awThreeS), lstB 0 25 (awV awThree)]) [1, 0] [] ?_ ?_ ?_) ?_
 ·simp only [WkE, WkH, go_sem, simprocAttr]
  repeat' refine and_of ?_ ?_
  all_goals first | exact wku | skip
 ·exact .cons rfl (.lsti (x := _) (by simp only [go_sem, simprocAttr] <;> rfl) (by rfl) (by rfl) (by rfl) (by rfl) (by rfl) (by rfl) (by simp) (fun i hi => by rcases lt4a hi with rfl | rfl | rfl | rfl <;> (simp only [awV, go_sem, simprocAttr]; first | done | rfl)) (by rfl)) (.cons rfl (.lsti (x := _) (by simp only [go_sem, simprocAttr] <;> rfl) (by rfl) (by rfl) (by rfl) (by rfl) (by rfl) (by rfl) (by simp) (fun i hi => by rcases lt4a hi with rfl | rfl | rfl | rfl <;> (simp only [awV, go_sem, simprocAttr]; first | done | rfl)) (by rfl)) (.nil))
 ·simp
 repeat (first | (with_reducible refine GA.go mixo rfl ?_) | simp only [go_sem, simprocAttr])
 refine gcall_has [] (.cons (.rfl (by rfl)) .nil) hP1 (by simp only [go_sem, simprocAttr]) ?_
 simp only [codeV, go_sem, simprocAttr]
 refine GA.wk (Wk.mk (L := [(11, .p 0 0), (12, .p 1 0), (13, .p 2 0), (3, .n .i64 0), (5, .n .i64 0)]) (bl := [lstB 0 25 (awV awThreeT), lstB 0 25 (awV awThreeS), lstB 0 25 (awV awThree)]) [2, 1, 0] [] ?_ ?_ ?_) ?_
 ·simp only [WkE, WkH, go_sem, simprocAttr]
  repeat' refine and_of ?_ ?_
  all_goals first | exact wku | skip
 ·exact .cons rfl (.lsti (x := _) (by simp only [go_sem, simprocAttr] <;> rfl) (by rfl) (by rfl) (by rfl) (by rfl) (by rfl) (by rfl) (by simp) (fun i hi => by rcases lt4a hi with rfl | rfl | rfl | rfl <;> (simp only [awV, go_sem, simprocAttr]; first | done | rfl)) (by rfl)) (.cons rfl (.lsti (x := _) (by simp only [go_sem, simprocAttr] <;> rfl) (by rfl) (by rfl) (by rfl) (by rfl) (by rfl) (by rfl) (by simp) (fun i hi => by rcases lt4a hi with rfl | rfl | rfl | rfl <;> (simp only [awV, go_sem, simprocAttr]; first | done | rfl)) (by rfl)) (.cons rfl (.lsti (x := _) (by simp only [go_sem, simprocAttr] <;> rfl) (by rfl) (by rfl) (by rfl) (by rfl) (by rfl) (by rfl) (by simp) (fun i hi => by rcases lt4a hi with rfl | rfl | rfl | rfl <;> (simp only [awV, go_sem, simprocAttr]; first | done | rfl)) (by rfl)) (.nil)))
 ·simp
 have hl0 : (0 : Int) < (awThree.length : Int) := by decide
 have hp0 : (0 : Int) ≤ 0 := by decide
 have hn0 : Int.toNat 0 = 0 := rfl
 have hc00 : cC awThree 0 0 = .n .i64 (32) := rfl
 have hc01 : cC awThree 0 1 = .n .i64 (0) := rfl
 have hc02 : cC awThree 0 2 = .n .i64 (-1) := rfl
 have hc03 : cC awThree 0 3 = .n .i64 (-1) := rfl
 have hc04 : cC awThree 0 4 = .n .u32 (0) := rfl
 have hl2 : (2 : Int) < (awThree.length : Int) := by decide
 have hp2 : (0 : Int) ≤ 2 := by decide
 have hn2 : Int.toNat 2 = 2 := rfl
 have hc20 : cC awThree 2 0 = .n .i64 (8) := rfl
 have hc21 : cC awThree 2 1 = .n .i64 (2) := rfl
 have hc22 : cC awThree 2 2 = .n .i64 (0) := rfl
 have hc23 : cC awThree 2 3 = .n .i64 (1) := rfl
 have hc24 : cC awThree 2 4 = .n .u32 (0) := rfl
 have hl4 : (4 : Int) < (awThree.length : Int) := by decide
 have hp4 : (0 : Int) ≤ 4 := by decide
 have hn4 : Int.toNat 4 = 4 := rfl
 have hc40 : cC awThree 4 0 = .n .i64 (34) := rfl
 have hc41 : cC awThree 4 1 = .n .i64 (-1) := rfl
 have hc42 : cC awThree 4 2 = .n .i64 (3) := rfl
 have hc43 : cC awThree 4 3 = .n .i64 (-1) := rfl
 have hc44 : cC awThree 4 4 = .n .u32 (0) := rfl
 have ht : (1 : Nat) = 1 := rfl
 refine GA.cut (envOf [(11, .p 0 0), (12, .p 1 0), (13, .p 2 0), (3, .n .i64 0), (5, .n .i64 0), (14, .p 3 0)]) (heapOf [lstB 0 25 (awV awThreeS), lstB 0 25 (awV awThreeT), lstB 0 25 (awV awThreeS), lstB 0 25 (awV awThree)]) ?_ ?_
 ·refine GA.frkm mixo 3 (by simp only [topL, go_sem, simprocAttr]) ?_
  simp only [hl0, hp0, hn0, hc00, hc01, hc02, hc03, hc04, hl2, hp2, hn2, hc20, hc21, hc22, hc23, hc24, hl4, hp4, hn4, hc40, hc41, hc42, hc43, hc44, aw_add, aw_w0, decide_true, decide_false, go_sem, simprocAttr]
  repeat' with_reducible refine and_of ?_ ?_
  all_goals (refine gcall_has [] (.cons (.rfl rfl) (.cons (.rfl rfl) (.cons (.rfl rfl) (.cons (.rfl rfl) (.cons (.rfl rfl) .nil))))) (i_has _ _ _ _ _) (by simp only [go_sem, simprocAttr]) ?_; simp only [insV, hl0, hp0, hn0, hc00, hc01, hc02, hc03, hc04, hl2, hp2, hn2, hc20, hc21, hc22, hc23, hc24, hl4, hp4, hn4, hc40, hc41, hc42, hc43, hc44, aw_add, aw_w0, decide_true, decide_false, go_sem, simprocAttr]; repeat' with_reducible refine and_of ?_ ?_)
  all_goals (refine gcall_has [] (.cons (.rfl rfl) (.cons (.rfl rfl) (.cons (.rfl rfl) (.cons (.rfl rfl) (.cons (.rfl rfl) .nil))))) (i_has _ _ _ _ _) (by simp only [go_sem, simprocAttr]) ?_; simp only [insV, hl0, hp0, hn0, hc00, hc01, hc02, hc03, hc04, hl2, hp2, hn2, hc20, hc21, hc22, hc23, hc24, hl4, hp4, hn4, hc40, hc41, hc42, hc43, hc44, aw_add, aw_w0, decide_true, decide_false, go_sem, simprocAttr]; repeat' with_reducible refine and_of ?_ ?_)
  ·refine gcall_has [3] (fargs := [.fs 5 awThreeS.length (cC awThreeS)]) (.cons (.sl (x := _) (by simp) (by simp only [go_sem, simprocAttr] <;> rfl) (by simp only [go_sem, simprocAttr] <;> decide) (by decide) (by simp only [go_sem, simprocAttr] <;> decide) (fun i j hi hj => by rcases lt_5 hi with rfl | rfl | rfl | rfl | rfl <;> rcases lt5 hj with rfl | rfl | rfl | rfl | rfl <;> rfl) (fun i j _ hj => cC_cell i hj)) .nil) code_has (by simp only [go_sem, simprocAttr]) ?_
   simp only [codeV, insV, hl0, hp0, hn0, hc00, hc01, hc02, hc03, hc04, hl2, hp2, hn2, hc20, hc21, hc22, hc23, hc24, hl4, hp4, hn4, hc40, hc41, hc42, hc43, hc44, aw_add, aw_w0, decide_true, decide_false, go_sem, simprocAttr]
   repeat' with_reducible refine and_of ?_ ?_
   all_goals try decide
   refine Wk.mk [4, 2, 1, 0] [] ?_ ?_ (by simp)
   ·simp only [WkE, WkH, go_sem, simprocAttr]
    repeat' refine and_of ?_ ?_
    all_goals first | exact wku | skip
   ·exact .cons rfl (.lsti (x := _) (by simp only [go_sem, simprocAttr] <;> rfl) (by rfl) (by rfl) (by rfl) (by rfl) (by rfl) (by rfl) (by simp) (fun i hi => by rcases lt4a hi with rfl | rfl | rfl | rfl <;> (simp only [awV, go_sem, simprocAttr]; first | done | rfl)) (by rfl)) (.cons rfl (.lsti (x := _) (by simp only [go_sem, simprocAttr] <;> rfl) (by rfl) (by rfl) (by rfl) (by rfl) (by rfl) (by rfl) (by simp) (fun i hi => by rcases lt4a hi with rfl | rfl | rfl | rfl <;> (simp only [awV, go_sem, simprocAttr]; first | done | rfl)) (by rfl)) (.cons rfl (.lsti (x := _) (by simp only [go_sem, simprocAttr] <;> rfl) (by rfl) (by rfl) (by rfl) (by rfl) (by rfl) (by rfl) (by simp) (fun i hi => by rcases lt4a hi with rfl | rfl | rfl | rfl <;> (simp only [awV, go_sem, simprocAttr]; first | done | rfl)) (by rfl)) (.cons rfl (.lsti (x := _) (by simp only [go_sem, simprocAttr] <;> rfl) (by rfl) (by rfl) (by rfl) (by rfl) (by rfl) (by rfl) (by simp) (fun i hi => by rcases lt4a hi with rfl | rfl | rfl | rfl <;> (simp only [awV, go_sem, simprocAttr]; first | done | rfl)) (by rfl)) .nil)))
  ·refine gcall_has [3] (fargs := [.fs 5 awThreeS.length (cC awThreeS)]) (.cons (.sl (x := _) (by simp) (by simp only [go_sem, simprocAttr] <;> rfl) (by simp only [go_sem, simprocAttr] <;> decide) (by decide) (by simp only [go_sem, simprocAttr] <;> decide) (fun i j hi hj => by rcases lt_5 hi with rfl | rfl | rfl | rfl | rfl <;> rcases lt5 hj with rfl | rfl | rfl | rfl | rfl <;> rfl) (fun i j _ hj => cC_cell i hj)) .nil) code_has (by simp only [go_sem, simprocAttr]) ?_
   simp only [codeV, insV, hl0, hp0, hn0, hc00, hc01, hc02, hc03, hc04, hl2, hp2, hn2, hc20, hc21, hc22, hc23, hc24, hl4, hp4, hn4, hc40, hc41, hc42, hc43, hc44, aw_add, aw_w0, decide_true, decide_false, go_sem, simprocAttr]
   repeat' with_reducible refine and_of ?_ ?_
   all_goals try decide
   refine Wk.mk [4, 2, 1, 0] [] ?_ ?_ (by simp)
   ·simp only [WkE, WkH, go_sem, simprocAttr]
    repeat' refine and_of ?_ ?_
    all_goals first | exact wku | skip
   ·exact .cons rfl (.lsti (x := _) (by simp only [go_sem, simprocAttr] <;> rfl) (by rfl) (by rfl) (by rfl) (by rfl) (by rfl) (by rfl) (by simp) (fun i hi => by rcases lt4a hi with rfl | rfl | rfl | rfl <;> (simp only [awV, go_sem, simprocAttr]; first | done | rfl)) (by rfl)) (.cons rfl (.lsti (x := _) (by simp only [go_sem, simprocAttr] <;> rfl) (by rfl) (by rfl) (by rfl) (by rfl) (by rfl) (by rfl) (by simp) (fun i hi => by rcases lt4a hi with rfl | rfl | rfl | rfl <;> (simp only [awV, go_sem, simprocAttr]; first | done | rfl)) (by rfl)) (.cons rfl (.lsti (x := _) (by simp only [go_sem, simprocAttr] <;> rfl) (by rfl) (by rfl) (by rfl) (by rfl) (by rfl) (by rfl) (by simp) (fun i hi => by rcases lt4a hi with rfl | rfl | rfl | rfl <;> (simp only [awV, go_sem, simprocAttr]; first | done | rfl)) (by rfl)) (.cons rfl (.lsti (x := _) (by simp only [go_sem, simprocAttr] <;> rfl) (by rfl) (by rfl) (by rfl) (by rfl) (by rfl) (by rfl) (by simp) (fun i hi => by rcases lt4a hi with rfl | rfl | rfl | rfl <;> (simp only [awV, go_sem, simprocAttr]; first | done | rfl)) (by rfl)) .nil)))
  ·refine gcall_has [4] (fargs := [.fs 5 awThreeS.length (cC awThreeS)]) (.cons (.sl (x := _) (by simp) (by simp only [go_sem, simprocAttr] <;> rfl) (by simp only [go_sem, simprocAttr] <;> decide) (by decide) (by simp only [go_sem, simprocAttr] <;> decide) (fun i j hi hj => by rcases lt_5 hi with rfl | rfl | rfl | rfl | rfl <;> rcases lt5 hj with rfl | rfl | rfl | rfl | rfl <;> rfl) (fun i j _ hj => cC_cell i hj)) .nil) code_has (by simp only [go_sem, simprocAttr]) ?_
   simp only [codeV, insV, hl0, hp0, hn0, hc00, hc01, hc02, hc03, hc04, hl2, hp2, hn2, hc20, hc21, hc22, hc23, hc24, hl4, hp4, hn4, hc40, hc41, hc42, hc43, hc44, aw_add, aw_w0, decide_true, decide_false, go_sem, simprocAttr]
   repeat' with_reducible refine and_of ?_ ?_
   all_goals try decide
   refine Wk.mk [3, 2, 1, 0] [] ?_ ?_ (by simp)
   ·simp only [WkE, WkH, go_sem, simprocAttr]
    repeat' refine and_of ?_ ?_
    all_goals first | exact wku | skip
   ·exact .cons rfl (.lsti (x := _) (by simp only [go_sem, simprocAttr] <;> rfl) (by rfl) (by rfl) (by rfl) (by rfl) (by rfl) (by rfl) (by simp) (fun i hi => by rcases lt4a hi with rfl | rfl | rfl | rfl <;> (simp only [awV, go_sem, simprocAttr]; first | done | rfl)) (by rfl)) (.cons rfl (.lsti (x := _) (by simp only [go_sem, simprocAttr] <;> rfl) (by rfl) (by rfl) (by rfl) (by rfl) (by rfl) (by rfl) (by simp) (fun i hi => by rcases lt4a hi with rfl | rfl | rfl | rfl <;> (simp only [awV, go_sem, simprocAttr]; first | done | rfl)) (by rfl)) (.cons rfl (.lsti (x := _) (by simp only [go_sem, simprocAttr] <;> rfl) (by rfl) (by rfl) (by rfl) (by rfl) (by rfl) (by rfl) (by simp) (fun i hi => by rcases lt4a hi with rfl | rfl | rfl | rfl <;> (simp only [awV, go_sem, simprocAttr]; first | done | rfl)) (by rfl)) (.cons rfl (.lsti (x := _) (by simp only [go_sem, simprocAttr] <;> rfl) (by rfl) (by rfl) (by rfl) (by rfl) (by rfl) (by rfl) (by simp) (fun i hi => by rcases lt4a hi with rfl | rfl | rfl | rfl <;> (simp only [awV, go_sem, simprocAttr]; first | done | rfl)) (by rfl)) .nil)))
  ·refine gcall_has [4] (fargs := [.fs 5 awThreeS.length (cC awThreeS)]) (.cons (.sl (x := _) (by simp) (by simp only [go_sem, simprocAttr] <;> rfl) (by simp only [go_sem, simprocAttr] <;> decide) (by decide) (by simp only [go_sem, simprocAttr] <;> decide) (fun i j hi hj => by rcases lt_5 hi with rfl | rfl | rfl | rfl | rfl <;> rcases lt5 hj with rfl | rfl | rfl | rfl | rfl <;> rfl) (fun i j _ hj => cC_cell i hj)) .nil) code_has (by simp only [go_sem, simprocAttr]) ?_
   simp only [codeV, insV, hl0, hp0, hn0, hc00, hc01, hc02, hc03, hc04, hl2, hp2, hn2, hc20, hc21, hc22, hc23, hc24, hl4, hp4, hn4, hc40, hc41, hc42, hc43, hc44, aw_add, aw_w0, decide_true, decide_false, go_sem, simprocAttr]
   repeat' with_reducible refine and_of ?_ ?_
   all_goals try decide
   refine Wk.mk [3, 2, 1, 0] [] ?_ ?_ (by simp)
   ·simp only [WkE, WkH, go_sem, simprocAttr]
    repeat' refine and_of ?_ ?_
    all_goals first | exact wku | skip
   ·exact .cons rfl (.lsti (x := _) (by simp only [go_sem, simprocAttr] <;> rfl) (by rfl) (by rfl) (by rfl) (by rfl) (by rfl) (by rfl) (by simp) (fun i hi => by rcases lt4a hi with rfl | rfl | rfl | rfl <;> (simp only [awV, go_sem, simprocAttr]; first | done | rfl)) (by rfl)) (.cons rfl (.lsti (x := _) (by simp only [go_sem, simprocAttr] <;> rfl) (by rfl) (by rfl) (by rfl) (by rfl) (by rfl) (by rfl) (by simp) (fun i hi => by rcases lt4a hi with rfl | rfl | rfl | rfl <;> (simp only [awV, go_sem, simprocAttr]; first | done | rfl)) (by rfl)) (.cons rfl (.lsti (x := _) (by simp only [go_sem, simprocAttr] <;> rfl) (by rfl) (by rfl) (by rfl) (by rfl) (by rfl) (by rfl) (by simp) (fun i hi => by rcases lt4a hi with rfl | rfl | rfl | rfl <;> (simp only [awV, go_sem, simprocAttr]; first | done | rfl)) (by rfl)) (.cons rfl (.lsti (x := _) (by simp only [go_sem, simprocAttr] <;> rfl) (by rfl) (by rfl) (by rfl) (by rfl) (by rfl) (by rfl) (by simp) (fun i hi => by rcases lt4a hi with rfl | rfl | rfl | rfl <;> (simp only [awV, go_sem, simprocAttr]; first | done | rfl)) (by rfl)) .nil)))
  ·refine gcall_has [4] (fargs := [.fs 5 awThreeS.length (cC awThreeS)]) (.cons (.sl (x := _) (by simp) (by simp only [go_sem, simprocAttr] <;> rfl) (by simp only [go_sem, simprocAttr] <;> decide) (by decide) (by simp only [go_sem, simprocAttr] <;> decide) (fun i j hi hj => by rcases lt_5 hi with rfl | rfl | rfl | rfl | rfl <;> rcases lt5 hj with rfl | rfl | rfl | rfl | rfl <;> rfl) (fun i j _ hj => cC_cell i hj)) .nil) code_has (by simp only [go_sem, simprocAttr]) ?_
   simp only [codeV, insV, hl0, hp0, hn0, hc00, hc01, hc02, hc03, hc04, hl2, hp2, hn2, hc20, hc21, hc22, hc23, hc24, hl4, hp4, hn4, hc40, hc41, hc42, hc43, hc44, aw_add, aw_w0, decide_true, decide_false, go_sem, simprocAttr]
   repeat' with_reducible refine and_of ?_ ?_
   all_goals try decide
   refine Wk.mk [3, 2, 1, 0] [] ?_ ?_ (by simp)
   ·simp only [WkE, WkH, go_sem, simprocAttr]
    repeat' refine and_of ?_ ?_
    all_goals first | exact wku | skip
   ·exact .cons rfl (.lsti (x := _) (by simp only [go_sem, simprocAttr] <;> rfl) (by rfl) (by rfl) (by rfl) (by rfl) (by rfl) (by rfl) (by simp) (fun i hi => by rcases lt4a hi with rfl | rfl | rfl | rfl <;> (simp only [awV, go_sem, simprocAttr]; first | done | rfl)) (by rfl)) (.cons rfl (.lsti (x := _) (by simp only [go_sem, simprocAttr] <;> rfl) (by rfl) (by rfl) (by rfl) (by rfl) (by rfl) (by rfl) (by simp) (fun i hi => by rcases lt4a hi with rfl | rfl | rfl | rfl <;> (simp only [awV, go_sem, simprocAttr]; first | done | rfl)) (by rfl)) (.cons rfl (.lsti (x := _) (by simp only [go_sem, simprocAttr] <;> rfl) (by rfl) (by rfl) (by rfl) (by rfl) (by rfl) (by rfl) (by simp) (fun i hi => by rcases lt4a hi with rfl | rfl | rfl | rfl <;> (simp only [awV, go_sem, simprocAttr]; first | done | rfl)) (by rfl)) (.cons rfl (.lsti (x := _) (by simp only [go_sem, simprocAttr] <;> rfl) (by rfl) (by rfl) (by rfl) (by rfl) (by rfl) (by rfl) (by simp) (fun i hi => by rcases lt4a hi with rfl | rfl | rfl | rfl <;> (simp only [awV, go_sem, simprocAttr]; first | done | rfl)) (by rfl)) .nil)))
 with_reducible refine GA.seq ?_
 with_reducible refine GA.mixv mixo ?_ ?_
 ·rfl
 try simp only [gMixV_nil, gdV_true, gdV_false, kMixV_app, ldV_some, puK_some, puV_none, puV_u, puV_n, puV_b, puV_p, puV_fp, puV_fs, puV_tup, puV_agg, aprun_ap, erV_ld, hl0, hp0, hn0, hc00, hc01, hc02, hc03, hc04, hl2, hp2, hn2, hc20, hc21, hc22, hc23, hc24, hl4, hp4, hn4, hc40, hc41, hc42, hc43, hc44, aw_add, aw_w0, decide_true, decide_false, go_sem, simprocAttr]
 repeat (rw [gMixV_cons]; simp only [gMixV_nil, gdV_true, gdV_false, kMixV_app, ldV_some, puK_some, puV_none, puV_u, puV_n, puV_b, puV_p, puV_fp, puV_fs, puV_tup, puV_agg, aprun_ap, erV_ld, hl0, hp0, hn0, hc00, hc01, hc02, hc03, hc04, hl2, hp2, hn2, hc20, hc21, hc22, hc23, hc24, hl4, hp4, hn4, hc40, hc41, hc42, hc43, hc44, aw_add, aw_w0, decide_true, decide_false, go_sem, simprocAttr])
 refine gcall_has [] (.cons (.rfl (by rfl)) (.cons (.rfl (by rfl)) .nil)) (by have := awSame awThreeS (by decide); simp only [codeV] at this; exact this) (by simp only [go_sem, simprocAttr]) ?_
 try simp only [gMixV_nil, gdV_true, gdV_false, kMixV_app, ldV_some, puK_some, puV_none, puV_u, puV_n, puV_b, puV_p, puV_fp, puV_fs, puV_tup, puV_agg, aprun_ap, erV_ld, hl0, hp0, hn0, hc00, hc01, hc02, hc03, hc04, hl2, hp2, hn2, hc20, hc21, hc22, hc23, hc24, hl4, hp4, hn4, hc40, hc41, hc42, hc43, hc44, aw_add, aw_w0, decide_true, decide_false, go_sem, simprocAttr]
 repeat (rw [gMixV_cons]; simp only [gMixV_nil, gdV_true, gdV_false, kMixV_app, ldV_some, puK_some, puV_none, puV_u, puV_n, puV_b, puV_p, puV_fp, puV_fs, puV_tup, puV_agg, aprun_ap, erV_ld, hl0, hp0, hn0, hc00, hc01, hc02, hc03, hc04, hl2, hp2, hn2, hc20, hc21, hc22, hc23, hc24, hl4, hp4, hn4, hc40, hc41, hc42, hc43, hc44, aw_add, aw_w0, decide_true, decide_false, go_sem, simprocAttr])
 refine gcall_has [] (.cons (.rfl rfl) (.cons (.rfl rfl) (.cons (.rfl rfl) (.cons (.rfl rfl) (.cons (.rfl rfl) .nil))))) (i_has _ _ _ _ _) (by simp only [go_sem, simprocAttr]) ?_
 simp only [insV, gMixV_nil, gdV_true, gdV_false, kMixV_app, ldV_some, puK_some, puV_none, puV_u, puV_n, puV_b, puV_p, puV_fp, puV_fs, puV_tup, puV_agg, aprun_ap, erV_ld, hl0, hp0, hn0, hc00, hc01, hc02, hc03, hc04, hl2, hp2, hn2, hc20, hc21, hc22, hc23, hc24, hl4, hp4, hn4, hc40, hc41, hc42, hc43, hc44, aw_add, aw_w0, decide_true, decide_false, go_sem, simprocAttr]
 try simp only [gMixV_nil, gdV_true, gdV_false, kMixV_app, ldV_some, puK_some, puV_none, puV_u, puV_n, puV_b, puV_p, puV_fp, puV_fs, puV_tup, puV_agg, aprun_ap, erV_ld, hl0, hp0, hn0, hc00, hc01, hc02, hc03, hc04, hl2, hp2, hn2, hc20, hc21, hc22, hc23, hc24, hl4, hp4, hn4, hc40, hc41, hc42, hc43, hc44, aw_add, aw_w0, decide_true, decide_false, go_sem, simprocAttr]
 repeat (rw [gMixV_cons]; simp only [gMixV_nil, gdV_true, gdV_false, kMixV_app, ldV_some, puK_some, puV_none, puV_u, puV_n, puV_b, puV_p, puV_fp, puV_fs, puV_tup, puV_agg, aprun_ap, erV_ld, hl0, hp0, hn0, hc00, hc01, hc02, hc03, hc04, hl2, hp2, hn2, hc20, hc21, hc22, hc23, hc24, hl4, hp4, hn4, hc40, hc41, hc42, hc43, hc44, aw_add, aw_w0, decide_true, decide_false, go_sem, simprocAttr])
 refine gcall_has [] (.cons (.rfl rfl) (.cons (.rfl rfl) (.cons (.rfl rfl) (.cons (.rfl rfl) (.cons (.rfl rfl) .nil))))) (i_has _ _ _ _ _) (by simp only [go_sem, simprocAttr]) ?_
 simp only [insV, gMixV_nil, gdV_true, gdV_false, kMixV_app, ldV_some, puK_some, puV_none, puV_u, puV_n, puV_b, puV_p, puV_fp, puV_fs, puV_tup, puV_agg, aprun_ap, erV_ld, hl0, hp0, hn0, hc00, hc01, hc02, hc03, hc04, hl2, hp2, hn2, hc20, hc21, hc22, hc23, hc24, hl4, hp4, hn4, hc40, hc41, hc42, hc43, hc44, aw_add, aw_w0, decide_true, decide_false, go_sem, simprocAttr]
 try simp only [gMixV_nil, gdV_true, gdV_false, kMixV_app, ldV_some, puK_some, puV_none, puV_u, puV_n, puV_b, puV_p, puV_fp, puV_fs, puV_tup, puV_agg, aprun_ap, erV_ld, hl0, hp0, hn0, hc00, hc01, hc02, hc03, hc04, hl2, hp2, hn2, hc20, hc21, hc22, hc23, hc24, hl4, hp4, hn4, hc40, hc41, hc42, hc43, hc44, aw_add, aw_w0, decide_true, decide_false, go_sem, simprocAttr]
 repeat (rw [gMixV_cons]; simp only [gMixV_nil, gdV_true, gdV_false, kMixV_app, ldV_some, puK_some, puV_none, puV_u, puV_n, puV_b, puV_p, puV_fp, puV_fs, puV_tup, puV_agg, aprun_ap, erV_ld, hl0, hp0, hn0, hc00, hc01, hc02, hc03, hc04, hl2, hp2, hn2, hc20, hc21, hc22, hc23, hc24, hl4, hp4, hn4, hc40, hc41, hc42, hc43, hc44, aw_add, aw_w0, decide_true, decide_false, go_sem, simprocAttr])
 refine gcall_has [4] (fargs := [.fs 5 awThreeT.length (cC awThreeT)]) (.cons (.sl (x := _) (by simp) (by simp only [go_sem, simprocAttr] <;> rfl) (by simp only [awThreeT, go_sem, simprocAttr] <;> decide) (by decide) (by simp only [go_sem, simprocAttr] <;> decide) (fun i j hi hj => ?_) (fun i j _ hj => cC_cell i hj)) .nil) code_has (by simp only [go_sem, simprocAttr]) ?_
 ·rcases lt_3 hi with rfl | rfl | rfl <;> rcases lt5 hj with rfl | rfl | rfl | rfl | rfl <;> rfl
 simp only [codeV, insV, gMixV_nil, gdV_true, gdV_false, kMixV_app, ldV_some, puK_some, puV_none, puV_u, puV_n, puV_b, puV_p, puV_fp, puV_fs, puV_tup, puV_agg, aprun_ap, erV_ld, hl0, hp0, hn0, hc00, hc01, hc02, hc03, hc04, hl2, hp2, hn2, hc20, hc21, hc22, hc23, hc24, hl4, hp4, hn4, hc40, hc41, hc42, hc43, hc44, aw_add, aw_w0, decide_true, decide_false, go_sem, simprocAttr]
 try simp only [gMixV_nil, gdV_true, gdV_false, kMixV_app, ldV_some, puK_some, puV_none, puV_u, puV_n, puV_b, puV_p, puV_fp, puV_fs, puV_tup, puV_agg, aprun_ap, erV_ld, hl0, hp0, hn0, hc00, hc01, hc02, hc03, hc04, hl2, hp2, hn2, hc20, hc21, hc22, hc23, hc24, hl4, hp4, hn4, hc40, hc41, hc42, hc43, hc44, aw_add, aw_w0, decide_true, decide_false, go_sem, simprocAttr]
 repeat (rw [gMixV_cons]; simp only [gMixV_nil, gdV_true, gdV_false, kMixV_app, ldV_some, puK_some, puV_none, puV_u, puV_n, puV_b, puV_p, puV_fp, puV_fs, puV_tup, puV_agg, aprun_ap, erV_ld, hl0, hp0, hn0, hc00, hc01, hc02, hc03, hc04, hl2, hp2, hn2, hc20, hc21, hc22, hc23, hc24, hl4, hp4, hn4, hc40, hc41, hc42, hc43, hc44, aw_add, aw_w0, decide_true, decide_false, go_sem, simprocAttr])
 refine gcall_has [] (.cons (.rfl (by rfl)) (.cons (.rfl (by rfl)) .nil)) (by have := awSame awThreeT (by decide); simp only [codeV] at this; exact this) (by simp only [go_sem, simprocAttr]) ?_
 try simp only [gMixV_nil, gdV_true, gdV_false, kMixV_app, ldV_some, puK_some, puV_none, puV_u, puV_n, puV_b, puV_p, puV_fp, puV_fs, puV_tup, puV_agg, aprun_ap, erV_ld, hl0, hp0, hn0, hc00, hc01, hc02, hc03, hc04, hl2, hp2, hn2, hc20, hc21, hc22, hc23, hc24, hl4, hp4, hn4, hc40, hc41, hc42, hc43, hc44, aw_add, aw_w0, decide_true, decide_false, go_sem, simprocAttr]
 repeat (rw [gMixV_cons]; simp only [gMixV_nil, gdV_true, gdV_false, kMixV_app, ldV_some, puK_some, puV_none, puV_u, puV_n, puV_b, puV_p, puV_fp, puV_fs, puV_tup, puV_agg, aprun_ap, erV_ld, hl0, hp0, hn0, hc00, hc01, hc02, hc03, hc04, hl2, hp2, hn2, hc20, hc21, hc22, hc23, hc24, hl4, hp4, hn4, hc40, hc41, hc42, hc43, hc44, aw_add, aw_w0, decide_true, decide_false, go_sem, simprocAttr])
 with_reducible refine GA.ret ?_
 simp only [go_sem, simprocAttr]
 exact has_end1 rfl rfl
end Go.Proofs.YtidhfimbnjaceaaGreat

namespace Go.Proofs.YtidhfimbnjaceaaGreat
open Go.RowKit
set_option linter.unusedVariables false
set_option linter.unusedSimpArgs false
theorem fewFolds {na : Nat} {ra : Nat → Nat → AV} {regs par : Int} {cs : List In} (hf : few24 na regs cs = false) : Has Tryz.prog 3 [codeV na ra regs par cs] [.v (.b true)] := by
 have hw := few24_has na ra regs par cs
 rw [hf] at hw
 refine hasQ_of' mixo x32ok ⟨by simp, by decide⟩ ?_
 simp only [argE, codeV] at hw ⊢
 repeat (first | (with_reducible refine GA.go mixo rfl ?_) | simp only [go_sem, simprocAttr])
 refine gcall_has [] (.cons (.rfl (by rfl)) .nil) hw (by simp only [go_sem, simprocAttr]) ?_
 repeat (first | (with_reducible refine GA.go mixo rfl ?_) | simp only [go_sem, simprocAttr])
 refine gcall_has [] .nil awake_has (by simp only [go_sem, simprocAttr]) ?_
 repeat (first | (with_reducible refine GA.go mixo rfl ?_) | simp only [go_sem, simprocAttr])
 exact has_end1 rfl rfl
theorem fewPrunes {na : Nat} {ra : Nat → Nat → AV} {regs par : Int} {cs : List In} (hf : few24 na regs cs = false) : Has Tryz.prog 6 [codeV na ra regs par cs] [.v (.b true)] := by
 have hw := few24_has na ra regs par cs
 rw [hf] at hw
 refine hasQ_of' mixo x56ok ⟨by simp, by decide⟩ ?_
 simp only [argE, codeV] at hw ⊢
 repeat (first | (with_reducible refine GA.go mixo rfl ?_) | simp only [go_sem, simprocAttr])
 refine gcall_has [] (.cons (.rfl (by rfl)) .nil) hw (by simp only [go_sem, simprocAttr]) ?_
 repeat (first | (with_reducible refine GA.go mixo rfl ?_) | simp only [go_sem, simprocAttr])
 refine gcall_has [] .nil awake_has (by simp only [go_sem, simprocAttr]) ?_
 repeat (first | (with_reducible refine GA.go mixo rfl ?_) | simp only [go_sem, simprocAttr])
 exact has_end1 rfl rfl
theorem goodPrunes {na : Nat} {ra : Nat → Nat → AV} {regs par : Int} {cs c2 c3 : List In} (hf : few24 na regs cs = true) (hA : Has Tryz.prog 17 [codeV na ra regs par cs] [.v (codeV na ra regs par c2), .v (.n .i64 0)])
  (hB : Has Tryz.prog 18 [codeV na ra regs par cs] [.v (codeV na ra regs par c3), .v (.n .i64 0)]) (hS : Has Tryz.prog 12 [codeV na ra regs par c2, codeV na ra regs par c3] [.v (.b true)]) :
  Has Tryz.prog 6 [codeV na ra regs par cs] [.v (.b true)] := by
 have hw := few24_has na ra regs par cs
 rw [hf] at hw
 refine hasQ_of' mixo x56ok ⟨by simp, by decide⟩ ?_
 simp only [argE, codeV] at hw hA hB hS ⊢
 repeat (first | (with_reducible refine GA.go mixo rfl ?_) | simp only [go_sem, simprocAttr])
 refine gcall_has [] (.cons (.rfl (by rfl)) .nil) hw (by simp only [go_sem, simprocAttr]) ?_
 repeat (first | (with_reducible refine GA.go mixo rfl ?_) | simp only [go_sem, simprocAttr])
 refine gcall_has [] (.cons (.rfl (by rfl)) .nil) hA (by simp only [go_sem, simprocAttr]) ?_
 repeat (first | (with_reducible refine GA.go mixo rfl ?_) | simp only [go_sem, simprocAttr])
 refine gcall_has [] (.cons (.rfl (by rfl)) .nil) hB (by simp only [go_sem, simprocAttr]) ?_
 repeat (first | (with_reducible refine GA.go mixo rfl ?_) | simp only [go_sem, simprocAttr])
 refine gcall_has [] .nil awake_has (by simp only [go_sem, simprocAttr]) ?_
 repeat (first | (with_reducible refine GA.go mixo rfl ?_) | simp only [go_sem, simprocAttr])
 refine gcall_has [] (.cons (.rfl (by rfl)) (.cons (.rfl (by rfl)) .nil)) hS (by simp only [go_sem, simprocAttr]) ?_
 repeat (first | (with_reducible refine GA.go mixo rfl ?_) | simp only [decide_true, go_sem, simprocAttr])
 exact has_end1 rfl rfl
end Go.Proofs.YtidhfimbnjaceaaGreat

namespace Go.Proofs.YtidhfimbnjaceaaGreat
open Go.RowKit
set_option linter.unusedVariables false
set_option linter.unusedSimpArgs false
theorem ridle_has (op : Int) : Has Tryz.prog 49 [.n .i64 op] [.v (.b (idleB op))] := by
 refine hasQ_of' mixo x53ok ⟨by simp, by decide⟩ ?_
 simp only [argE]
 unfold idleB
 repeat (first | (with_reducible refine GA.go mixo rfl ?_) | simp only [go_sem, simprocAttr])
 refine gcall_has [] (.cons (.rfl (by rfl)) .nil) (rexpression_has op) (by simp only [go_sem, simprocAttr]) ?_
 cases h : expB op <;> cases d1 : decide (op = 0) <;> cases d2 : decide (op = 36) <;> cases d3 : decide (op = 38)
 all_goals
  repeat (first | (with_reducible refine GA.go mixo rfl ?_) | simp only [h, d1, d2, d3, go_sem, simprocAttr])
  exact has_end1 rfl rfl
theorem successors_has (cs : List In) (pt : List Int) (i : Nat) (hi : i < cs.length) (hip : i < pt.length) (hcs : cs.length < 1000000) (hp : -1 ≤ pt.getD i 0 ∧ pt.getD i 0 < cs.length) (hp31 : (cs.getD i (0, 0, 0, 0, 0)).1 = 31 → 0 ≤ pt.getD i 0) :
  Has Tryz.prog 78 [.fs 5 cs.length (cC cs), .fs 1 pt.length (iC .i64 pt), .n .i64 i] [.v (.fs 1 (follP cs pt i).length (iC .i64 (follP cs pt i)))] := by
 have h0 : (0 : Int) ≤ (i : Int) := by omega
 have h1 : (i : Int) < (cs.length : Int) := by omega
 have h2 : (i : Int) < (pt.length : Int) := by omega
 have hc := cC0 cs i
 have hpt : iC .i64 pt i 0 = .n .i64 (pt.getD i 0) := rfl
 have hw1 : IntKind.wrap .i64 ((i : Int) + 1) = (i : Int) + 1 := wrap64 (by omega)
 have hw2 : IntKind.wrap .i64 (pt.getD i 0 + 1) = pt.getD i 0 + 1 := wrap64 (by omega)
 unfold follP
 generalize hop : (cs.getD i (0, 0, 0, 0, 0)).1 = op at hc hp31 ⊢
 generalize hpp : pt.getD i 0 = p at hpt hp hp31 hw2 ⊢
 refine hasQ_of' mixo x55ok ⟨by simp, by decide⟩ ?_
 simp only [argE]
 by_cases d27 : op = 27
 ·subst d27
  rw [if_neg (by decide), if_pos (.inl rfl)]
  (try simp only [h0, h1, h2, hc, hpt, decide_true, decide_false, go_sem, simprocAttr])
  iterate 14 (with_reducible refine GA.go mixo rfl ?_; try simp only [h0, h1, h2, hc, hpt, decide_true, decide_false, go_sem, simprocAttr])
  refine GA.cut (envOf [(6, .fs 1 2 (iC .i64 [(i : Int) + 1, p + 1]))]) (heapOf []) ?_ ?_
  ·refine GA.reg ?_
   simp only [hw1, hw2, go_sem, simprocAttr]
   refine Wk.mk [] [0] ?_ ?_ ?_
   ·simp only [WkE, go_sem, simprocAttr]
    refine Wv.cv (Cv.sl (x := _) (by simp) (by simp only [go_sem, simprocAttr]; rfl) (by simp) (by simp) (by simp) (fun i j hi hj => ?_) (fun i j _ _ => rfl))
    cases Nat.lt_one_iff.1 hj
    rcases lt2 hi with rfl | rfl <;> simp only [go_sem, simprocAttr] <;> rfl
   ·trivial
   ·simp
  ·repeat (first | (with_reducible refine GA.go mixo rfl ?_) | simp only [go_sem, simprocAttr])
   exact has_end1 rfl rfl
 by_cases d29 : op = 29
 ·subst d29
  rw [if_neg (by decide), if_pos (.inr (.inl rfl))]
  (try simp only [h0, h1, h2, hc, hpt, d27, decide_true, decide_false, go_sem, simprocAttr])
  iterate 17 (with_reducible refine GA.go mixo rfl ?_; try simp only [h0, h1, h2, hc, hpt, d27, decide_true, decide_false, go_sem, simprocAttr])
  refine GA.cut (envOf [(6, .fs 1 2 (iC .i64 [(i : Int) + 1, p + 1]))]) (heapOf []) ?_ ?_
  ·refine GA.reg ?_
   simp only [hw1, hw2, go_sem, simprocAttr]
   refine Wk.mk [] [0] ?_ ?_ ?_
   ·simp only [WkE, go_sem, simprocAttr]
    refine Wv.cv (Cv.sl (x := _) (by simp) (by simp only [go_sem, simprocAttr]; rfl) (by simp) (by simp) (by simp) (fun i j hi hj => ?_) (fun i j _ _ => rfl))
    cases Nat.lt_one_iff.1 hj
    rcases lt2 hi with rfl | rfl <;> simp only [go_sem, simprocAttr] <;> rfl
   ·trivial
   ·simp
  ·repeat (first | (with_reducible refine GA.go mixo rfl ?_) | simp only [go_sem, simprocAttr])
   exact has_end1 rfl rfl
 by_cases d30 : op = 30
 ·subst d30
  rw [if_neg (by decide), if_pos (.inr (.inr (.inl rfl)))]
  (try simp only [h0, h1, h2, hc, hpt, d27, d29, decide_true, decide_false, go_sem, simprocAttr])
  iterate 17 (with_reducible refine GA.go mixo rfl ?_; try simp only [h0, h1, h2, hc, hpt, d27, d29, decide_true, decide_false, go_sem, simprocAttr])
  refine GA.cut (envOf [(6, .fs 1 2 (iC .i64 [(i : Int) + 1, p + 1]))]) (heapOf []) ?_ ?_
  ·refine GA.reg ?_
   simp only [hw1, hw2, go_sem, simprocAttr]
   refine Wk.mk [] [0] ?_ ?_ ?_
   ·simp only [WkE, go_sem, simprocAttr]
    refine Wv.cv (Cv.sl (x := _) (by simp) (by simp only [go_sem, simprocAttr]; rfl) (by simp) (by simp) (by simp) (fun i j hi hj => ?_) (fun i j _ _ => rfl))
    cases Nat.lt_one_iff.1 hj
    rcases lt2 hi with rfl | rfl <;> simp only [go_sem, simprocAttr] <;> rfl
   ·trivial
   ·simp
  ·repeat (first | (with_reducible refine GA.go mixo rfl ?_) | simp only [go_sem, simprocAttr])
   exact has_end1 rfl rfl
 by_cases d28 : op = 28
 ·subst d28
  rw [if_pos rfl]
  (try simp only [h0, h1, h2, hc, hpt, d27, d29, d30, decide_true, decide_false, go_sem, simprocAttr])
  iterate 20 (with_reducible refine GA.go mixo rfl ?_; try simp only [h0, h1, h2, hc, hpt, d27, d29, d30, decide_true, decide_false, go_sem, simprocAttr])
  refine GA.cut (envOf [(6, .fs 1 1 (iC .i64 [p + 1]))]) (heapOf []) ?_ ?_
  ·refine GA.reg ?_
   simp only [hw1, hw2, go_sem, simprocAttr]
   refine Wk.mk [] [0] ?_ ?_ ?_
   ·simp only [WkE, go_sem, simprocAttr]
    refine Wv.cv (Cv.sl (x := _) (by simp) (by simp only [go_sem, simprocAttr]; rfl) (by simp) (by simp) (by simp) (fun i j hi hj => ?_) (fun i j _ _ => rfl))
    cases Nat.lt_one_iff.1 hj
    rcases Nat.lt_one_iff.1 hi with rfl <;> simp only [go_sem, simprocAttr] <;> rfl
   ·trivial
   ·simp
  ·repeat (first | (with_reducible refine GA.go mixo rfl ?_) | simp only [go_sem, simprocAttr])
   exact has_end1 rfl rfl
 rw [if_neg d28]
 by_cases d31 : op = 31
 ·subst d31
  have hp0 := hp31 rfl
  obtain ⟨q, rfl⟩ : ∃ q : Nat, p = (q : Int) := ⟨p.toNat, by omega⟩
  have hq1 : (q : Int) < (cs.length : Int) := hp.2
  have hcq := cC0 cs q
  rw [Int.toNat_natCast]
  generalize (cs.getD q (0, 0, 0, 0, 0)).1 = oq at hcq ⊢
  by_cases dq : oq = 29
  ·subst dq
   rw [if_pos (.inr (.inr (.inr ⟨rfl, rfl⟩)))]
   (try simp only [h0, h1, h2, hc, hpt, d27, d29, d30, d28, hp0, hq1, hcq, decide_true, decide_false, go_sem, simprocAttr])
   iterate 26 (with_reducible refine GA.go mixo rfl ?_; try simp only [h0, h1, h2, hc, hpt, d27, d29, d30, d28, hp0, hq1, hcq, decide_true, decide_false, go_sem, simprocAttr])
   refine GA.cut (envOf [(6, .fs 1 2 (iC .i64 [(i : Int) + 1, (q : Int) + 1]))]) (heapOf []) ?_ ?_
   ·refine GA.reg ?_
    simp only [hw1, hw2, go_sem, simprocAttr]
    refine Wk.mk [] [0] ?_ ?_ ?_
    ·simp only [WkE, go_sem, simprocAttr]
     refine Wv.cv (Cv.sl (x := _) (by simp) (by simp only [go_sem, simprocAttr]; rfl) (by simp) (by simp) (by simp) (fun i j hi hj => ?_) (fun i j _ _ => rfl))
     cases Nat.lt_one_iff.1 hj
     rcases lt2 hi with rfl | rfl <;> simp only [go_sem, simprocAttr] <;> rfl
    ·trivial
    ·simp
   ·repeat (first | (with_reducible refine GA.go mixo rfl ?_) | simp only [go_sem, simprocAttr])
    exact has_end1 rfl rfl
  ·rw [if_neg (by simp [dq])]
   (try simp only [h0, h1, h2, hc, hpt, d27, d29, d30, d28, hp0, hq1, hcq, dq, decide_true, decide_false, go_sem, simprocAttr])
   iterate 27 (with_reducible refine GA.go mixo rfl ?_; try simp only [h0, h1, h2, hc, hpt, d27, d29, d30, d28, hp0, hq1, hcq, dq, decide_true, decide_false, go_sem, simprocAttr])
   refine GA.cut (envOf [(6, .fs 1 1 (iC .i64 [(i : Int) + 1]))]) (heapOf []) ?_ ?_
   ·refine GA.reg ?_
    simp only [hw1, hw2, go_sem, simprocAttr]
    refine Wk.mk [] [0] ?_ ?_ ?_
    ·simp only [WkE, go_sem, simprocAttr]
     refine Wv.cv (Cv.sl (x := _) (by simp) (by simp only [go_sem, simprocAttr]; rfl) (by simp) (by simp) (by simp) (fun i j hi hj => ?_) (fun i j _ _ => rfl))
     cases Nat.lt_one_iff.1 hj
     rcases Nat.lt_one_iff.1 hi with rfl <;> simp only [go_sem, simprocAttr] <;> rfl
    ·trivial
    ·simp
   ·repeat (first | (with_reducible refine GA.go mixo rfl ?_) | simp only [go_sem, simprocAttr])
    exact has_end1 rfl rfl
 ·rw [if_neg (by simp [d27, d29, d30, d31])]
  (try simp only [h0, h1, h2, hc, hpt, d27, d29, d30, d28, d31, decide_true, decide_false, go_sem, simprocAttr])
  iterate 24 (with_reducible refine GA.go mixo rfl ?_; try simp only [h0, h1, h2, hc, hpt, d27, d29, d30, d28, d31, decide_true, decide_false, go_sem, simprocAttr])
  refine GA.cut (envOf [(6, .fs 1 1 (iC .i64 [(i : Int) + 1]))]) (heapOf []) ?_ ?_
  ·refine GA.reg ?_
   simp only [hw1, hw2, go_sem, simprocAttr]
   refine Wk.mk [] [0] ?_ ?_ ?_
   ·simp only [WkE, go_sem, simprocAttr]
    refine Wv.cv (Cv.sl (x := _) (by simp) (by simp only [go_sem, simprocAttr]; rfl) (by simp) (by simp) (by simp) (fun i j hi hj => ?_) (fun i j _ _ => rfl))
    cases Nat.lt_one_iff.1 hj
    rcases Nat.lt_one_iff.1 hi with rfl <;> simp only [go_sem, simprocAttr] <;> rfl
   ·trivial
   ·simp
  ·repeat (first | (with_reducible refine GA.go mixo rfl ?_) | simp only [go_sem, simprocAttr])
   exact has_end1 rfl rfl
theorem app2_row {x : AB} {n1 n2 : Nat} {r1 r2 : Nat → Nat → AV} (hn : n1 + n2 < 1000000) {i j : Nat} (hi : i < n1 + n2) (hj : j < 5) :
  ((x.app 0 (.fn (n1 * 5) fun i => r1 (i / 5) (i % 5))).app (n1 * 5) (.fn (n2 * 5) fun i => r2 (i / 5) (i % 5))).get (i * 5 + j) = if i < n1 then r1 i j else r2 (i - n1) j := by
 rw [AB.app_get _ _ _ _ (by simp only [ASrc.len]; omega) (by simp only [ASrc.len]; omega)]
 by_cases h : i < n1
 ·rw [if_neg (by omega), if_pos h, AB.app_get _ _ _ _ (by simp only [ASrc.len]; omega) (by simp only [ASrc.len]; omega), if_pos (by omega), Nat.sub_zero]
  show r1 ((i * 5 + j) / 5) ((i * 5 + j) % 5) = _
  rw [show (i * 5 + j) / 5 = i by omega, show (i * 5 + j) % 5 = j by omega]
 ·rw [if_pos (by omega), if_neg h]
  show r2 ((i * 5 + j - n1 * 5) / 5) ((i * 5 + j - n1 * 5) % 5) = _
  rw [show (i * 5 + j - n1 * 5) / 5 = i - n1 by omega, show (i * 5 + j - n1 * 5) % 5 = j by omega]
theorem del_cell (l : List In) (k d : Nat) (hk : k + d ≤ l.length) (i j : Nat) : (if i < k then cC l i j else cC l (k + d + (i - k)) j) = cC (delP l k d) i j := by
 unfold cC delP
 simp only [List.getD_eq_getElem?_getD]
 have hl : (l.take k).length = k := by rw [List.length_take]; omega
 by_cases h : i < k
 ·rw [if_pos h, List.getElem?_append_left (by omega), List.getElem?_take_of_lt h]
 ·rw [if_neg h, List.getElem?_append_right (by omega), hl, List.getElem?_drop]
def emR (l : List In) : List RT := match holP l with
 |some i => [.o 37 5 (delP l i (delN l i)).length 0 (cC (delP l i (delN l i))), .v (.b true)]
 |none => [.v (.fs 5 l.length (cC l)), .v (.b false)]
theorem rempty_has (cs : List In) (hcs : cs.length < 100000) : Has Tryz.prog 50 [.fs 5 cs.length (cC cs)] (emR cs) := by
 refine hasQ_of' mixo x54ok ⟨by simp, by decide⟩ ?_
 simp only [argE]
 repeat (first | (with_reducible refine GA.go mixo rfl ?_) | simp only [go_sem, simprocAttr])
 refine GA.loop (I := fun mm e H => ∃ k f : Nat, mm = cs.length - k ∧ k ≤ cs.length ∧ k + f = cs.length ∧ holP cs = holGo cs f k ∧ e = envOf [(0, .fs 5 cs.length (cC cs)), (4, .n .i64 k)] ∧ H = heapOf []) (Wk.mk [] [] ?_ ?_ ?_) ⟨0, cs.length, rfl, by omega, by omega, rfl, rfl, rfl⟩ ?_
 ·simp only [WkE, WkH, go_sem, simprocAttr]
  repeat' refine and_of ?_ ?_
  all_goals first | exact wkt | skip
 ·trivial
 ·simp
 rintro mm e H ⟨k, f, rfl, hk, hkf, hs, rfl, rfl⟩
 have hw : IntKind.wrap .i64 ((k : Int) + 1) = ((k + 1 : Nat) : Int) := by rw [wrap64 (by omega)]; omega
 have hw2 : IntKind.wrap .i64 ((k : Int) + 2) = ((k + 2 : Nat) : Int) := by rw [wrap64 (by omega)]; omega
 repeat (first | (with_reducible refine GA.go mixo rfl ?_) | simp only [hw, go_sem, simprocAttr])
 refine ⟨fun h => ?_, fun h => ?_⟩
 ·have hkn : k + 1 < cs.length := by omega
  have h0 : (0 : Int) ≤ (k : Int) := by omega
  have h0' : (0 : Int) ≤ ((k + 1 : Nat) : Int) := by omega
  have h0'' : (0 : Int) ≤ ((k + 2 : Nat) : Int) := by omega
  have h1 : (k : Int) < (cs.length : Int) := by omega
  have h1' : (k : Int) ≤ (cs.length : Int) := by omega
  have h2' : ((k + 1 : Nat) : Int) ≤ (cs.length : Int) := by omega
  have h3' : ((k + 2 : Nat) : Int) ≤ (cs.length : Int) := by omega
  have hc := cC0 cs k
  have hc' := cC0 cs (k + 1)
  have hB : holB cs k = (decide ((cs.getD (k + 1) (0, 0, 0, 0, 0)).1 = 31) && (decide ((cs.getD k (0, 0, 0, 0, 0)).1 = 27) || decide ((cs.getD k (0, 0, 0, 0, 0)).1 = 29) || decide ((cs.getD k (0, 0, 0, 0, 0)).1 = 28))) := rfl
  have hD : delN cs k = if (cs.getD k (0, 0, 0, 0, 0)).1 = 28 then 1 else 2 := rfl
  obtain ⟨f, rfl⟩ : ∃ g, f = g + 1 := ⟨f - 1, by omega⟩
  rw [holGo, if_pos hkn] at hs
  have hlA : k * 5 < 1099511627776 ∧ k * 40 ≤ 140737488355328 ∧ k ≤ 9223372036854775807 := by omega
  have lim : ∀ n, n ≤ cs.length → (k + n) * 5 < 1099511627776 ∧ (k + n) * 40 ≤ 140737488355328 ∧ k + n ≤ 9223372036854775807 ∧ n * 5 < 1099511627776 := fun n hn => by omega
  generalize (cs.getD k (0, 0, 0, 0, 0)).1 = op at hc hB hD
  generalize (cs.getD (k + 1) (0, 0, 0, 0, 0)).1 = op' at hc' hB
  have next : holB cs k = false → ∀ (e' : Tr AV) (H' : AH), Wk 51 e' H' (envOf [(0, .fs 5 cs.length (cC cs)), (4, .n .i64 ((k + 1 : Nat) : Int))]) (heapOf []) → ∃ m e2 H2, m < cs.length - k ∧ Wk 51 e' H' e2 H2 ∧ ∃ k f : Nat, m = cs.length - k ∧ k ≤ cs.length ∧ k + f = cs.length ∧ holP cs = holGo cs f k ∧ e2 = envOf [(0, .fs 5 cs.length (cC cs)), (4, .n .i64 k)] ∧ H2 = heapOf [] := fun hf e' H' hw' => by
   rw [hf, if_neg (by simp)] at hs
   exact ⟨_, _, _, by omega, hw', k + 1, f, rfl, by omega, by omega, hs, rfl, rfl⟩
  cases d1 : decide (op' = 31)
  ·rw [d1] at hB
   simp only [Bool.false_and] at hB
   repeat (first | (with_reducible refine GA.go mixo rfl ?_) | simp only [h0, h0', h, h1, hc, hc', hw, d1, go_sem, simprocAttr])
   refine next hB _ _ (Wk.mk [] [] ?_ ?_ ?_)
   ·simp only [WkE, WkH, go_sem, simprocAttr]
    repeat' refine and_of ?_ ?_
    all_goals first | exact wkt | skip
   ·trivial
   ·simp
  cases d2 : decide (op = 27)
  ·cases d3 : decide (op = 29)
   ·cases d4 : decide (op = 28)
    ·rw [d1, d2, d3, d4] at hB
     simp only [Bool.true_and, Bool.false_or] at hB
     repeat (first | (with_reducible refine GA.go mixo rfl ?_) | simp only [h0, h0', h, h1, hc, hc', hw, d1, d2, d3, d4, go_sem, simprocAttr])
     refine next hB _ _ (Wk.mk [] [] ?_ ?_ ?_)
     ·simp only [WkE, WkH, go_sem, simprocAttr]
      repeat' refine and_of ?_ ?_
      all_goals first | exact wkt | skip
     ·trivial
     ·simp
    ·rw [d1, d2, d3, d4] at hB
     simp only [Bool.true_and, Bool.false_or, Bool.or_true, Bool.true_or, Bool.or_false] at hB
     rw [hB, if_pos rfl] at hs
     have hDD : delN cs k = 1 := by rw [hD]; rw [if_pos (of_decide_eq_true d4)]
     unfold emR
     rw [hs]
     have hln : (delP cs k 1).length = k + (cs.length - (k + 1)) := by rw [delP_len (by omega)]; omega
     simp only [hDD, hln]
     have hll := lim (cs.length - (k + 1)) (by omega)
     repeat (first | (with_reducible refine GA.go mixo rfl ?_) | simp only [h0, h0', h0'', h, h1, h1', h2', h3', hc, hc', hw, hw2, d1, d2, d3, d4, hlA.1, hlA.2.1, hlA.2.2, hll.1, hll.2.1, hll.2.2.1, hll.2.2.2, Int.le_refl, Nat.sub_zero, decide_true, decide_false, go_sem, simprocAttr])
     refine ⟨[_, _], rfl, .o (x := _) (by simp only [go_sem, simprocAttr]; rfl) (by rfl) (by rfl) (by rfl) (by decide) (by simp only [go_sem, simprocAttr] <;> omega) (by simp only [go_sem, simprocAttr] <;> omega) (fun i j hi hj => ?_) (fun i j _ hj => cC_cell i hj) rfl (.v rfl rfl .nil)⟩
     refine (app2_row (r1 := cC cs) (r2 := fun a b => cC cs (k + 1 + a) b) (by omega) hi hj).trans ?_
     exact del_cell cs k 1 (by omega) i j
   ·rw [d1, d2, d3] at hB
    simp only [Bool.true_and, Bool.false_or, Bool.or_true, Bool.true_or, Bool.or_false] at hB
    rw [hB, if_pos rfl] at hs
    have hDD : delN cs k = 2 := by rw [hD]; rw [if_neg (by have := of_decide_eq_true d3; omega)]
    unfold emR
    rw [hs]
    have hln : (delP cs k 2).length = k + (cs.length - (k + 2)) := by rw [delP_len (by omega)]; omega
    simp only [hDD, hln]
    have hll := lim (cs.length - (k + 2)) (by omega)
    repeat (first | (with_reducible refine GA.go mixo rfl ?_) | simp only [h0, h0', h0'', h, h1, h1', h2', h3', hc, hc', hw, hw2, d1, d2, d3, hlA.1, hlA.2.1, hlA.2.2, hll.1, hll.2.1, hll.2.2.1, hll.2.2.2, Int.le_refl, Nat.sub_zero, decide_true, decide_false, go_sem, simprocAttr])
    refine ⟨[_, _], rfl, .o (x := _) (by simp only [go_sem, simprocAttr]; rfl) (by rfl) (by rfl) (by rfl) (by decide) (by simp only [go_sem, simprocAttr] <;> omega) (by simp only [go_sem, simprocAttr] <;> omega) (fun i j hi hj => ?_) (fun i j _ hj => cC_cell i hj) rfl (.v rfl rfl .nil)⟩
    refine (app2_row (r1 := cC cs) (r2 := fun a b => cC cs (k + 2 + a) b) (by omega) hi hj).trans ?_
    exact del_cell cs k 2 (by omega) i j
  ·rw [d1, d2] at hB
   simp only [Bool.true_and, Bool.false_or, Bool.or_true, Bool.true_or, Bool.or_false] at hB
   rw [hB, if_pos rfl] at hs
   have hDD : delN cs k = 2 := by rw [hD]; rw [if_neg (by have := of_decide_eq_true d2; omega)]
   unfold emR
   rw [hs]
   have hln : (delP cs k 2).length = k + (cs.length - (k + 2)) := by rw [delP_len (by omega)]; omega
   simp only [hDD, hln]
   have hll := lim (cs.length - (k + 2)) (by omega)
   repeat (first | (with_reducible refine GA.go mixo rfl ?_) | simp only [h0, h0', h0'', h, h1, h1', h2', h3', hc, hc', hw, hw2, d1, d2, hlA.1, hlA.2.1, hlA.2.2, hll.1, hll.2.1, hll.2.2.1, hll.2.2.2, Int.le_refl, Nat.sub_zero, decide_true, decide_false, go_sem, simprocAttr])
   refine ⟨[_, _], rfl, .o (x := _) (by simp only [go_sem, simprocAttr]; rfl) (by rfl) (by rfl) (by rfl) (by decide) (by simp only [go_sem, simprocAttr] <;> omega) (by simp only [go_sem, simprocAttr] <;> omega) (fun i j hi hj => ?_) (fun i j _ hj => cC_cell i hj) rfl (.v rfl rfl .nil)⟩
   refine (app2_row (r1 := cC cs) (r2 := fun a b => cC cs (k + 2 + a) b) (by omega) hi hj).trans ?_
   exact del_cell cs k 2 (by omega) i j
 ·have hn : holGo cs f k = none := by
   cases f with
   |zero => rfl
   |succ f => rw [holGo, if_neg (by omega)]
  rw [hn] at hs
  repeat (first | (with_reducible refine GA.go mixo rfl ?_) | simp only [go_sem, simprocAttr])
  unfold emR
  rw [hs]
  exact has_tup (.v rfl rfl (.v rfl rfl .nil))
end Go.Proofs.YtidhfimbnjaceaaGreat
