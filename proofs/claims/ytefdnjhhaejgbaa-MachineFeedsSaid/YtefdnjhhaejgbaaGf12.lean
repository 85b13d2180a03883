/- A part of the proof of MachineFeeds: K L Cb. No condition. -/
import Derived.Deep.Cut
import Derived.Lib.SliceRun
import Derived.Test.YtefdnjhhaejgbaaGf11
import Derived.Test.YtefdnjhhaejgbaaGf01
set_option linter.unusedSimpArgs false
set_option linter.unusedVariables false
namespace Go.Proofs.Ytefdnjhhaejgbaa
open Go.RowKit
set_option linter.unusedVariables false
theorem Try.elU32 : ElT Try.prog 29 42 (.int .u32 0) 1 4 := ⟨Try.underlying29, by kernel_rfl, rfl, by decide, by decide⟩
theorem oneCell_ints (k : IntKind) (xs : List Int) : ∀ u ∈ ints k xs, u.oneCell' = true := by
  intro u hu
  simp only [ints, List.mem_map] at hu
  obtain ⟨x, _, rfl⟩ := hu
  rfl
theorem own_blk {w : World} {base : Nat} {e : TypeId} {g n cc : Nat} {xs : List Value} (h : w.ownsRow base e 1 (.slice (some ⟨g, 0, none⟩) n cc) n xs) : ∃ t, Blk w g (xs ++ t) e := by
  rcases h.2 with ⟨h1, _⟩ | ⟨g', cc', cur, hv, hb, hgg, hle, hmx, hcs, htk⟩
  · cases h1
  · simp only [Value.slice.injEq, Option.some.injEq, Addr.mk.injEq] at hv
    obtain ⟨⟨rfl, _⟩, _, rfl⟩ := hv
    refine ⟨cur.toList.drop (n * 1), ?_⟩
    unfold Blk
    rw [hgg, ← htk, List.take_append_drop]
set_option maxRecDepth 100000 in
set_option maxHeartbeats 1000000 in
theorem clone_any (b off n cap : Nat) (xs : List Int) (w : World) (hn : xs.length = n) (h0 : 0 < n) (hmax : n ≤ 65536) (hc : ∀ j, j < n → w.cell? ⟨b, off + j, none⟩ = some (.int .u32 (xs.getD j 0))) :
    Calls Try.prog 84 #[.slice (some ⟨b, off, none⟩) n cap] w fun e w' => ∃ g cc t, e = .returned (.slice (some ⟨g, 0, none⟩) n cc) ∧ Blk w' g (ints .u32 xs ++ t) 42 ∧ w.heap.size ≤ g ∧ Below w.heap.size w w' := by
  have q := fun (w : World) (a : Option Addr) (n c n' c' : Nat) => Lib.run_eql_slice_nil (P := Try.prog) w _ _ a n c n' c' Try.underlying29
  obtain ⟨i, hi, hz, h2, h3⟩ := info_parts Try.elU32.info
  have HN := Lib.hid hn
  have HC := Lib.hid hc
  clear hn hc
  go_enter Try.func84, Try.ntmps84
  go_wp2_with (at_builtin; refine wpList_append_lies _ rfl _ _ _ rfl w.heap.size 42 i (.int .u32 0) 1 4 Try.underlying29 hi hz h2 h3 rfl (by decide) (.slice (some ⟨w.heap.size, 0, none⟩) 0 0) 0 [] rfl ?c1 ⟨b, off, none⟩ n cap (ints .u32 xs) rfl ?c2 ?c3 (oneCell_ints _ _) h0 ?c4 ?c5 ?c6 _ rfl ?_)
  case c1 =>
    have := World.ownsRow_lit (base := w.heap.size) (e := 42) (size := 1) w #[] 0 (Nat.le_refl _) (by decide) (by simp)
    simpa using this
  case c2 => have := HN.out; simp [ints]; omega
  case c3 =>
    intro j u hu
    have hj : j < xs.length := by
      have := (List.getElem?_eq_some_iff.1 hu).1
      simpa [ints] using this
    rw [ints_get hj] at hu
    have e : ((⟨b, off, none⟩ : Addr).add j) = ⟨b, off + j, none⟩ := by unfold Addr.add; split <;> simp_all
    have h5 := HC.out j (by have := HN.out; omega)
    have hb : b < w.heap.size := World.block_lt_of_cell? w _ h5
    rw [e, World.cell?_alloc_past _ _ _ hb, h5]
    exact hu
  case c4 => unfold maxLen; omega
  case c5 => omega
  case c6 => simp
  intro g cc w' hown hgrow hat hlt
  have hgb : Below w.heap.size w w' := ((Below.refl _ _).alloc (by simp) _).trans (below_grown hgrow (by simp) (fun k hk => by simp [Value.ownBlock] at hk; omega))
  have hgg : w.heap.size ≤ g := by
    rcases hat with hat | hat
    · simp [Value.ownBlock] at hat; omega
    · omega
  obtain ⟨t, ht⟩ := own_blk hown
  have HT := Lib.hid ht
  clear hown hgrow hat ht
  go_wp2
  go_ret
  exact ⟨g, cc, t, rfl, HT.out, hgg, hgb⟩
end Go.Proofs.Ytefdnjhhaejgbaa

namespace Go.Proofs.Ytefdnjhhaejgbaa
open Go.RowKit
set_option linter.unusedVariables false
theorem Try.elSl : ElT Try.prog 28 29 (.slice none 0 0) 1 24 := ⟨Try.underlying28, by kernel_rfl, rfl, by decide, by decide⟩
def NumsAt (w : World) (a : Option Addr) (xs : List Int) : Prop :=
  ∃ b off, a = some ⟨b, off, none⟩ ∧ ∀ j, j < xs.length → w.cell? ⟨b, off + j, none⟩ = some (.int .u32 (xs.getD j 0))
def GridAt (w : World) (qa : Option Addr) (arr : List (List Int)) : Prop :=
  ∀ k, k < arr.length → ∃ q qo a cap, qa = some ⟨q, qo, none⟩ ∧ w.cell? ⟨q, qo + k, none⟩ = some (.slice a (arr.getD k []).length cap) ∧ NumsAt w a (arr.getD k [])
theorem NumsAt.lt {w : World} {b off : Nat} {xs : List Int} (h : ∀ j, j < xs.length → w.cell? ⟨b, off + j, none⟩ = some (.int .u32 (xs.getD j 0))) (h0 : 0 < xs.length) : b < w.heap.size :=
  World.block_lt_of_cell? w _ (h 0 h0)
theorem NumsAt.below {w w' : World} {a : Option Addr} {xs : List Int} (h : NumsAt w a xs) (hb : Below w.heap.size w w') : NumsAt w' a xs := by
  obtain ⟨b, off, ha, hc⟩ := h
  refine ⟨b, off, ha, fun j hj => ?_⟩
  have h1 := hc j hj
  rw [hb.cell (p := ⟨b, off + j, none⟩) (World.block_lt_of_cell? w _ h1)]
  exact h1
theorem GridAt.below {w w' : World} {qa : Option Addr} {arr : List (List Int)} (h : GridAt w qa arr) (hb : Below w.heap.size w w') : GridAt w' qa arr := by
  intro k hk
  obtain ⟨q, qo, a, cap, h1, h2, h3⟩ := h k hk
  exact ⟨q, qo, a, cap, h1, by rw [hb.cell (p := ⟨q, qo + k, none⟩) (World.block_lt_of_cell? w _ h2)]; exact h2, h3.below hb⟩
structure GridOwn (B : Nat) (τ : Nat → Nat) (arr : List (List Int)) (ab ac : Nat → Nat) (v : Value) (w : World) : Prop where
  own : w.ownsRow B 29 1 v arr.length ((List.range arr.length).map fun k => .slice (some ⟨ab k, 0, none⟩) (arr.getD k []).length (ac k))
  blk : ∀ k, k < arr.length → ∃ t, Blk w (ab k) (ints .u32 (arr.getD k []) ++ t) 42
  ta : ∀ k, k < arr.length → τ (ab k) = 7 + k
  to : ∀ g, v.ownBlock = some g → τ g = 4
  ba : ∀ k, k < arr.length → B ≤ ab k
theorem GridOwn.foreign {B : Nat} {τ : Nat → Nat} {arr : List (List Int)} {ab ac : Nat → Nat} {v : Value} {w : World} (h : GridOwn B τ arr ab ac v w) (hn : arr.length ≤ 900) {y : Nat} (hy : 1000 ≤ τ y) (j : Nat) (u : Value) :
    GridOwn B τ arr ab ac v (w.setCell ⟨y, j, none⟩ u) := by
  have hg : w.grownBy (w.setCell ⟨y, j, none⟩ u) (some y) := ⟨rfl, rfl, rfl, by simp [World.setCell], fun k _ hk => Below.heap_setCell _ _ _ _ (fun e => hk (by rw [e]))⟩
  exact { h with
    own := h.own.kept hg (by
      cases hv : v.ownBlock with
      | none => exact .inl rfl
      | some x => right; intro e; have := h.to x hv; rw [Option.some.inj e] at this; omega)
    blk := fun k hk => by
      obtain ⟨t, ht⟩ := h.blk k hk
      exact ⟨t, ht.other (fun e => by have := h.ta k hk; simp at e; rw [e] at this; omega) _⟩ }
theorem getD_snoc_lt {α : Type} (l : List α) (x d : α) {k : Nat} (hk : k < l.length) : (l ++ [x]).getD k d = l.getD k d := by
  rw [List.getD_eq_getElem?_getD, List.getD_eq_getElem?_getD, List.getElem?_append_left hk]
theorem getD_snoc_eq {α : Type} (l : List α) (x d : α) : (l ++ [x]).getD l.length d = x := by
  rw [List.getD_eq_getElem?_getD, List.getElem?_append_right (Nat.le_refl _)]; simp
theorem GridOwn.push {B : Nat} {τ : Nat → Nat} {arr : List (List Int)} {ab ac : Nat → Nat} {v : Value} {w w1 w2 : World} (h : GridOwn B τ arr ab ac v w) (x : List Int) {gx cx g' c' : Nat} {t : List Value}
    (hB : B ≤ w.heap.size) (hb : Below w.heap.size w w1) (hx : Blk w1 gx (ints .u32 x ++ t) 42) (hgx : w.heap.size ≤ gx)
    (hown : w2.ownsRow B 29 1 (.slice (some ⟨g', 0, none⟩) (arr.length + 1) c') (arr.length + 1) (((List.range arr.length).map fun k => .slice (some ⟨ab k, 0, none⟩) (arr.getD k []).length (ac k)) ++ [.slice (some ⟨gx, 0, none⟩) x.length cx]))
    (hg : w1.grownBy w2 v.ownBlock) (hat : v.ownBlock = some g' ∨ w1.heap.size ≤ g') :
    GridOwn B (fun y => if y = gx then 7 + arr.length else if y = g' then 4 else τ y) (arr ++ [x]) (fun k => if k = arr.length then gx else ab k) (fun k => if k = arr.length then cx else ac k) (.slice (some ⟨g', 0, none⟩) (arr.length + 1) c') w2 := by
  have hgx1 := hx.lt
  have vown : ∀ k, v.ownBlock = some k → B ≤ k ∧ k < w.heap.size := h.own.lt
  have hgne : gx ≠ g' := by
    rcases hat with hat | hat
    · have := (vown g' hat).2; omega
    · omega
  have abne : ∀ k, k < arr.length → ab k ≠ gx ∧ ab k ≠ g' ∧ some (ab k) ≠ v.ownBlock := fun k hk => by
    obtain ⟨t', ht'⟩ := h.blk k hk
    have hlt := ht'.lt
    have htag := h.ta k hk
    refine ⟨by omega, fun e => ?_, fun e => ?_⟩
    · rcases hat with hat | hat
      · have := h.to g' hat; rw [← e] at this; omega
      · have := hb.size; omega
    · have := h.to (ab k) e.symm; omega
  have gxr : some gx ≠ v.ownBlock := fun e => by have := (vown gx e.symm).2; omega
  exact {
    own := by
      rw [List.length_append, List.length_singleton, List.range_succ, List.map_append]
      have e1 : (List.range arr.length).map (fun k => Value.slice (some ⟨if k = arr.length then gx else ab k, 0, none⟩) ((arr ++ [x]).getD k []).length (if k = arr.length then cx else ac k)) =
          (List.range arr.length).map (fun k => Value.slice (some ⟨ab k, 0, none⟩) (arr.getD k []).length (ac k)) := by
        apply List.map_congr_left
        intro k hk
        have hk' : k < arr.length := List.mem_range.1 hk
        rw [if_neg (by omega), if_neg (by omega), getD_snoc_lt arr x [] hk']
      rw [e1]
      simp only [List.map_cons, List.map_nil, if_true, getD_snoc_eq]
      exact hown
    blk := fun k hk => by
      rw [List.length_append, List.length_singleton] at hk
      by_cases hkk : k = arr.length
      · subst hkk
        simp only [if_true, getD_snoc_eq]
        exact ⟨t, hx.grown hg gxr⟩
      · have hk' : k < arr.length := by omega
        rw [if_neg hkk, getD_snoc_lt arr x [] hk']
        obtain ⟨t', ht'⟩ := h.blk k hk'
        exact ⟨t', (ht'.below hb ht'.lt).grown hg (abne k hk').2.2⟩
    ta := fun k hk => by
      rw [List.length_append, List.length_singleton] at hk
      by_cases hkk : k = arr.length
      · subst hkk; simp
      · have hk' : k < arr.length := by omega
        simp [hkk, (abne k hk').1, (abne k hk').2.1, h.ta k hk']
    to := fun g hg0 => by
      simp [Value.ownBlock] at hg0
      subst hg0
      simp [Ne.symm hgne]
    ba := fun k hk => by
      rw [List.length_append, List.length_singleton] at hk
      by_cases hkk : k = arr.length
      · subst hkk; simp; omega
      · rw [if_neg hkk]; exact h.ba k (by omega) }
structure CopyAt (w : World) (arr : List (List Int)) (ctx : List Int) (b2 b3 cb cc : Nat) (k : Nat) (τ : Nat → Nat) (ab ac : Nat → Nat) (v : Value) (wr : World) : Prop where
  le : k ≤ arr.length
  grid : GridOwn w.heap.size τ (arr.take k) ab ac v wr
  out : Blk wr b3 [v, .slice (some ⟨cb, 0, none⟩) ctx.length cc] 31
  res : Blk wr b2 [.slice none 0 0, .slice none 0 0] 31
  ctx : ∃ t, Blk wr cb (ints .u32 ctx ++ t) 42
  tc : τ cb = 3
  t2 : τ b2 = 2000
  t3 : τ b3 = 2001
  bc : w.heap.size ≤ cb
  b2 : w.heap.size ≤ b2
  b3 : w.heap.size ≤ b3
  bel : Below w.heap.size w wr
def CopyRel (w : World) (arr : List (List Int)) (ctx : List Int) (b2 b3 cb cc : Nat) (i : Value) (wr : World) : Prop :=
  ∃ k τ ab ac v, i = .int .i64 (k : Nat) ∧ CopyAt w arr ctx b2 b3 cb cc k τ ab ac v wr
def CopyPost (w : World) (arr : List (List Int)) (ctx : List Int) (e : Ending) (w' : World) : Prop :=
  ∃ v τ ab ac cb cc, e = .returned (.agg #[v, .slice (some ⟨cb, 0, none⟩) ctx.length cc]) ∧ GridOwn w.heap.size τ arr ab ac v w' ∧ (∃ t, Blk w' cb (ints .u32 ctx ++ t) 42) ∧ τ cb = 3 ∧ w.heap.size ≤ cb ∧ Below w.heap.size w w'
set_option maxRecDepth 100000 in
set_option maxHeartbeats 1000000 in
theorem copied_any (qa ca : Option Addr) (cq cc0 : Nat) (arr : List (List Int)) (ctx : List Int) (w : World) (hg : GridAt w qa arr) (hctx : NumsAt w ca ctx)
    (hn : arr.length ≤ 8) (h1 : ∀ a ∈ arr, 0 < a.length ∧ a.length ≤ 65536) (hc : 0 < ctx.length ∧ ctx.length ≤ 16) :
    Calls Try.prog 52 #[.agg #[.slice qa arr.length cq, .slice ca ctx.length cc0]] w (CopyPost w arr ctx) := by
  obtain ⟨b, off, rfl, hcc⟩ := hctx
  have hbl := NumsAt.lt hcc hc.1
  have HC := Lib.hid hcc
  have HG := Lib.hid hg
  clear hcc hg
  go_enter Try.func52, Try.ntmps52
  go_wp2_with fail
  refine (clone_any b off ctx.length cc0 ctx _ rfl hc.1 (by omega) ?_).mono ?_
  · intro j hj
    have h5 := HC.out j hj
    simp [go_sem, hbl, h5]
  rintro e w1 ⟨g, cc, t, rfl, hblk, hgg, hb1⟩
  have hs1 : w.heap.size + 2 ≤ w1.heap.size := by have := hb1.size; simp at this; omega
  have hsz : w.heap.size < w1.heap.size := by omega
  have c0 : w1.cell? ⟨w.heap.size, 0, none⟩ = some (.slice qa arr.length cq) := by rw [hb1.cell (p := ⟨w.heap.size, 0, none⟩) (by simp; omega)]; simp [go_sem]
  have hres : Blk w1 (w.heap.size + 1) [.slice none 0 0, .slice none 0 0] 31 := by
    unfold Blk
    rw [hb1.block _ (by simp)]
    exact heap_new2 w _ _
  have hbw : Below w.heap.size w w1 := (((Below.refl _ _).alloc (by simp) _).alloc (by simp) _).trans (hb1.mono (by simp; omega))
  have hgl : g < w1.heap.size := hblk.lt
  have hg2 : w.heap.size + 2 ≤ g := by simpa using hgg
  have HA := Lib.hid (And.intro hblk hres)
  clear hgg hb1 hblk hres
  have start : ∀ wr, wr = w1.alloc (.cells #[.slice none 0 0, .slice (some ⟨g, 0, none⟩) ctx.length cc] 31) → CopyRel w arr ctx (w.heap.size + 1) w1.heap.size g cc (.int .i64 0) wr := by
    rintro wr rfl
    obtain ⟨hblk, hres⟩ := HA.out
    have hba : Below w1.heap.size w1 (w1.alloc (.cells #[.slice none 0 0, .slice (some ⟨g, 0, none⟩) ctx.length cc] 31)) := (Below.refl _ _).alloc (Nat.le_refl _) _
    refine ⟨0, fun x => if x = g then 3 else if x = w.heap.size + 1 then 2000 else 2001, fun _ => 0, fun _ => 0, .slice none 0 0, rfl, ⟨by omega, ⟨?_, fun k hk => by simp at hk, fun k hk => by simp at hk, fun g hg => by simp [Value.ownBlock] at hg, fun k hk => by simp at hk⟩, heap_new1 _ _, hres.below hba hres.lt, ⟨t, hblk.below hba hgl⟩, by simp, ?_, ?_, by omega, by omega, by omega, hbw.trans (hba.mono (by omega))⟩⟩
    · exact World.ownsRow_nil _ _ _ _
    · rw [if_neg (by omega)]; simp
    · rw [if_neg (by omega), if_neg (by omega)]
  have HST := Lib.hid start
  clear start
  go_wp2_with fail
  go_loopw [13] (fun i wr => CopyRel w arr ctx (w.heap.size + 1) w1.heap.size g cc i wr) (fun i _ => arr.length - (intOf i).toNat)
  case atStart => exact HST.out _ rfl
  case round =>
    obtain ⟨k, τ, ab, ac, v, rfl, CA⟩ := hrel
    by_cases hk : k < arr.length
    · obtain ⟨q, qo, a, cap, rfl, hq, b4, o4, rfl, hn4⟩ := (HG.out.below CA.bel) k hk
      have hx := h1 (arr.getD k []) (by rw [List.getD_eq_getElem?_getD, List.getElem?_eq_getElem hk]; exact List.getElem_mem hk)
      have hk' := nat_cast_lt hk
      have c3 : wr.cell? ⟨w1.heap.size, 0, none⟩ = some v := CA.out.cell 0
      have z3 := CA.out.frozen 0
      have hol := CA.out.lt
      obtain ⟨va, vc, rfl⟩ : ∃ va vc, v = .slice va k vc := by
        have hl : (arr.take k).length = k := by simp; omega
        have hown := CA.grid.own
        rw [hl] at hown
        rcases hown.2 with ⟨h1, h2⟩ | ⟨g, cc, cur, h1, _⟩
        · exact ⟨none, 0, by rw [h1, h2]⟩
        · exact ⟨_, cc, h1⟩
      generalize hX : arr.getD k [] = X at *
      have HX := Lib.hid hX
      have HN4 := Lib.hid hn4
      clear hX hn4
      go_wp2_with fail
      refine wp_region_grew [1] [0, 2] [(2, 0), (2, 2), (1, 1), (0, 3), (0, 4), (0, 5), (0, 6), (0, 7)] (by kernel_rfl) (by kernel_rfl) (fun c a d v w h => by cases d <;> exact h) ?_
      simp only [getPlan, List.filterMap_cons, List.filterMap_nil, List.getElem?_toArray, List.getElem?_cons_succ, List.getElem?_cons_zero, Option.map_some]
      repeat ((first | refine wpPlan_pure (fun K hK => ?_) | refine wpPlan_float (fun K hK => ?_)); go_simp; refine hK _ ?_; clear hK K)
      refine wpPlan_keep ?_
      go_wp2_with fail
      refine (clone_any b4 o4 X.length cap X _ rfl hx.1 hx.2 ?_).mono ?_
      · intro j hj; exact HN4.out j hj
      rintro e w4 ⟨gx, cx, t4, rfl, hblk4, hgx4, hb4⟩
      go_wp2_with fail
      refine ⟨grew_below (below_undrew hb4), ?_⟩
      refine wpPlan_keep ?_
      go_wp2_with fail
      have hb5 : Below wr.heap.size wr w4 := below_undrew hb4
      have hs4 := hb5.size
      have hl : (arr.take k).length = k := by simp; omega
      have hown4 : w4.ownsRow w.heap.size 29 1 (.slice va k vc) k ((List.range k).map fun j => .slice (some ⟨ab j, 0, none⟩) ((arr.take k).getD j []).length (ac j)) := by
        have h9 := CA.grid.own.kept (grownBy_of_below hb5 none) (by cases hv : (Value.slice va (arr.take k).length vc).ownBlock <;> simp_all)
        rw [hl] at h9
        exact h9
      refine ⟨grew_below (hb5.trans ((Below.refl _ _).alloc hs4 _)), ?_⟩
      refine wpPlan_sees (by kernel_rfl) ?_
      refine wpList_app1 Try.elSl rfl _ _ rfl w.heap.size (.slice va k vc) k _ rfl (hown4.alloc _) w4.heap.size [.slice (some ⟨gx, 0, none⟩) X.length cx] (0, 0) rfl (heap_new1 _ _) rfl ?_ ?_ ?_ ?_
      · simp [Value.oneCell']
      · omega
      · have := CA.bel.size; simp; omega
      intro g6 c6 w6 hown6 hg6 hat6 hlt6
      have hg5 : w4.grownBy w6 (Value.slice va k vc).ownBlock := grownBy_trans (World.grownBy_alloc _ _ _) hg6
      have hat5 : (Value.slice va k vc).ownBlock = some g6 ∨ w4.heap.size ≤ g6 := by
        rcases hat6 with h | h
        · exact .inl h
        · right; rw [h]; simp
      have hB := CA.bel.size
      have vto : ∀ x, (Value.slice va k vc).ownBlock = some x → τ x = 4 := CA.grid.to
      have vlt : ∀ x, (Value.slice va k vc).ownBlock = some x → x < wr.heap.size := fun x hx => (CA.grid.own.lt x hx).2
      have P := CA.grid.push X hB hb5 hblk4 (by simpa using hgx4) (by rw [hl]; exact hown6) hg5 hat5
      rw [hl] at P
      have HP := Lib.hid P
      have fr : ∀ y t, y < wr.heap.size → τ y = t → t ≠ 4 → y ≠ gx ∧ y ≠ g6 ∧ w6.heap[y]? = wr.heap[y]? := by
        intro y t hy ht hne
        have hne2 : some y ≠ (Value.slice va k vc).ownBlock := fun e => hne (by rw [← ht]; exact vto y e.symm)
        have hgx5 : wr.heap.size ≤ gx := by simpa using hgx4
        refine ⟨by omega, fun e => ?_, ?_⟩
        · rcases hat5 with h | h
          · exact hne2 (by rw [h, e])
          · omega
        · rw [hg5.block y (by omega) hne2, hb5.block y hy]
      have f3 := fr w1.heap.size 2001 hol CA.t3 (by omega)
      have c6' : w6.cell? ⟨w1.heap.size, 0, none⟩ = some (.slice va k vc) := by rw [World.cell?_of_block f3.2.2]; exact c3
      have z6 : w6.frozen? ⟨w1.heap.size, 0, none⟩ = false := by rw [World.frozen?_of_block f3.2.2]; exact z3
      have f2 := fr (w.heap.size + 1) 2000 CA.res.lt CA.t2 (by omega)
      have fc := fr g 3 (by obtain ⟨t, ht⟩ := CA.ctx; exact ht.lt) CA.tc (by omega)
      have rel : CopyRel w arr ctx (w.heap.size + 1) w1.heap.size g cc (.int .i64 ((k : Int) + 1)) (w6.setCell ⟨w1.heap.size, 0, none⟩ (.slice (some ⟨g6, 0, none⟩) (k + 1) c6)) := by
        have htk : arr.take (k + 1) = arr.take k ++ [X] := by
          rw [← HX.out, List.take_succ_eq_append_getElem hk, List.getD_eq_getElem?_getD, List.getElem?_eq_getElem hk]; rfl
        have hP2 := P.foreign (by simp; omega) (y := w1.heap.size) (by simp [f3.1, f3.2.1, CA.t3]) 0 (.slice (some ⟨g6, 0, none⟩) (k + 1) c6)
        have hne : ∀ y, y ≠ w1.heap.size → (w6.setCell ⟨w1.heap.size, 0, none⟩ (.slice (some ⟨g6, 0, none⟩) (k + 1) c6)).heap[y]? = w6.heap[y]? := fun y hy => Below.heap_setCell _ _ _ _ hy
        refine ⟨k + 1, _, _, _, _, by simp, ⟨by omega, by rw [htk]; exact hP2, ?_, ?_, ?_, by simp [fc.1, fc.2.1, CA.tc], by simp [f2.1, f2.2.1, CA.t2], by simp [f3.1, f3.2.1, CA.t3], CA.bc, CA.b2, CA.b3, ?_⟩⟩
        · have o6 : Blk w6 w1.heap.size [.slice va k vc, .slice (some ⟨g, 0, none⟩) ctx.length cc] 31 := by unfold Blk; rw [f3.2.2]; exact CA.out
          exact o6.set 0 _
        · unfold Blk; rw [hne _ (by omega), f2.2.2]; exact CA.res
        · obtain ⟨t, ht⟩ := CA.ctx
          exact ⟨t, by unfold Blk; rw [hne _ (by omega), fc.2.2]; exact ht⟩
        · exact ((CA.bel.trans (hb5.mono hB)).trans (below_grown hg5 (by omega) (fun x hx => (CA.grid.own.lt x hx).1))).setCell CA.b3 _
      have HREL := Lib.hid rel
      clear fr P hown6 hg6 hat6 hown4 hgx4 hb4 f3 f2 fc c3 z3 hq rel
      go_wp2
      refine wpPlan_tail (by kernel_rfl) ?_
      simp only [List.map_cons, List.map_nil]
      go_wp2
      go_roundw
      case rel => exact HREL.out
      case measure => simp [intOf]; omega
    · have hkk : k = arr.length := by have := CA.le; omega
      subst hkk
      obtain ⟨va, vc, rfl⟩ : ∃ va vc, v = .slice va arr.length vc := by
        have hown := CA.grid.own
        rw [List.take_length] at hown
        rcases hown.2 with ⟨h1, h2⟩ | ⟨g, cc, cur, h1, _⟩
        · exact ⟨none, 0, by rw [h1, h2]⟩
        · exact ⟨_, cc, h1⟩
      have c0 : wr.cell? ⟨w1.heap.size, 0, none⟩ = some (.slice va arr.length vc) := CA.out.cell 0
      have c1 : wr.cell? ⟨w1.heap.size, 0 + 1, none⟩ = some (.slice (some ⟨g, 0, none⟩) ctx.length cc) := CA.out.cell 1
      have y0 : wr.cell? ⟨w.heap.size + 1, 0, none⟩ = some (.slice none 0 0) := CA.res.cell 0
      have y1 : wr.cell? ⟨w.heap.size + 1, 0 + 1, none⟩ = some (.slice none 0 0) := CA.res.cell 1
      have z0 := CA.res.frozen 0
      have z1 := CA.res.frozen (0 + 1)
      go_wp2
      refine bodyPost_ret (v := .agg #[.slice va arr.length vc, .slice (some ⟨g, 0, none⟩) ctx.length cc]) ?_ rfl ?_
      · have e0 := (CA.res.set 0 (.slice va arr.length vc)).set 1 (.slice (some ⟨g, 0, none⟩) ctx.length cc)
        have x0 := e0.cell 0
        have x1 := e0.cell 1
        simp only [List.set_cons_zero, List.set_cons_succ, List.getElem?_cons_zero, List.getElem?_cons_succ] at x0 x1
        simp [results, Try.results52, go_sem, x0, x1]
      · have hgr := CA.grid
        rw [List.take_length] at hgr
        have g1 := (hgr.foreign (by omega) (y := w.heap.size + 1) (by rw [CA.t2]; omega) 0 (.slice va arr.length vc)).foreign (by omega) (y := w.heap.size + 1) (by rw [CA.t2]; omega) 1 (.slice (some ⟨g, 0, none⟩) ctx.length cc)
        obtain ⟨t9, ht9⟩ := CA.ctx
        have hgn : g ≠ w.heap.size + 1 := by omega
        exact ⟨_, τ, ab, ac, g, cc, rfl, g1, ⟨t9, (ht9.other hgn _).other hgn _⟩, CA.tc, CA.bc, (CA.bel.setCell CA.b2 _).setCell CA.b2 _⟩
end Go.Proofs.Ytefdnjhhaejgbaa

namespace Go.Proofs.Ytefdnjhhaejgbaa
open Go.RowKit
set_option linter.unusedVariables false
theorem Try.elRI : ElT Try.prog 23 61 (.agg #[.int .i64 0, .int .i64 0, .int .i64 0, .int .i64 0, .int .u32 0]) 5 40 := ⟨Try.underlying23, by kernel_rfl, rfl, by decide, by decide⟩
theorem own_blkN {w : World} {base : Nat} {e : TypeId} {g n cc m : Nat} {xs : List Value} (h : w.ownsRow base e m (.slice (some ⟨g, 0, none⟩) n cc) n xs) : ∃ t, Blk w g (xs ++ t) e := by
  rcases h.2 with ⟨h1, _⟩ | ⟨g', cc', cur, hv, hb, hgg, hle, hmx, hcs, htk⟩
  · cases h1
  · simp only [Value.slice.injEq, Option.some.injEq, Addr.mk.injEq] at hv
    obtain ⟨⟨rfl, _⟩, _, rfl⟩ := hv
    refine ⟨cur.toList.drop (n * m), ?_⟩
    unfold Blk
    rw [hgg, ← htk, List.take_append_drop]
set_option maxRecDepth 100000 in
set_option maxHeartbeats 1000000 in
theorem copy_code (b off n cap : Nat) (regs spills : Int) (cs : List Value) (w : World) (hn : cs.length = n * 5) (h0 : 0 < n) (hmax : n ≤ 16384) (hc : ∀ j u, cs[j]? = some u → w.cell? ⟨b, off + j, none⟩ = some u) (h1 : ∀ u ∈ cs, u.oneCell' = true) (hb : b < w.heap.size) :
    Calls Try.prog 28 #[.agg #[.slice none 0 0, .int .i64 regs, .int .i64 spills, .slice (some ⟨b, off, none⟩) n cap]] w fun e w' => ∃ g0 g cc t, e = .returned (.agg #[.slice (some ⟨g0, 0, none⟩) 0 0, .int .i64 regs, .int .i64 spills, .slice (some ⟨g, 0, none⟩) n cc]) ∧
      Blk w' g (cs ++ t) 61 ∧ w.heap.size ≤ g ∧ Below w.heap.size w w' := by
  obtain ⟨i, hi, hz, h2, h3⟩ := info_parts Try.elRI.info
  have HN := Lib.hid (And.intro hn (And.intro hc h1))
  clear hn hc h1
  go_enter Try.func28, Try.ntmps28
  go_upto_region 2 with (fail)
  refine wp_gen (fun W => Below w.heap.size w W ∧ Blk W w.heap.size [.slice (some ⟨w.heap.size + 1 + 1, 0, none⟩) 0 0, .int .i64 regs, .int .i64 spills, .slice (some ⟨b, off, none⟩) n cap] 25 ∧ Blk W (w.heap.size + 1) [.slice none 0 0, .int .i64 0, .int .i64 0, .slice none 0 0] 25 ∧ w.heap.size + 2 < W.heap.size) ?_ ?_
  · refine ⟨?_, ?_, ?_, ?_⟩
    · exact ((((Below.refl _ _).alloc (by simp) _).alloc (by simp) _).alloc (by simp; omega) _)
    · unfold Blk
      rw [Below.heap_alloc _ _ _ (by simp; omega), Below.heap_alloc _ _ _ (by simp)]
      exact heap_new1 _ _
    · unfold Blk
      rw [Below.heap_alloc _ _ _ (by simp)]
      exact heap_new2 _ _ _
    · simp
  rintro W ⟨hbW, k1, k2, hl⟩
  have a3 : W.cell? ⟨w.heap.size, 3, none⟩ = some (.slice (some ⟨b, off, none⟩) n cap) := k1.cell 3
  have z3 := k1.frozen 3
  have hWl : w.heap.size < W.heap.size := by omega
  have HW := Lib.hid (And.intro hbW (And.intro k1 k2))
  clear hbW k1 k2
  go_wp2_with (at_builtin; refine wpList_append_lies _ rfl _ _ _ rfl W.heap.size 61 i (.agg #[.int .i64 0, .int .i64 0, .int .i64 0, .int .i64 0, .int .u32 0]) 5 40 Try.underlying23 hi hz h2 h3 rfl (by decide) (.slice (some ⟨W.heap.size, 0, none⟩) 0 0) 0 [] rfl ?c1 ⟨b, off, none⟩ n cap cs rfl ?c2 ?c3 HN.out.2.2 h0 ?c4 ?c5 ?c6 _ rfl ?_)
  case c1 =>
    have := World.ownsRow_lit (base := W.heap.size) (e := 61) (size := 5) W #[] 0 (Nat.le_refl _) (by decide) (by simp)
    simpa using this
  case c2 => exact HN.out.1
  case c3 =>
    intro j u hu
    have e : ((⟨b, off, none⟩ : Addr).add j) = ⟨b, off + j, none⟩ := by unfold Addr.add; split <;> simp_all
    have h5 := HN.out.2.1 j u hu
    rw [e, World.cell?_alloc_past _ _ _ (by omega), HW.out.1.cell (p := ⟨b, off + j, none⟩) hb]
    exact h5
  case c4 => unfold maxLen; omega
  case c5 => omega
  case c6 => simp
  intro g cc w' hown hgrow hat hlt
  have hgb : Below W.heap.size W w' := ((Below.refl _ _).alloc (by simp) _).trans (below_grown hgrow (by simp) (fun k hk => by simp [Value.ownBlock] at hk; omega))
  have hgg : W.heap.size ≤ g := by
    rcases hat with hat | hat
    · simp [Value.ownBlock] at hat; omega
    · first | omega | (simp at hat; omega)
  obtain ⟨t, ht⟩ := own_blkN hown
  have b1 := HW.out.2.1.below hgb hWl
  have b2 := HW.out.2.2.below hgb (by omega)
  have e0 : w'.cell? ⟨w.heap.size, 0, none⟩ = some (.slice (some ⟨w.heap.size + 1 + 1, 0, none⟩) 0 0) := b1.cell 0
  have e1 : w'.cell? ⟨w.heap.size, 0 + 1, none⟩ = some (.int .i64 regs) := b1.cell 1
  have e2 : w'.cell? ⟨w.heap.size, 0 + 1 + 1, none⟩ = some (.int .i64 spills) := b1.cell 2
  have e3 : w'.cell? ⟨w.heap.size, 3, none⟩ = some (.slice (some ⟨b, off, none⟩) n cap) := b1.cell 3
  have f3 := b1.frozen 3
  have r0 : w'.cell? ⟨w.heap.size + 1, 0, none⟩ = some (.slice none 0 0) := b2.cell 0
  have r1 : w'.cell? ⟨w.heap.size + 1, 0 + 1, none⟩ = some (.int .i64 0) := b2.cell 1
  have r2 : w'.cell? ⟨w.heap.size + 1, 0 + 1 + 1, none⟩ = some (.int .i64 0) := b2.cell 2
  have r3 : w'.cell? ⟨w.heap.size + 1, 0 + 1 + 1 + 1, none⟩ = some (.slice none 0 0) := b2.cell 3
  have s0 := b2.frozen 0
  have s1 := b2.frozen (0 + 1)
  have s2 := b2.frozen (0 + 1 + 1)
  have s3 := b2.frozen (0 + 1 + 1 + 1)
  have HT := Lib.hid (And.intro ht (And.intro hgb (And.intro b1 b2)))
  clear hown hgrow hat ht hgb b1 b2
  go_wp2
  refine bodyPost_ret (v := .agg #[.slice (some ⟨w.heap.size + 1 + 1, 0, none⟩) 0 0, .int .i64 regs, .int .i64 spills, .slice (some ⟨g, 0, none⟩) n cc]) ?_ rfl ?_
  · have hne : w.heap.size + 1 ≠ w.heap.size := by omega
    have q0 := (((((HT.out.2.2.2.other (a := ⟨w.heap.size, 3, none⟩) hne (.slice (some ⟨g, 0, none⟩) n cc)).set 0 (.slice (some ⟨w.heap.size + 1 + 1, 0, none⟩) 0 0)).set 1 (.int .i64 regs)).set 2 (.int .i64 spills)).set 3 (.slice (some ⟨g, 0, none⟩) n cc))
    have y0 := q0.cell 0
    have y1 := q0.cell 1
    have y2 := q0.cell 2
    have y3 := q0.cell 3
    simp only [List.set_cons_zero, List.set_cons_succ, List.getElem?_cons_zero, List.getElem?_cons_succ] at y0 y1 y2 y3
    simp [results, Try.results28, go_sem, y0, y1, y2, y3]
  · have hx : w.heap.size ≤ w.heap.size + 1 := by omega
    have g1 : g ≠ w.heap.size := by omega
    have g2 : g ≠ w.heap.size + 1 := by omega
    refine ⟨w.heap.size + 1 + 1, g, cc, t, rfl, ?_, by omega, ?_⟩
    · exact (((((HT.out.1.other g1 _).other g2 _).other g2 _).other g2 _).other g2 _)
    · exact ((((((HW.out.1.trans (HT.out.2.1.mono HW.out.1.size)).setCell (Nat.le_refl _) _).setCell hx _).setCell hx _).setCell hx _).setCell hx _)
end Go.Proofs.Ytefdnjhhaejgbaa
