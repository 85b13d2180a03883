/- A part of the proof of MachineFeeds: Rj. No condition. -/
import Derived.Test.YtefdnjhhaejgbaaGf12
import Derived.Test.YtefdnjhhaejgbaaGf18
set_option linter.unusedSimpArgs false
set_option linter.unusedVariables false
namespace Go.Proofs.Ytefdnjhhaejgbaa
open Go.RowKit
set_option linter.unusedVariables false
theorem wpList_copied {ops : Array Oper} {rest : List Oper} {o : Oper} {a : Act} {Q : Exit → Act → World → Prop} {w : World} (hgd : o.guard = none) (s x : Operand)
    (ho : o.op = .call { callee := .builtin .append, args := #[s, x], argTypes := #[29, 29] }) (base g0 b off n cap : Nat) (xs : List Int)
    (hs : a.eval s = .slice (some ⟨g0, 0, none⟩) 0 0) (hg0 : Blk w g0 [] 42) (hb0 : base ≤ g0) (hx : a.eval x = .slice (some ⟨b, off, none⟩) n cap) (hn : xs.length = n) (h0 : 0 < n) (hmax : n ≤ 65536)
    (hc : ∀ j, j < n → w.cell? ⟨b, off + j, none⟩ = some (.int .u32 (xs.getD j 0)))
    (h : ∀ g cc t w', Blk w' g (ints .u32 xs ++ t) 42 → base ≤ g → Below base w w' → (g = g0 ∨ g = w.heap.size) → w.grownBy w' (some g0) → wpList Try.prog ops Q rest (a.put o.dst (.slice (some ⟨g, 0, none⟩) n cc)) w') : wpList Try.prog ops Q (o :: rest) a w := by
  obtain ⟨i, hi, hz, h2, h3⟩ := info_parts Try.elU32.info
  have hl := hg0.lt
  refine wpList_append_lies w hgd s x _ ho base 42 i (.int .u32 0) 1 4 Try.underlying29 hi hz h2 h3 rfl (by decide) (.slice (some ⟨g0, 0, none⟩) 0 0) 0 [] hs ?c1 ⟨b, off, none⟩ n cap (ints .u32 xs) hx ?c2 ?c3 (oneCell_ints _ _) h0 ?c4 ?c5 ?c6 _ rfl ?_
  case c1 => exact ⟨rfl, .inr ⟨g0, 0, #[], rfl, hb0, hg0, Nat.le_refl _, by unfold maxLen; omega, rfl, rfl⟩⟩
  case c2 => simp [ints, hn]
  case c3 =>
    intro j u hu
    have hj : j < xs.length := by
      have := (List.getElem?_eq_some_iff.1 hu).1
      simpa [ints] using this
    rw [ints_get hj] at hu
    have e : ((⟨b, off, none⟩ : Addr).add j) = ⟨b, off + j, none⟩ := by unfold Addr.add; split <;> simp_all
    rw [e, hc j (by omega)]
    exact hu
  case c4 => unfold maxLen; omega
  case c5 => omega
  case c6 => omega
  intro g cc w' hown hgrow hat hlt
  obtain ⟨t, ht⟩ := own_blk hown
  have hgg : g = g0 ∨ g = w.heap.size := by
    rcases hat with hat | hat
    · simp [Value.ownBlock] at hat; exact .inl hat.symm
    · exact .inr hat
  rw [Nat.zero_add]
  exact h g cc t w' ht (by omega) (below_grown hgrow (by omega) (fun k hk => by simp [Value.ownBlock] at hk; omega)) hgg hgrow
def RCopyRel (w : World) (arr : List (List Int)) (ctx : List Int) (bx : List Value) (b2 b3 cb cc : Nat) (i : Value) (wr : World) : Prop :=
  ∃ k τ ab ac v, i = .int .i64 (k : Nat) ∧ CopyAt w arr ctx b2 b3 cb cc k τ ab ac v wr ∧ Blk wr w.heap.size bx 31 ∧ τ w.heap.size = 2002
set_option maxRecDepth 100000 in
set_option maxHeartbeats 1000000 in
theorem rcopy_any (qa ca : Option Addr) (cq cc0 : Nat) (arr : List (List Int)) (ctx : List Int) (w : World) (hg : GridAt w qa arr) (hctx : NumsAt w ca ctx)
    (hn : arr.length ≤ 8) (h1 : ∀ a ∈ arr, 0 < a.length ∧ a.length ≤ 65536) (hc : 0 < ctx.length ∧ ctx.length ≤ 16) :
    Calls Try.prog 55 #[.agg #[.slice qa arr.length cq, .slice ca ctx.length cc0]] w (CopyPost w arr ctx) := by
  obtain ⟨b, off, rfl, hcc⟩ := hctx
  have hbl := NumsAt.lt hcc hc.1
  have HC := Lib.hid hcc
  have HG := Lib.hid hg
  clear hcc hg
  go_enter Try.func55, Try.ntmps55
  go_wp2_with (at_builtin; refine wpList_copied rfl _ _ rfl (w.heap.size + 1 + 1) (w.heap.size + 1 + 1) b off ctx.length cc0 ctx rfl ?d1 (Nat.le_refl _) rfl rfl hc.1 (by omega) ?d2 ?_)
  case d1 =>
    have := heap_new1 ((w.alloc (.cells #[.slice qa arr.length cq, .slice (some ⟨b, off, none⟩) ctx.length cc0] 31)).alloc (.cells #[.slice none 0 0, .slice none 0 0] 31)) (.cells #[] 42)
    unfold Blk
    simpa using this
  case d2 =>
    intro j hj
    have h5 := HC.out j hj
    rw [World.cell?_alloc_past _ _ _ (by simp; omega), World.cell?_alloc_past _ _ _ (by simp; omega), World.cell?_alloc_past _ _ _ (by omega), h5]
  intro g cc t w1 hblk hgg hb10 hg01 hgr01
  have hb1 : Below (w.heap.size + 1 + 1) ((w.alloc (.cells #[.slice qa arr.length cq, .slice (some ⟨b, off, none⟩) ctx.length cc0] 31)).alloc (.cells #[.slice none 0 0, .slice none 0 0] 31)) w1 := ((Below.refl _ _).alloc (by simp) _).trans hb10
  clear hb10 hgr01
  have hs1 : w.heap.size + 2 ≤ w1.heap.size := by have := hb1.size; simp at this; omega
  have hsz : w.heap.size < w1.heap.size := by omega
  have c0 : w1.cell? ⟨w.heap.size, 0, none⟩ = some (.slice qa arr.length cq) := by rw [hb1.cell (p := ⟨w.heap.size, 0, none⟩) (by show w.heap.size < _; omega)]; simp [go_sem]
  have hres : Blk w1 (w.heap.size + 1) [.slice none 0 0, .slice none 0 0] 31 := by
    unfold Blk
    rw [hb1.block _ (by omega)]
    exact heap_new2 w _ _
  have hbox : Blk w1 w.heap.size [.slice qa arr.length cq, .slice (some ⟨b, off, none⟩) ctx.length cc0] 31 := by
    unfold Blk
    rw [hb1.block _ (by omega), Below.heap_alloc _ _ _ (by simp)]
    exact heap_new1 w _
  have hbw : Below w.heap.size w w1 := (((Below.refl _ _).alloc (by simp) _).alloc (by simp) _).trans (hb1.mono (by omega))
  have hgl : g < w1.heap.size := hblk.lt
  have hg2 : w.heap.size + 2 ≤ g := by simpa using hgg
  have HA := Lib.hid (And.intro hblk (And.intro hres hbox))
  clear hgg hb1 hblk hres hbox
  have start : ∀ wr, wr = w1.alloc (.cells #[.slice none 0 0, .slice (some ⟨g, 0, none⟩) ctx.length cc] 31) → RCopyRel w arr ctx [.slice qa arr.length cq, .slice (some ⟨b, off, none⟩) ctx.length cc0] (w.heap.size + 1) w1.heap.size g cc (.int .i64 0) wr := by
    rintro wr rfl
    obtain ⟨hblk, hres, hbox⟩ := HA.out
    have hba : Below w1.heap.size w1 (w1.alloc (.cells #[.slice none 0 0, .slice (some ⟨g, 0, none⟩) ctx.length cc] 31)) := (Below.refl _ _).alloc (Nat.le_refl _) _
    refine ⟨0, fun x => if x = g then 3 else if x = w.heap.size + 1 then 2000 else if x = w.heap.size then 2002 else 2001, fun _ => 0, fun _ => 0, .slice none 0 0, rfl, ⟨by omega, ⟨?_, fun k hk => by simp at hk, fun k hk => by simp at hk, fun g hg => by simp [Value.ownBlock] at hg, fun k hk => by simp at hk⟩, heap_new1 _ _, hres.below hba hres.lt, ⟨t, hblk.below hba hgl⟩, by simp, ?_, ?_, by omega, by omega, by omega, hbw.trans (hba.mono (by omega))⟩, hbox.below hba hsz, ?_⟩
    · exact World.ownsRow_nil _ _ _ _
    · rw [if_neg (by omega)]; simp
    · rw [if_neg (by omega), if_neg (by omega), if_neg (by omega)]
    · show (if _ then _ else _) = _
      rw [if_neg (by omega), if_neg (by omega), if_pos rfl]
  have HST := Lib.hid start
  clear start
  go_wp2_with fail
  go_loopw [4] (fun i wr => RCopyRel w arr ctx [.slice qa arr.length cq, .slice (some ⟨b, off, none⟩) ctx.length cc0] (w.heap.size + 1) w1.heap.size g cc i wr) (fun i _ => arr.length - (intOf i).toNat)
  case atStart => exact HST.out _ rfl
  case round =>
    obtain ⟨k, τ, ab, ac, v, rfl, CA, bxb, bxt⟩ := hrel
    have x0 : wr.cell? ⟨w.heap.size, 0, none⟩ = some (.slice qa arr.length cq) := bxb.cell 0
    have lx0 : w.heap.size < wr.heap.size := bxb.lt
    by_cases hk : k < arr.length
    · obtain ⟨q, qo, a, cap, rfl, hq, b4, o4, rfl, hn4⟩ := (HG.out.below CA.bel) k hk
      have hx := h1 (arr.getD k []) (by rw [List.getD_eq_getElem?_getD, List.getElem?_eq_getElem hk]; exact List.getElem_mem hk)
      have hk' := nat_cast_lt hk
      have c3 : wr.cell? ⟨w1.heap.size, 0, none⟩ = some v := CA.out.cell 0
      have z3 := CA.out.frozen 0
      have hol := CA.out.lt
      obtain ⟨va, vc, rfl⟩ : ∃ va vc, v = .slice va k vc := by
        have hl : (arr.take k).length = k := by simp; omega
        have hown := CA.grid.own
        rw [hl] at hown
        rcases hown.2 with ⟨h1, h2⟩ | ⟨g, cc, cur, h1, _⟩
        · exact ⟨none, 0, by rw [h1, h2]⟩
        · exact ⟨_, cc, h1⟩
      generalize hX : arr.getD k [] = X at *
      have HX := Lib.hid hX
      have HN4 := Lib.hid hn4
      clear hX hn4
      have hql : q < wr.heap.size := World.block_lt_of_cell? wr _ hq
      have hb4l : b4 < wr.heap.size := World.block_lt_of_cell? wr _ (HN4.out 0 hx.1)
      go_wp2_with fail
      refine wp_region_grew [1, 4, 7] [0, 3, 5, 6] [(2, 0), (2, 3), (2, 5), (1, 1), (1, 4), (2, 6), (1, 7), (0, 2), (0, 8), (0, 9), (0, 10), (0, 11), (0, 12)] (by kernel_rfl) (by kernel_rfl) (fun c a d v w h => by cases d <;> exact h) ?_
      simp only [getPlan, List.filterMap_cons, List.filterMap_nil, List.getElem?_toArray, List.getElem?_cons_succ, List.getElem?_cons_zero, Option.map_some]
      repeat ((first | refine wpPlan_pure (fun K hK => ?_) | refine wpPlan_float (fun K hK => ?_)); go_simp; refine hK _ ?_; clear hK K)
      refine wpPlan_keep ?_
      go_wp2_with fail
      have hbe : Below wr.heap.size wr (wr.drew.alloc (.cells #[] 42)) := (Below.refl _ _).drew.alloc (Nat.le_refl _) _
      refine ⟨grew_below hbe, ?_⟩
      refine wpPlan_keep ?_
      refine wpList_copied rfl _ _ rfl wr.heap.size wr.heap.size b4 o4 X.length cap X rfl ?_ (Nat.le_refl _) rfl rfl hx.1 hx.2 ?_ ?_
      · exact heap_new1 wr.drew _
      · intro j hj
        exact (hbe.cell (p := ⟨b4, o4 + j, none⟩) hb4l).trans (HN4.out j hj)
      intro gx cx t4 w4 hblk4 hgx4 hb40 hg40 hgr40
      have hb5 : Below wr.heap.size wr w4 := hbe.trans hb40
      refine ⟨grew_below hb5, ?_⟩
      have hs4 := hb5.size
      clear hb40 hg40 hgr40 hbe
      refine wpPlan_keep ?_
      go_wp2_with fail
      have hl : (arr.take k).length = k := by simp; omega
      have hown4 : w4.ownsRow w.heap.size 29 1 (.slice va k vc) k ((List.range k).map fun j => .slice (some ⟨ab j, 0, none⟩) ((arr.take k).getD j []).length (ac j)) := by
        have h9 := CA.grid.own.kept (grownBy_of_below hb5 none) (by cases hv : (Value.slice va (arr.take k).length vc).ownBlock <;> simp_all)
        rw [hl] at h9
        exact h9
      refine ⟨grew_below (hb5.trans ((Below.refl _ _).alloc hs4 _)), ?_⟩
      refine wpPlan_sees (by kernel_rfl) ?_
      refine wpList_app1 Try.elSl rfl _ _ rfl w.heap.size (.slice va k vc) k _ rfl (hown4.alloc _) w4.heap.size [.slice (some ⟨gx, 0, none⟩) X.length cx] (0, 0) rfl (heap_new1 _ _) rfl ?_ ?_ ?_ ?_
      · simp [Value.oneCell']
      · omega
      · have := CA.bel.size; simp; omega
      intro g6 c6 w6 hown6 hg6 hat6 hlt6
      have hg5 : w4.grownBy w6 (Value.slice va k vc).ownBlock := grownBy_trans (World.grownBy_alloc _ _ _) hg6
      have hat5 : (Value.slice va k vc).ownBlock = some g6 ∨ w4.heap.size ≤ g6 := by
        rcases hat6 with h | h
        · exact .inl h
        · right; rw [h]; simp
      have hB := CA.bel.size
      have vto : ∀ x, (Value.slice va k vc).ownBlock = some x → τ x = 4 := CA.grid.to
      have vlt : ∀ x, (Value.slice va k vc).ownBlock = some x → x < wr.heap.size := fun x hx => (CA.grid.own.lt x hx).2
      have P := CA.grid.push X hB hb5 hblk4 (by simpa using hgx4) (by rw [hl]; exact hown6) hg5 hat5
      rw [hl] at P
      have HP := Lib.hid P
      have fr : ∀ y t, y < wr.heap.size → τ y = t → t ≠ 4 → y ≠ gx ∧ y ≠ g6 ∧ w6.heap[y]? = wr.heap[y]? := by
        intro y t hy ht hne
        have hne2 : some y ≠ (Value.slice va k vc).ownBlock := fun e => hne (by rw [← ht]; exact vto y e.symm)
        have hgx5 : wr.heap.size ≤ gx := by simpa using hgx4
        refine ⟨by omega, fun e => ?_, ?_⟩
        · rcases hat5 with h | h
          · exact hne2 (by rw [h, e])
          · omega
        · rw [hg5.block y (by omega) hne2, hb5.block y hy]
      have f3 := fr w1.heap.size 2001 hol CA.t3 (by omega)
      have c6' : w6.cell? ⟨w1.heap.size, 0, none⟩ = some (.slice va k vc) := by rw [World.cell?_of_block f3.2.2]; exact c3
      have z6 : w6.frozen? ⟨w1.heap.size, 0, none⟩ = false := by rw [World.frozen?_of_block f3.2.2]; exact z3
      have f2 := fr (w.heap.size + 1) 2000 CA.res.lt CA.t2 (by omega)
      have fx := fr w.heap.size 2002 lx0 bxt (by omega)
      have fc := fr g 3 (by obtain ⟨t, ht⟩ := CA.ctx; exact ht.lt) CA.tc (by omega)
      have rel : RCopyRel w arr ctx [.slice (some ⟨q, qo, none⟩) arr.length cq, .slice (some ⟨b, off, none⟩) ctx.length cc0] (w.heap.size + 1) w1.heap.size g cc (.int .i64 ((k : Int) + 1)) (w6.setCell ⟨w1.heap.size, 0, none⟩ (.slice (some ⟨g6, 0, none⟩) (k + 1) c6)) := by
        have htk : arr.take (k + 1) = arr.take k ++ [X] := by
          rw [← HX.out, List.take_succ_eq_append_getElem hk, List.getD_eq_getElem?_getD, List.getElem?_eq_getElem hk]; rfl
        have hP2 := P.foreign (by simp; omega) (y := w1.heap.size) (by simp [f3.1, f3.2.1, CA.t3]) 0 (.slice (some ⟨g6, 0, none⟩) (k + 1) c6)
        have hne : ∀ y, y ≠ w1.heap.size → (w6.setCell ⟨w1.heap.size, 0, none⟩ (.slice (some ⟨g6, 0, none⟩) (k + 1) c6)).heap[y]? = w6.heap[y]? := fun y hy => Below.heap_setCell _ _ _ _ hy
        refine ⟨k + 1, _, _, _, _, by simp, ⟨by omega, by rw [htk]; exact hP2, ?_, ?_, ?_, by simp [fc.1, fc.2.1, CA.tc], by simp [f2.1, f2.2.1, CA.t2], by simp [f3.1, f3.2.1, CA.t3], CA.bc, CA.b2, CA.b3, ?_⟩, ?_, ?_⟩
        · have o6 : Blk w6 w1.heap.size [.slice va k vc, .slice (some ⟨g, 0, none⟩) ctx.length cc] 31 := by unfold Blk; rw [f3.2.2]; exact CA.out
          exact o6.set 0 _
        · unfold Blk; rw [hne _ (by omega), f2.2.2]; exact CA.res
        · obtain ⟨t, ht⟩ := CA.ctx
          exact ⟨t, by unfold Blk; rw [hne _ (by omega), fc.2.2]; exact ht⟩
        · exact ((CA.bel.trans (hb5.mono hB)).trans (below_grown hg5 (by omega) (fun x hx => (CA.grid.own.lt x hx).1))).setCell CA.b3 _
        · unfold Blk; rw [hne _ (by omega), fx.2.2]; exact bxb
        · simp [fx.1, fx.2.1, bxt]
      have HREL := Lib.hid rel
      clear fr P hown6 hg6 hat6 hown4 hgx4 f3 f2 fc fx c3 z3 hq rel
      go_wp2
      refine wpPlan_tail (by kernel_rfl) ?_
      simp only [List.map_cons, List.map_nil]
      go_wp2
      go_roundw
      case rel => exact HREL.out
      case measure => simp [intOf]; omega
    · have hkk : k = arr.length := by have := CA.le; omega
      subst hkk
      obtain ⟨va, vc, rfl⟩ : ∃ va vc, v = .slice va arr.length vc := by
        have hown := CA.grid.own
        rw [List.take_length] at hown
        rcases hown.2 with ⟨h1, h2⟩ | ⟨g, cc, cur, h1, _⟩
        · exact ⟨none, 0, by rw [h1, h2]⟩
        · exact ⟨_, cc, h1⟩
      have c0 : wr.cell? ⟨w1.heap.size, 0, none⟩ = some (.slice va arr.length vc) := CA.out.cell 0
      have c1 : wr.cell? ⟨w1.heap.size, 0 + 1, none⟩ = some (.slice (some ⟨g, 0, none⟩) ctx.length cc) := CA.out.cell 1
      have y0 : wr.cell? ⟨w.heap.size + 1, 0, none⟩ = some (.slice none 0 0) := CA.res.cell 0
      have y1 : wr.cell? ⟨w.heap.size + 1, 0 + 1, none⟩ = some (.slice none 0 0) := CA.res.cell 1
      have z0 := CA.res.frozen 0
      have z1 := CA.res.frozen (0 + 1)
      go_wp2
      refine bodyPost_ret (v := .agg #[.slice va arr.length vc, .slice (some ⟨g, 0, none⟩) ctx.length cc]) ?_ rfl ?_
      · have e0 := (CA.res.set 0 (.slice va arr.length vc)).set 1 (.slice (some ⟨g, 0, none⟩) ctx.length cc)
        have x0 := e0.cell 0
        have x1 := e0.cell 1
        simp only [List.set_cons_zero, List.set_cons_succ, List.getElem?_cons_zero, List.getElem?_cons_succ] at x0 x1
        simp [results, Try.results55, go_sem, x0, x1]
      · have hgr := CA.grid
        rw [List.take_length] at hgr
        have g1 := (hgr.foreign (by omega) (y := w.heap.size + 1) (by rw [CA.t2]; omega) 0 (.slice va arr.length vc)).foreign (by omega) (y := w.heap.size + 1) (by rw [CA.t2]; omega) 1 (.slice (some ⟨g, 0, none⟩) ctx.length cc)
        obtain ⟨t9, ht9⟩ := CA.ctx
        have hgn : g ≠ w.heap.size + 1 := by omega
        exact ⟨_, τ, ab, ac, g, cc, rfl, g1, ⟨t9, (ht9.other hgn _).other hgn _⟩, CA.tc, CA.bc, (CA.bel.setCell CA.b2 _).setCell CA.b2 _⟩
end Go.Proofs.Ytefdnjhhaejgbaa
