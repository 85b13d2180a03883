/- A part of the proof of MachineFeeds: Rn. No condition. -/
import Derived.Test.YtefdnjhhaejgbaaGf28
import Derived.Test.YtefdnjhhaejgbaaGf29
import Derived.Test.YtefdnjhhaejgbaaGf13
import Derived.Test.YtefdnjhhaejgbaaGf25
set_option linter.unusedSimpArgs false
set_option linter.unusedVariables false
namespace Go.Proofs.Ytefdnjhhaejgbaa
open Go.RowKit
set_option linter.unusedVariables false
theorem Parts.rrep {B B0 : Nat} (hBB : B0 ≤ B) {c : MC} {rp : List Int} {arr : List (List Int)} {ctx : List Int} {rb sb cb cc : Nat} {va : Option Addr} {vc : Nat} {w : World} (h : Parts B c arr ctx rb sb cb cc va vc w)
    {arsA codeA ptA : Option Addr} {arsC codeC ptC : Nat} (h1 : RowB B0 w 5 codeA c.cd.length fun i j => (c.cd.getD i default).cell j) (h2 : RowB B0 w 1 ptA c.cd.length fun i _ => .int .i64 (rp.getD i 0))
    (h3 : RowB B0 w 2 arsA c.ars.length fun i j => (c.ars.getD i default).cell j) :
    ∃ L τ w', w' = w.alloc (.cells (rcells L c (c.init arr ctx) 0 (.slice none 0 0)).toArray 106) ∧ L.mb = w.heap.size ∧ L.rb = rb ∧ L.sb = sb ∧ L.cb = cb ∧ L.ccap = cc ∧ L.arsA = arsA ∧ L.arsC = arsC ∧ L.codeA = codeA ∧ L.codeC = codeC ∧ L.ptA = ptA ∧ L.ptC = ptC ∧
      L.arrA = va ∧ L.arrC = vc ∧ (∀ x, x < B → τ x = 1000) ∧ RRep B0 L c rp (c.init arr ctx) 0 τ (.slice none 0 0) w' := by
  obtain ⟨lo, hi, τ, ab, ac, hlo, hg, tcb, cb1, cb2, hab, hown, hhi, hrb, hsb⟩ := h.grid
  obtain ⟨tc, hctx⟩ := h.ctx
  have hne := h.ne
  have rl := h.reg.lt
  have sl := h.spl.lt
  refine ⟨⟨w.heap.size, rb, sb, cb, ab, ac, cc, arsA, arsC, codeA, codeC, ptA, ptC, va, vc⟩, fun x => if x = w.heap.size then 0 else if x = rb then 1 else if x = sb then 2 else if lo ≤ x ∧ x < hi then τ x else 1000, _, rfl, rfl, rfl, rfl, rfl, rfl, rfl, rfl, rfl, rfl, rfl, rfl, rfl, rfl, ?_, ?_⟩
  · intro x hx
    have h5 := h.br
    have h6 := h.bs
    have h7 := h.bB
    show (if x = w.heap.size then 0 else if x = rb then 1 else if x = sb then 2 else if lo ≤ x ∧ x < hi then τ x else 1000) = _
    rw [if_neg (by omega), if_neg (by omega), if_neg (by omega), if_neg (by omega)]
  have hb : Below w.heap.size w (w.alloc (.cells (rcells ⟨w.heap.size, rb, sb, cb, ab, ac, cc, arsA, arsC, codeA, codeC, ptA, ptC, va, vc⟩ c (c.init arr ctx) 0 (.slice none 0 0)).toArray 106)) := (Below.refl _ _).alloc (Nat.le_refl _) _
  have hbB := hb.mono (Nat.le_trans hBB h.bB)
  have old : ∀ x, lo ≤ x → x < hi → x ≠ w.heap.size ∧ x ≠ rb ∧ x ≠ sb := fun x h4 h5 => ⟨by omega, by rcases hrb with h | h <;> omega, by rcases hsb with h | h <;> omega⟩
  exact {
    ro := ⟨h1.below hbB, h2.below hbB, h3.below hbB⟩
    hB := by have := h.bB; simp; omega
    mac := heap_new1 _ _
    reg := h.reg.below hb rl
    spl := h.spl.below hb sl
    ctx := ⟨tc, hctx.below hb hctx.lt⟩
    arr := fun k hk => by
      obtain ⟨t, ht⟩ := hg.blk k hk
      exact ⟨t, ht.below hb ht.lt⟩
    outer := fun k hk => by
      obtain ⟨g, hva, hgo, hc, hgl⟩ := own_cells hg.own (by simp) hk
      have hr := old g (hg.own.lt g hgo).1 (hown g hgo)
      refine ⟨g, 0, hva, ?_, Nat.lt_of_lt_of_le hgl hb.size, ?_⟩
      · show (if _ then _ else if _ then _ else if _ then _ else if _ then _ else _) = _
        rw [if_neg hr.1, if_neg hr.2.1, if_neg hr.2.2, if_pos ⟨(hg.own.lt g hgo).1, hown g hgo⟩]; exact hg.to g hgo
      · rw [hb.cell (p := ⟨g, 0 + k, none⟩) hgl, hc]
        have hk' : k < arr.length := hk
        simp [hk', MC.init]
    oown := World.ownsRow_nil _ _ _ _
    tm := if_pos rfl
    tr := by show (if rb = w.heap.size then 0 else if rb = rb then 1 else if rb = sb then 2 else if lo ≤ rb ∧ rb < hi then τ rb else 1000) = _; rw [if_neg (by omega), if_pos rfl]
    ts := by show (if sb = w.heap.size then 0 else if sb = rb then 1 else if sb = sb then 2 else if lo ≤ sb ∧ sb < hi then τ sb else 1000) = _; rw [if_neg (by omega), if_neg (Ne.symm hne), if_pos rfl]
    tc := by have hr := old cb cb1 cb2; show (if _ then _ else if _ then _ else if _ then _ else if _ then _ else _) = _; rw [if_neg hr.1, if_neg hr.2.1, if_neg hr.2.2, if_pos ⟨cb1, cb2⟩]; exact tcb
    ta := fun k hk => by have hr := old (ab k) (hg.ba k hk) (hab k hk); show (if _ then _ else if _ then _ else if _ then _ else if _ then _ else _) = _; rw [if_neg hr.1, if_neg hr.2.1, if_neg hr.2.2, if_pos ⟨hg.ba k hk, hab k hk⟩]; exact hg.ta k hk
    to := fun g hg => by simp [Value.ownBlock] at hg
    bm := Nat.le_trans hBB h.bB
    br := Nat.le_trans hBB h.br
    bs := Nat.le_trans hBB h.bs
    bc := by show B0 ≤ cb; omega
    ba := fun k hk => by have := hg.ba k hk; show B0 ≤ ab k; omega }
theorem RRep.val_other {B : Nat} {L : Lay} {c : MC} {rp : List Int} {er : Int} {s : PS} {τ : Nat → Nat} {ov : Value} {w w2 : World} (h : RRep B L c rp s er τ ov w) {B1 : Nat} (ht : ∀ x, x < B1 → 1000 ≤ τ x) (hn : s.arr.length ≤ 900) (hw : ∀ k, B1 ≤ k → w2.heap[k]? = w.heap[k]?) (hs : w2.heap.size = w.heap.size) :
    RunVal w2 s (.agg #[.slice L.arrA s.arr.length L.arrC, .slice (some ⟨L.cb, 0, none⟩) s.ctx.length L.ccap, ov, .int .i64 s.steps]) := by
  have same : ∀ x t, τ x = t → t < 1000 → w2.heap[x]? = w.heap[x]? := fun x t hx h1 => hw x (by
    by_cases hlt : x < B1
    · have := ht x hlt; omega
    · omega)
  obtain ⟨oa, oc, rfl⟩ : ∃ oa oc, ov = .slice oa s.out.length oc := by
    rcases h.oown.2 with ⟨h1, h2⟩ | ⟨g, cc, cur, h1, _⟩
    · exact ⟨none, 0, by rw [h1, h2]⟩
    · exact ⟨_, cc, h1⟩
  refine ⟨_, _, _, _, oa, oc, rfl, ?_, ?_, ?_⟩
  · intro k hk
    obtain ⟨q, qo, h1, h2, h3, h4⟩ := h.outer k hk
    refine ⟨q, qo, _, _, h1, by rw [World.cell?_of_block (same q 4 h2 (by omega))]; exact h4, L.ab k, 0, rfl, fun j hj => ?_⟩
    obtain ⟨t, ht⟩ := h.arr k hk
    rw [Nat.zero_add, World.cell?_of_block (same _ _ (h.ta k hk) (by omega)), ht.cell, ints_get_app hj]
  · refine ⟨L.cb, 0, rfl, fun j hj => ?_⟩
    obtain ⟨t, ht⟩ := h.ctx
    rw [Nat.zero_add, World.cell?_of_block (same _ _ h.tc (by omega)), ht.cell, ints_get_app hj]
  · intro j hj
    obtain ⟨g, h1, h2, h3, h4⟩ := own_cells h.oown (by simp [ints]) hj
    refine ⟨g, 0, h1, by rw [hs]; exact h4, fun i hi => ?_⟩
    have : i = 0 := by omega
    subst this
    simp only [Nat.mul_one, Nat.add_zero]
    rw [World.cell?_of_block (same g 6 (h.to g h2) (by omega)), h3]
    simp [ints, List.getD_eq_getElem?_getD, hj]
def RLeafPost (B : Nat) (z : World) (o : Out) (e : Ending) (w' : World) : Prop :=
  Below B z w' ∧ z.heap.size < w'.heap.size ∧ match o with
  | .ok s => e = .returned (.bool false) ∧ ∃ qa cq ca cc oa oc, w'.cell? ⟨z.heap.size, 5, none⟩ = some (.slice qa s.arr.length cq) ∧ w'.cell? ⟨z.heap.size, 5 + 1, none⟩ = some (.slice ca s.ctx.length cc) ∧
      w'.cell? ⟨z.heap.size, 12, none⟩ = some (.slice oa s.out.length oc) ∧ w'.cell? ⟨z.heap.size, 13, none⟩ = some (.int .i64 s.steps) ∧ w'.cell? ⟨z.heap.size, 14, none⟩ = some (.int .i64 0) ∧
      ∀ w2 : World, (∀ k, B ≤ k → w2.heap[k]? = w'.heap[k]?) → w2.heap.size = w'.heap.size → RunVal w2 s (.agg #[.slice qa s.arr.length cq, .slice ca s.ctx.length cc, .slice oa s.out.length oc, .int .i64 s.steps])
  | .left _ => False
  | .err n => e = .returned (.bool false) ∧ n ≠ 0 ∧ w'.cell? ⟨z.heap.size, 14, none⟩ = some (.int .i64 n)
theorem rexec_leaf {c : MC} {t : T} (R : RCode c t) {arr : List (List Int)} {ctx : List Int} (F : Fine c (c.init arr ctx)) {B : Nat} {rb sb cb cc : Nat} {va : Option Addr} {vc : Nat} {w : World} (h : Parts B c arr ctx rb sb cb cc va vc w)
    {arsA codeA ptA : Option Addr} {arsC codeC ptC : Nat} (h1 : RowB B w 5 codeA c.cd.length fun i j => (c.cd.getD i default).cell j) (h2 : RowB B w 1 ptA c.cd.length fun i _ => .int .i64 ((t.rq 0 0).getD i 0))
    (h3 : RowB B w 2 arsA c.ars.length fun i j => (c.ars.getD i default).cell j) :
    Calls Try.prog 56 #[.pointer (some ⟨w.heap.size, 0, none⟩), .int .i64 0, .int .i64 (c.cd.length : Int)]
      (w.alloc (.cells #[.slice arsA c.ars.length arsC, .int .i64 c.regs, .int .i64 c.spills, .slice codeA c.cd.length codeC, .slice ptA c.cd.length ptC, .slice va arr.length vc,
   .slice (some ⟨cb, 0, none⟩) ctx.length cc, .int .u32 c.input, .bool c.ended, .int .i64 c.fuel, .slice (some ⟨rb, 0, none⟩) c.regs c.regs, .slice (some ⟨sb, 0, none⟩) c.spills c.spills,
   .slice none 0 0, .int .i64 0, .int .i64 0] 106)) (RLeafPost B w (t.run c (c.init arr ctx))) := by
  obtain ⟨L, τ, w', hw', e1, e2, e3, e4, e5, e6, e7, e8, e9, e10, e11, e12, e13, htau, RR⟩ := h.rrep (Nat.le_refl B) (arsC := arsC) (codeC := codeC) (ptC := ptC) h1 h2 h3
  have hlit : w' = (w.alloc (.cells #[.slice arsA c.ars.length arsC, .int .i64 c.regs, .int .i64 c.spills, .slice codeA c.cd.length codeC, .slice ptA c.cd.length ptC, .slice va arr.length vc,
   .slice (some ⟨cb, 0, none⟩) ctx.length cc, .int .u32 c.input, .bool c.ended, .int .i64 c.fuel, .slice (some ⟨rb, 0, none⟩) c.regs c.regs, .slice (some ⟨sb, 0, none⟩) c.spills c.spills,
   .slice none 0 0, .int .i64 0, .int .i64 0] 106)) := by
    rw [hw']; simp [rcells, MC.init, e2, e3, e4, e5, e6, e7, e8, e9, e10, e11, e12, e13]
  rw [← hlit]
  have hbz : Below w.heap.size w w' := by rw [hw']; exact (Below.refl _ _).alloc (Nat.le_refl _) _
  have hB := h.bB
  have hlen : t.size = c.cd.length := by rw [R.flat, t.flat_length]
  have hBd : BdAt c.cd c.pt 0 0 t := ⟨fun j hj => by rw [R.flat, Nat.zero_add], fun p _ _ => by rw [R.pt]; simp [ptFn]⟩
  have hag : AgreeL c.cd (t.rq 0 0) c.pt := by rw [R.flat, R.pt]; exact rq_agree t false 8 0 0 0 R.wf
  have hex := execute_at B L c (t.rq 0 0) R.ins R.arg hag (t.size + 1) t 0 0 false 8 (by omega) (by omega) hBd R.wf (c.init arr ctx) τ (.slice none 0 0) w' RR F
  rw [Nat.zero_add, hlen, e1] at hex
  refine hex.mono ?_
  rintro e w'' ⟨lf, rfl, ho⟩
  have hstay := T.run_stays c t 8 (c.init arr ctx)
  unfold OutPost at ho
  obtain ⟨o, hoo⟩ : ∃ o, t.run c (c.init arr ctx) = o := ⟨_, rfl⟩
  rw [hoo] at ho hstay ⊢
  cases o with
  | ok s =>
    obtain ⟨rfl, F', τ', ov', R', K⟩ := ho
    obtain ⟨oa, oc, rfl⟩ : ∃ oa oc, ov' = .slice oa s.out.length oc := by
      rcases R'.oown.2 with ⟨h1, h2⟩ | ⟨g, cc, cur, h1, _⟩
      · exact ⟨none, 0, by rw [h1, h2]⟩
      · exact ⟨_, cc, h1⟩
    have hm := R'.mac
    rw [e1] at hm
    refine ⟨(hbz.mono hB).trans K.1, hm.lt, rfl, L.arrA, L.arrC, some ⟨L.cb, 0, none⟩, L.ccap, oa, oc, hm.cell 5, hm.cell 6, hm.cell 12, hm.cell 13, hm.cell 14, fun w2 h5 h6 => ?_⟩
    have ht : ∀ x, x < B → 1000 ≤ τ' x := fun x hx => by rw [(K.2 x (by have := hbz.size; omega) (by rw [htau x hx]; omega)).1, htau x hx]; omega
    exact R'.val_other ht (by have := F'.arr; have := F'.amax; omega) h5 h6
  | left s => exact absurd rfl (hstay s R.wf)
  | err n =>
    obtain ⟨rfl, hn, s, τ', ov', R', K⟩ := ho
    have hm := R'.mac
    rw [e1] at hm
    exact ⟨(hbz.mono hB).trans K.1, hm.lt, rfl, hn, hm.cell 14⟩
theorem rend_ok {B : Nat} {w W z V : World} {s : PS} {n : Nat} {qa ca oa : Option Addr} {cq cc oc : Nat} (hB : w.heap.size + 4 ≤ B) (hbW : Below w.heap.size w W) (hsW : B = W.heap.size) (hres : Blk W (w.heap.size + 1 + 1 + 1) zeroRun 49) (hWz : Below W.heap.size W z) (hb : Below B z V)
    (hv : ∀ w2 : World, (∀ k, B ≤ k → w2.heap[k]? = V.heap[k]?) → w2.heap.size = V.heap.size → RunVal w2 s (.agg #[.slice qa s.arr.length cq, .slice ca s.ctx.length cc, .slice oa s.out.length oc, .int .i64 s.steps])) :
    Blk V (w.heap.size + 1 + 1 + 1) zeroRun 49 ∧ ExecPost w (.ok (s.at n [])) (.returned (.tuple #[.agg #[.slice qa s.arr.length cq, .slice ca s.ctx.length cc, .slice oa s.out.length oc, .int .i64 s.steps], .int .i64 0]))
      ((((V.setCell ⟨w.heap.size + 1 + 1 + 1, 0, none⟩ (.slice qa s.arr.length cq)).setCell ⟨w.heap.size + 1 + 1 + 1, 1, none⟩ (.slice ca s.ctx.length cc)).setCell ⟨w.heap.size + 1 + 1 + 1, 2, none⟩ (.slice oa s.out.length oc)).setCell ⟨w.heap.size + 1 + 1 + 1, 3, none⟩ (.int .i64 s.steps)) := by
  subst hsW
  have hx : w.heap.size ≤ w.heap.size + 1 + 1 + 1 := by omega
  have hWV : Below W.heap.size W V := hWz.trans hb
  have hwV : Below w.heap.size w V := hbW.trans (hWV.mono (by omega))
  refine ⟨hres.below hWV (by omega), (((hwV.setCell (p := ⟨w.heap.size + 1 + 1 + 1, 0, none⟩) hx _).setCell (p := ⟨w.heap.size + 1 + 1 + 1, 1, none⟩) hx _).setCell (p := ⟨w.heap.size + 1 + 1 + 1, 2, none⟩) hx _).setCell (p := ⟨w.heap.size + 1 + 1 + 1, 3, none⟩) hx _, _, rfl, fun w2 h5 h6 => ?_⟩
  refine hv w2 (fun k hk => ?_) (by rw [h6]; simp [World.setCell])
  have hne : k ≠ w.heap.size + 1 + 1 + 1 := by omega
  rw [h5 k (by omega), Below.heap_setCell _ _ _ _ hne, Below.heap_setCell _ _ _ _ hne, Below.heap_setCell _ _ _ _ hne, Below.heap_setCell _ _ _ _ hne]
theorem rend_err {B : Nat} {w W z V : World} {er : Int} (hB : w.heap.size + 4 ≤ B) (hbW : Below w.heap.size w W) (hsW : B = W.heap.size) (hres : Blk W (w.heap.size + 1 + 1 + 1) zeroRun 49) (hWz : Below W.heap.size W z) (hb : Below B z V) :
    Blk V (w.heap.size + 1 + 1 + 1) zeroRun 49 ∧ ExecPost w (.error er) (.returned (.tuple #[.agg #[.slice none 0 0, .slice none 0 0, .slice none 0 0, .int .i64 0], .int .i64 er]))
      ((((V.setCell ⟨w.heap.size + 1 + 1 + 1, 0, none⟩ (.slice none 0 0)).setCell ⟨w.heap.size + 1 + 1 + 1, 1, none⟩ (.slice none 0 0)).setCell ⟨w.heap.size + 1 + 1 + 1, 2, none⟩ (.slice none 0 0)).setCell ⟨w.heap.size + 1 + 1 + 1, 3, none⟩ (.int .i64 0)) := by
  subst hsW
  have hx : w.heap.size ≤ w.heap.size + 1 + 1 + 1 := by omega
  have hWV : Below W.heap.size W V := hWz.trans hb
  have hwV : Below w.heap.size w V := hbW.trans (hWV.mono (by omega))
  exact ⟨hres.below hWV (by omega), (((hwV.setCell (p := ⟨w.heap.size + 1 + 1 + 1, 0, none⟩) hx _).setCell (p := ⟨w.heap.size + 1 + 1 + 1, 1, none⟩) hx _).setCell (p := ⟨w.heap.size + 1 + 1 + 1, 2, none⟩) hx _).setCell (p := ⟨w.heap.size + 1 + 1 + 1, 3, none⟩) hx _, rfl⟩
def OneCls (b j : Nat) (v : Value) (x : World) : Prop := x.cell? ⟨b, j, none⟩ = some v
theorem OneCls.set {b j : Nat} {v : Value} {x : World} (h : OneCls b j v x) {o : Nat} (ho : o ≠ b) (i : Nat) (u : Value) : OneCls b j v (x.setCell ⟨o, i, none⟩ u) := by
  unfold OneCls
  rw [World.cell?_of_block (Below.heap_setCell _ _ _ _ (Ne.symm ho))]
  exact h
theorem ExecPost.drewn {w w' : World} {r : Except Int PS} {e : Ending} (h : ExecPost w r e w') : ExecPost w r e w'.drew := by
  obtain ⟨h1, h2⟩ := h
  refine ⟨h1.drew, ?_⟩
  cases r with
  | ok s =>
    obtain ⟨v, he, hv⟩ := h2
    exact ⟨v, he, fun w2 h5 h6 => hv w2 h5 h6⟩
  | error n => exact h2
set_option maxRecDepth 100000 in
set_option maxHeartbeats 8000000 in
theorem rrun_any (c : MC) (t : T) (R : RCode c t) (arr : List (List Int)) (ctx : List Int) (F : Fine c (c.init arr ctx)) (arsA codeA qa ca : Option Addr) (arsC codeC cq cc0 : Nat) (w : World)
    (hcd : RowB w.heap.size w 5 codeA c.cd.length fun i j => (c.cd.getD i default).cell j)
    (hars : RowB w.heap.size w 2 arsA c.ars.length fun i j => (c.ars.getD i default).cell j) (hg : GridAt w qa arr) (hctx : NumsAt w ca ctx)
    (hn : arr.length ≤ 8) (h1 : ∀ a ∈ arr, 0 < a.length ∧ a.length ≤ 65536) (hc : 0 < ctx.length ∧ ctx.length ≤ 16) :
    Calls Try.prog 40 #[.agg #[.slice arsA c.ars.length arsC, .int .i64 c.regs, .int .i64 c.spills, .slice codeA c.cd.length codeC], .agg #[.slice qa arr.length cq, .slice ca ctx.length cc0], .agg #[.int .u32 c.input, .bool c.ended, .int .i64 c.fuel]] w (ExecPost w (outRes c.cd.length (t.run c (c.init arr ctx)))) := by
  have hregs := F.rmax
  have hspl := F.smax
  have hcl := F.clen
  have m1 := run_make_u32 c.regs (by omega)
  have m2 := run_make_u32 c.spills (by omega)
  have HCD := Lib.hid hcd
  have HARS := Lib.hid hars
  have HG := Lib.hid hg
  have HCTX := Lib.hid hctx
  have H1 := Lib.hid h1
  have HRF := Lib.hid (And.intro R F)
  obtain ⟨o, ho⟩ : ∃ o, t.run c (c.init arr ctx) = o := ⟨_, rfl⟩
  rw [ho]
  have HO := Lib.hid ho
  clear hcd hars hg hctx h1 R F ho
  go_enter Try.func40, Try.ntmps40
  go_upto_region 1 with (fail)
  refine wp_gen _ (run_boxes w [.slice arsA c.ars.length arsC, .int .i64 c.regs, .int .i64 c.spills, .slice codeA c.cd.length codeC] [.slice qa arr.length cq, .slice ca ctx.length cc0] [.int .u32 c.input, .bool c.ended, .int .i64 c.fuel]) ?_
  rintro Y ⟨hbY, y1, y2, y3, y4, hsY⟩
  have ya3 : Y.cell? ⟨w.heap.size, 3, none⟩ = some (.slice codeA c.cd.length codeC) := y1.cell 3
  have hyl : w.heap.size < Y.heap.size := by omega
  have HPA := Lib.hid (RPartners_any codeA codeC c.cd Y ((HCD.out.below hbY).mono hbY.size) hcl part_lv)
  have HY := Lib.hid (And.intro hbY (And.intro y1 (And.intro y2 (And.intro y3 (And.intro y4 hsY)))))
  clear hbY y1 y2 y3 y4 hsY
  go_wp2_with fail
  refine HPA.out.mono ?_
  intro e W hpost
  have hgood : Below Y.heap.size Y W ∧ e = .returned (.tuple #[.slice (some ⟨Y.heap.size, 0, none⟩) c.cd.length c.cd.length, .int .i64 0, .int .i64 0]) ∧ Blk W Y.heap.size (ints .i64 (t.rq 0 0)) 3 := by
    have R := HRF.out.1
    rw [R.flat] at hpost ⊢
    exact part_good R.wf hpost
  obtain ⟨hbYW, rfl, hpk⟩ := hgood
  have hsW : Y.heap.size < W.heap.size := hpk.lt
  have hbW : Below w.heap.size w W := HY.out.1.trans (hbYW.mono HY.out.1.size)
  have hY4 : Y.heap.size = w.heap.size + 4 := HY.out.2.2.2.2.2
  have bk1 := HY.out.2.1.below hbYW (by omega)
  have bk2 := HY.out.2.2.1.below hbYW (by omega)
  have bk3 := HY.out.2.2.2.1.below hbYW (by omega)
  have bk4 := HY.out.2.2.2.2.1.below hbYW (by omega)
  have hrowP : RowB W.heap.size W 1 (some ⟨Y.heap.size, 0, none⟩) c.cd.length fun i _ => .int .i64 ((t.rq 0 0).getD i 0) := fun i hi => by
    refine ⟨Y.heap.size, 0, rfl, hpk.lt, fun j hj => ?_⟩
    have hj0 : j = 0 := by omega
    subst hj0
    have := hpk.cell i
    rw [ints_get (by rw [t.rq_length, ← t.flat_length, ← HRF.out.1.flat]; exact hi)] at this
    simpa using this
  have HROW := Lib.hid hrowP
  have hw4 : w.heap.size + 4 < W.heap.size := by omega
  have a0 : W.cell? ⟨w.heap.size, 0, none⟩ = some (.slice arsA c.ars.length arsC) := bk1.cell 0
  have a1 : W.cell? ⟨w.heap.size, 0 + 1, none⟩ = some (.int .i64 c.regs) := bk1.cell 1
  have a2 : W.cell? ⟨w.heap.size, 0 + 1 + 1, none⟩ = some (.int .i64 c.spills) := bk1.cell 2
  have a3 : W.cell? ⟨w.heap.size, 0 + 1 + 1 + 1, none⟩ = some (.slice codeA c.cd.length codeC) := bk1.cell 3
  have b0 : W.cell? ⟨w.heap.size + 1, 0, none⟩ = some (.slice qa arr.length cq) := bk2.cell 0
  have b1 : W.cell? ⟨w.heap.size + 1, 0 + 1, none⟩ = some (.slice ca ctx.length cc0) := bk2.cell 1
  have d0 : W.cell? ⟨w.heap.size + 1 + 1, 0, none⟩ = some (.int .u32 c.input) := bk3.cell 0
  have d1 : W.cell? ⟨w.heap.size + 1 + 1, 0 + 1, none⟩ = some (.bool c.ended) := bk3.cell 1
  have d2 : W.cell? ⟨w.heap.size + 1 + 1, 0 + 1 + 1, none⟩ = some (.int .i64 c.fuel) := bk3.cell 2
  have a1' : W.cell? ⟨w.heap.size, 1, none⟩ = some (.int .i64 c.regs) := bk1.cell 1
  have a2' : W.cell? ⟨w.heap.size, 2, none⟩ = some (.int .i64 c.spills) := bk1.cell 2
  have l0 : w.heap.size < W.heap.size := by omega
  have l1 : w.heap.size + 1 < W.heap.size := by omega
  have l2 : w.heap.size + 1 + 1 < W.heap.size := by omega
  have HW := Lib.hid (And.intro hbW (And.intro bk4 bk1))
  clear hbW bk1 bk2 bk3 bk4 hpk hrowP hpost hbYW ya3 hY4 hsW
  go_wp2_with fail
  refine wp_region_fork [0, 2, 4, 6, 9] [1, 5, 8] [(2, 1), (2, 5), (2, 8), (1, 0), (1, 2), (1, 4), (1, 6), (1, 9)] execT (by kernel_rfl) (by kernel_rfl) (fun c a d v w h => by cases d <;> exact h) ?_
  simp only [getPlan, List.filterMap_cons, List.filterMap_nil, List.getElem?_toArray, List.getElem?_cons_succ, List.getElem?_cons_zero, Option.map_some]
  repeat ((first | refine wpPlan_pure (fun K hK => ?_) | refine wpPlan_float (fun K hK => ?_)); go_simp; refine hK _ ?_; clear hK K)
  clear a0 a1 a2 a3 b0 b1 d0 d1 d2 a1' a2' l0 l1 l2 hyl
  have HWZ := Lib.hid (fun (z : World) (h : Below W.heap.size W z) => HW.out.1.trans (h.mono (by omega)))
  have HLEAF := Lib.hid (fun (rb sb cb cc : Nat) (va : Option Addr) (vc : Nat) (z : World) (hz : Below W.heap.size W z) (PP : Parts W.heap.size c arr ctx rb sb cb cc va vc z) =>
    rexec_leaf HRF.out.1 HRF.out.2 PP (arsC := arsC) (codeC := codeC) (ptC := c.cd.length) (((HCD.out.below (HW.out.1.trans (hz.mono (by omega)))).mono (by omega)) ) (HROW.out.below hz) ((HARS.out.below (HW.out.1.trans (hz.mono (by omega)))).mono (by omega)))
  refine wpPlan_nil ?_
  show wpTree _ _ _ _ _ _ _
  refine wpTree_gen (fun z => Below W.heap.size W z) (Below.refl _ _).drew ?_
  intro z hb_z
  unfold execT
  have s_z := hb_z.size
  refine wpTree_alt rfl ?_ ?_
  · go_wp2_with fail
    refine (rcopy_any qa ca cq cc0 arr ctx _ (HG.out.below (HWZ.out _ hb_z)) (HCTX.out.below (HWZ.out _ hb_z)) hn H1.out hc).mono ?_
    rintro e y1 ⟨v, τ, ab, ac, cb, cc, rfl, hgo, hcx, tcb, hcb, hby⟩
    obtain ⟨va, vc, rfl⟩ := grid_slice hgo
    have FC_y1 := copy_done hgo hcx tcb hcb hb_z.size
    clear hgo hcx tcb hcb
    have hb_y1 : Below W.heap.size W y1 := hb_z.trans (hby.mono hb_z.size)
    go_wp2_with fail
    refine ⟨grew_below hb_y1, ?_⟩
    have s_y1 := hby.size
    have k_y1 : W.heap.size ≤ y1.heap.size := hb_y1.size
    clear hby
    refine wpTree_alt rfl ?_ ?_
    · go_wp2_with fail
      refine ⟨grew_below (hb_y1.alloc hb_y1.size _), ?_⟩
      refine wpTree_gen (fun y => Below y1.heap.size y1 y ∧ Blk y y1.heap.size (ints .u32 (List.replicate c.regs 0)) 42) ⟨(Below.refl _ _).alloc (Nat.le_refl _) _, heap_new1 _ _⟩ ?_
      rintro y2 ⟨hby, Fr_y2⟩
      have hb_y2 : Below W.heap.size W y2 := hb_y1.trans (hby.mono hb_y1.size)
      have t_y2 := Fr_y2.lt
      have FC_y2 := FC_y1.below hby
      have s_y2 := hby.size
      have k_y2 : W.heap.size ≤ y2.heap.size := hb_y2.size
      clear hby
      refine wpTree_alt rfl ?_ ?_
      · go_wp2_with fail
        refine ⟨grew_below (hb_y2.alloc hb_y2.size _), ?_⟩
        refine wpTree_gen (fun y => Below y2.heap.size y2 y ∧ Blk y y2.heap.size (ints .u32 (List.replicate c.spills 0)) 42) ⟨(Below.refl _ _).alloc (Nat.le_refl _) _, heap_new1 _ _⟩ ?_
        rintro y3 ⟨hby, Fs_y3⟩
        have hb_y3 : Below W.heap.size W y3 := hb_y2.trans (hby.mono hb_y2.size)
        have t_y3 := Fs_y3.lt
        have FC_y3 := FC_y2.below hby
        have Fr_y3 := Fr_y2.below hby Fr_y2.lt
        have s_y3 := hby.size
        have k_y3 : W.heap.size ≤ y3.heap.size := hb_y3.size
        clear hby
        have l_r := Fr_y3.lt
        have l_s := Fs_y3.lt
        have l_c := FC_y3.hz
        have PP : Parts W.heap.size c arr ctx y1.heap.size y2.heap.size cb cc va vc y3 := FC_y3.parts Fr_y3 Fs_y3 (by omega) (by omega) (by omega) (by omega) (by omega) hb_y3.size
        have HLF := Lib.hid (HLEAF.out _ _ _ _ _ _ y3 hb_y3 PP)
        have HZB := Lib.hid hb_y3
        have hzl := k_y3
        clear PP l_r l_s l_c
        refine wpTree_alt rfl ?_ trivial
        go_wp2_with fail
        refine ⟨grew_below (by first | exact HZB.out | exact HZB.out.alloc HZB.out.size _), ?_⟩
        refine wpTree_alt rfl ?_ trivial
        go_wp2_with fail
        refine ⟨grew_below (by first | exact HZB.out | exact HZB.out.alloc HZB.out.size _), ?_⟩
        refine wpTree_alt rfl ?_ trivial
        go_wp2_with fail
        refine ⟨grew_below (by first | exact HZB.out | exact HZB.out.alloc HZB.out.size _), ?_⟩
        show Exit.then _ _ _ _ _
        have kz := (HW.out.2.2.below HZB.out (by omega))
        have x3 : y3.cell? ⟨w.heap.size, 3, none⟩ = some (.slice codeA c.cd.length codeC) := kz.cell 3
        have lz : w.heap.size < y3.heap.size := kz.lt
        clear kz
        go_wp2_with fail
        refine HLF.out.mono ?_
        rintro e V ⟨hbV, hlV, hoo⟩
        rw [HO.out] at hoo
        clear x3
        cases o with
        | ok s =>
          obtain ⟨rfl, qa', cq', ca', cc', oa, oc, v5, v6, v12, v13, v14, hv⟩ := hoo
          obtain ⟨hr9, hex⟩ := rend_ok (n := c.cd.length) (by omega) HW.out.1 rfl HW.out.2.1 HZB.out hbV hv
          have z0 : V.cell? ⟨w.heap.size + 1 + 1 + 1, 0, none⟩ = some (.slice none 0 0) := hr9.cell 0
          have z1 : V.cell? ⟨w.heap.size + 1 + 1 + 1, 0 + 1, none⟩ = some (.slice none 0 0) := hr9.cell 1
          have z2 : V.cell? ⟨w.heap.size + 1 + 1 + 1, 0 + 1 + 1, none⟩ = some (.slice none 0 0) := hr9.cell 2
          have z3 : V.cell? ⟨w.heap.size + 1 + 1 + 1, 0 + 1 + 1 + 1, none⟩ = some (.int .i64 0) := hr9.cell 3
          have f0 := hr9.frozen 0
          have f1 := hr9.frozen (0 + 1)
          have f2 := hr9.frozen (0 + 1 + 1)
          have f3 := hr9.frozen (0 + 1 + 1 + 1)
          have HEX := Lib.hid hex
          clear hex hv hbV
          go_wp2_with fail
          refine wp_region_grew [3, 7, 11] [0, 1, 2, 4, 5, 6, 8, 9, 10, 12] [(2, 0), (2, 1), (2, 2), (2, 4), (2, 5), (2, 6), (2, 8), (2, 9), (2, 10), (1, 3), (1, 7), (1, 11), (2, 12), (0, 13), (0, 14)] (by kernel_rfl) (by kernel_rfl) (fun c a d v w h => by cases d <;> exact h) ?_
          simp only [getPlan, List.filterMap_cons, List.filterMap_nil, List.getElem?_toArray, List.getElem?_cons_succ, List.getElem?_cons_zero, Option.map_some]
          repeat ((first | refine wpPlan_pure (fun K hK => ?_) | refine wpPlan_float (fun K hK => ?_)); go_simp; refine hK _ ?_; clear hK K)
          refine wpPlan_tail (by kernel_rfl) ?_
          simp only [List.map_cons, List.map_nil]
          go_wp2
          refine bodyPost_ret (v := .tuple #[.agg #[.slice qa' s.arr.length cq', .slice ca' s.ctx.length cc', .slice oa s.out.length oc, .int .i64 s.steps], .int .i64 0]) ?_ rfl ?_
          · have e0 := ((((hr9.set 0 (.slice qa' s.arr.length cq')).set 1 (.slice ca' s.ctx.length cc')).set 2 (.slice oa s.out.length oc)).set 3 (.int .i64 s.steps))
            have y0 := e0.cell 0
            have y1 := e0.cell 1
            have y2 := e0.cell 2
            have y3 := e0.cell 3
            simp only [zeroRun, List.set_cons_zero, List.set_cons_succ, List.getElem?_cons_zero, List.getElem?_cons_succ] at y0 y1 y2 y3
            simp [results, Try.results40, go_sem, y0, y1, y2, y3]
          · exact HEX.out.drewn
        | left s => exact hoo.elim
        | err n =>
          obtain ⟨rfl, hne, v14⟩ := hoo
          have qn : (n == 0) = false := by simpa using hne
          obtain ⟨hr9, hex⟩ := rend_err (er := n) (by omega) HW.out.1 rfl HW.out.2.1 HZB.out hbV
          have z0 : V.cell? ⟨w.heap.size + 1 + 1 + 1, 0, none⟩ = some (.slice none 0 0) := hr9.cell 0
          have z1 : V.cell? ⟨w.heap.size + 1 + 1 + 1, 0 + 1, none⟩ = some (.slice none 0 0) := hr9.cell 1
          have z2 : V.cell? ⟨w.heap.size + 1 + 1 + 1, 0 + 1 + 1, none⟩ = some (.slice none 0 0) := hr9.cell 2
          have z3 : V.cell? ⟨w.heap.size + 1 + 1 + 1, 0 + 1 + 1 + 1, none⟩ = some (.int .i64 0) := hr9.cell 3
          have f0 := hr9.frozen 0
          have f1 := hr9.frozen (0 + 1)
          have f2 := hr9.frozen (0 + 1 + 1)
          have f3 := hr9.frozen (0 + 1 + 1 + 1)
          have HEX := Lib.hid hex
          have hcls : OneCls y3.heap.size 14 (.int .i64 n) V := v14
          have HCLS := Lib.hid hcls
          have _inst : Nonempty (CWorld (OneCls y3.heap.size 14 (.int .i64 n))) := ⟨⟨V, hcls⟩⟩
          have hob : w.heap.size + 1 + 1 + 1 ≠ y3.heap.size := by omega
          have HOB := Lib.hid hob
          clear hex hbV hcls hob
          go_wp2_with fail
          have p0 : ∀ p : CWorld (OneCls y3.heap.size 14 (.int .i64 n)), p.w.cell? ⟨y3.heap.size, 14, none⟩ = some (.int .i64 n) := fun p => p.h
          refine wp_region_mix (Cls (OneCls y3.heap.size 14 (.int .i64 n))) [4] [0, 1, 2, 3] [(2, 0), (2, 1), (2, 2), (2, 3), (1, 4), (0, 5), (0, 6)] (by kernel_rfl) (by kernel_rfl) (fun c a d v w h => by cases d <;> exact h) ⟨⟨V.drew, HCLS.out⟩, rfl⟩ ?_
          simp only [getPlan, List.filterMap_cons, List.filterMap_nil, List.getElem?_toArray, List.getElem?_cons_succ, List.getElem?_cons_zero, Option.map_some]
          repeat ((first | refine wpPlan_pure (fun K hK => ?_) | refine wpPlan_float (fun K hK => ?_)); go_simp; refine hK _ ?_; clear hK K)
          clear p0
          refine wpPlan_keep ?_
          go_wp2_with fail
          refine ⟨⟨CWorld.mk _ ?_, rfl⟩, ?_⟩
          · exact (((OneCls.set HCLS.out HOB.out 0 _).set HOB.out 1 _).set HOB.out 2 _).set HOB.out 3 _
          refine wpPlan_tail (by kernel_rfl) ?_
          simp only [List.map_cons, List.map_nil]
          go_wp2
          refine bodyPost_ret (v := .tuple #[.agg #[.slice none 0 0, .slice none 0 0, .slice none 0 0, .int .i64 0], .int .i64 n]) ?_ rfl ?_
          · have e0 := ((((hr9.set 0 (.slice none 0 0)).set 1 (.slice none 0 0)).set 2 (.slice none 0 0)).set 3 (.int .i64 0))
            have y0 := e0.cell 0
            have y1 := e0.cell 1
            have y2 := e0.cell 2
            have y3 := e0.cell 3
            simp only [zeroRun, List.set_cons_zero, List.set_cons_succ, List.getElem?_cons_zero, List.getElem?_cons_succ] at y0 y1 y2 y3
            simp [results, Try.results40, go_sem, y0, y1, y2, y3]
          · exact HEX.out.drewn
      exact trivial
    refine wpTree_alt rfl ?_ ?_
    · go_wp2_with fail
      refine ⟨grew_below (hb_y1.alloc hb_y1.size _), ?_⟩
      refine wpTree_gen (fun y => Below y1.heap.size y1 y ∧ Blk y y1.heap.size (ints .u32 (List.replicate c.spills 0)) 42) ⟨(Below.refl _ _).alloc (Nat.le_refl _) _, heap_new1 _ _⟩ ?_
      rintro y4 ⟨hby, Fs_y4⟩
      have hb_y4 : Below W.heap.size W y4 := hb_y1.trans (hby.mono hb_y1.size)
      have t_y4 := Fs_y4.lt
      have FC_y4 := FC_y1.below hby
      have s_y4 := hby.size
      have k_y4 : W.heap.size ≤ y4.heap.size := hb_y4.size
      clear hby
      refine wpTree_alt rfl ?_ ?_
      · go_wp2_with fail
        refine ⟨grew_below (hb_y4.alloc hb_y4.size _), ?_⟩
        refine wpTree_gen (fun y => Below y4.heap.size y4 y ∧ Blk y y4.heap.size (ints .u32 (List.replicate c.regs 0)) 42) ⟨(Below.refl _ _).alloc (Nat.le_refl _) _, heap_new1 _ _⟩ ?_
        rintro y5 ⟨hby, Fr_y5⟩
        have hb_y5 : Below W.heap.size W y5 := hb_y4.trans (hby.mono hb_y4.size)
        have t_y5 := Fr_y5.lt
        have FC_y5 := FC_y4.below hby
        have Fs_y5 := Fs_y4.below hby Fs_y4.lt
        have s_y5 := hby.size
        have k_y5 : W.heap.size ≤ y5.heap.size := hb_y5.size
        clear hby
        have l_r := Fr_y5.lt
        have l_s := Fs_y5.lt
        have l_c := FC_y5.hz
        have PP : Parts W.heap.size c arr ctx y4.heap.size y1.heap.size cb cc va vc y5 := FC_y5.parts Fr_y5 Fs_y5 (by omega) (by omega) (by omega) (by omega) (by omega) hb_y5.size
        have HLF := Lib.hid (HLEAF.out _ _ _ _ _ _ y5 hb_y5 PP)
        have HZB := Lib.hid hb_y5
        have hzl := k_y5
        clear PP l_r l_s l_c
        refine wpTree_alt rfl ?_ trivial
        go_wp2_with fail
        refine ⟨grew_below (by first | exact HZB.out | exact HZB.out.alloc HZB.out.size _), ?_⟩
        refine wpTree_alt rfl ?_ trivial
        go_wp2_with fail
        refine ⟨grew_below (by first | exact HZB.out | exact HZB.out.alloc HZB.out.size _), ?_⟩
        refine wpTree_alt rfl ?_ trivial
        go_wp2_with fail
        refine ⟨grew_below (by first | exact HZB.out | exact HZB.out.alloc HZB.out.size _), ?_⟩
        show Exit.then _ _ _ _ _
        have kz := (HW.out.2.2.below HZB.out (by omega))
        have x3 : y5.cell? ⟨w.heap.size, 3, none⟩ = some (.slice codeA c.cd.length codeC) := kz.cell 3
        have lz : w.heap.size < y5.heap.size := kz.lt
        clear kz
        go_wp2_with fail
        refine HLF.out.mono ?_
        rintro e V ⟨hbV, hlV, hoo⟩
        rw [HO.out] at hoo
        clear x3
        cases o with
        | ok s =>
          obtain ⟨rfl, qa', cq', ca', cc', oa, oc, v5, v6, v12, v13, v14, hv⟩ := hoo
          obtain ⟨hr9, hex⟩ := rend_ok (n := c.cd.length) (by omega) HW.out.1 rfl HW.out.2.1 HZB.out hbV hv
          have z0 : V.cell? ⟨w.heap.size + 1 + 1 + 1, 0, none⟩ = some (.slice none 0 0) := hr9.cell 0
          have z1 : V.cell? ⟨w.heap.size + 1 + 1 + 1, 0 + 1, none⟩ = some (.slice none 0 0) := hr9.cell 1
          have z2 : V.cell? ⟨w.heap.size + 1 + 1 + 1, 0 + 1 + 1, none⟩ = some (.slice none 0 0) := hr9.cell 2
          have z3 : V.cell? ⟨w.heap.size + 1 + 1 + 1, 0 + 1 + 1 + 1, none⟩ = some (.int .i64 0) := hr9.cell 3
          have f0 := hr9.frozen 0
          have f1 := hr9.frozen (0 + 1)
          have f2 := hr9.frozen (0 + 1 + 1)
          have f3 := hr9.frozen (0 + 1 + 1 + 1)
          have HEX := Lib.hid hex
          clear hex hv hbV
          go_wp2_with fail
          refine wp_region_grew [3, 7, 11] [0, 1, 2, 4, 5, 6, 8, 9, 10, 12] [(2, 0), (2, 1), (2, 2), (2, 4), (2, 5), (2, 6), (2, 8), (2, 9), (2, 10), (1, 3), (1, 7), (1, 11), (2, 12), (0, 13), (0, 14)] (by kernel_rfl) (by kernel_rfl) (fun c a d v w h => by cases d <;> exact h) ?_
          simp only [getPlan, List.filterMap_cons, List.filterMap_nil, List.getElem?_toArray, List.getElem?_cons_succ, List.getElem?_cons_zero, Option.map_some]
          repeat ((first | refine wpPlan_pure (fun K hK => ?_) | refine wpPlan_float (fun K hK => ?_)); go_simp; refine hK _ ?_; clear hK K)
          refine wpPlan_tail (by kernel_rfl) ?_
          simp only [List.map_cons, List.map_nil]
          go_wp2
          refine bodyPost_ret (v := .tuple #[.agg #[.slice qa' s.arr.length cq', .slice ca' s.ctx.length cc', .slice oa s.out.length oc, .int .i64 s.steps], .int .i64 0]) ?_ rfl ?_
          · have e0 := ((((hr9.set 0 (.slice qa' s.arr.length cq')).set 1 (.slice ca' s.ctx.length cc')).set 2 (.slice oa s.out.length oc)).set 3 (.int .i64 s.steps))
            have y0 := e0.cell 0
            have y1 := e0.cell 1
            have y2 := e0.cell 2
            have y3 := e0.cell 3
            simp only [zeroRun, List.set_cons_zero, List.set_cons_succ, List.getElem?_cons_zero, List.getElem?_cons_succ] at y0 y1 y2 y3
            simp [results, Try.results40, go_sem, y0, y1, y2, y3]
          · exact HEX.out.drewn
        | left s => exact hoo.elim
        | err n =>
          obtain ⟨rfl, hne, v14⟩ := hoo
          have qn : (n == 0) = false := by simpa using hne
          obtain ⟨hr9, hex⟩ := rend_err (er := n) (by omega) HW.out.1 rfl HW.out.2.1 HZB.out hbV
          have z0 : V.cell? ⟨w.heap.size + 1 + 1 + 1, 0, none⟩ = some (.slice none 0 0) := hr9.cell 0
          have z1 : V.cell? ⟨w.heap.size + 1 + 1 + 1, 0 + 1, none⟩ = some (.slice none 0 0) := hr9.cell 1
          have z2 : V.cell? ⟨w.heap.size + 1 + 1 + 1, 0 + 1 + 1, none⟩ = some (.slice none 0 0) := hr9.cell 2
          have z3 : V.cell? ⟨w.heap.size + 1 + 1 + 1, 0 + 1 + 1 + 1, none⟩ = some (.int .i64 0) := hr9.cell 3
          have f0 := hr9.frozen 0
          have f1 := hr9.frozen (0 + 1)
          have f2 := hr9.frozen (0 + 1 + 1)
          have f3 := hr9.frozen (0 + 1 + 1 + 1)
          have HEX := Lib.hid hex
          have hcls : OneCls y5.heap.size 14 (.int .i64 n) V := v14
          have HCLS := Lib.hid hcls
          have _inst : Nonempty (CWorld (OneCls y5.heap.size 14 (.int .i64 n))) := ⟨⟨V, hcls⟩⟩
          have hob : w.heap.size + 1 + 1 + 1 ≠ y5.heap.size := by omega
          have HOB := Lib.hid hob
          clear hex hbV hcls hob
          go_wp2_with fail
          have p0 : ∀ p : CWorld (OneCls y5.heap.size 14 (.int .i64 n)), p.w.cell? ⟨y5.heap.size, 14, none⟩ = some (.int .i64 n) := fun p => p.h
          refine wp_region_mix (Cls (OneCls y5.heap.size 14 (.int .i64 n))) [4] [0, 1, 2, 3] [(2, 0), (2, 1), (2, 2), (2, 3), (1, 4), (0, 5), (0, 6)] (by kernel_rfl) (by kernel_rfl) (fun c a d v w h => by cases d <;> exact h) ⟨⟨V.drew, HCLS.out⟩, rfl⟩ ?_
          simp only [getPlan, List.filterMap_cons, List.filterMap_nil, List.getElem?_toArray, List.getElem?_cons_succ, List.getElem?_cons_zero, Option.map_some]
          repeat ((first | refine wpPlan_pure (fun K hK => ?_) | refine wpPlan_float (fun K hK => ?_)); go_simp; refine hK _ ?_; clear hK K)
          clear p0
          refine wpPlan_keep ?_
          go_wp2_with fail
          refine ⟨⟨CWorld.mk _ ?_, rfl⟩, ?_⟩
          · exact (((OneCls.set HCLS.out HOB.out 0 _).set HOB.out 1 _).set HOB.out 2 _).set HOB.out 3 _
          refine wpPlan_tail (by kernel_rfl) ?_
          simp only [List.map_cons, List.map_nil]
          go_wp2
          refine bodyPost_ret (v := .tuple #[.agg #[.slice none 0 0, .slice none 0 0, .slice none 0 0, .int .i64 0], .int .i64 n]) ?_ rfl ?_
          · have e0 := ((((hr9.set 0 (.slice none 0 0)).set 1 (.slice none 0 0)).set 2 (.slice none 0 0)).set 3 (.int .i64 0))
            have y0 := e0.cell 0
            have y1 := e0.cell 1
            have y2 := e0.cell 2
            have y3 := e0.cell 3
            simp only [zeroRun, List.set_cons_zero, List.set_cons_succ, List.getElem?_cons_zero, List.getElem?_cons_succ] at y0 y1 y2 y3
            simp [results, Try.results40, go_sem, y0, y1, y2, y3]
          · exact HEX.out.drewn
      exact trivial
    exact trivial
  refine wpTree_alt rfl ?_ ?_
  · go_wp2_with fail
    refine ⟨grew_below (hb_z.alloc hb_z.size _), ?_⟩
    refine wpTree_gen (fun y => Below z.heap.size z y ∧ Blk y z.heap.size (ints .u32 (List.replicate c.regs 0)) 42) ⟨(Below.refl _ _).alloc (Nat.le_refl _) _, heap_new1 _ _⟩ ?_
    rintro y6 ⟨hby, Fr_y6⟩
    have hb_y6 : Below W.heap.size W y6 := hb_z.trans (hby.mono hb_z.size)
    have t_y6 := Fr_y6.lt
    have s_y6 := hby.size
    have k_y6 : W.heap.size ≤ y6.heap.size := hb_y6.size
    clear hby
    refine wpTree_alt rfl ?_ ?_
    · go_wp2_with fail
      refine (rcopy_any qa ca cq cc0 arr ctx _ (HG.out.below (HWZ.out _ hb_y6)) (HCTX.out.below (HWZ.out _ hb_y6)) hn H1.out hc).mono ?_
      rintro e y7 ⟨v, τ, ab, ac, cb, cc, rfl, hgo, hcx, tcb, hcb, hby⟩
      obtain ⟨va, vc, rfl⟩ := grid_slice hgo
      have FC_y7 := copy_done hgo hcx tcb hcb hb_y6.size
      clear hgo hcx tcb hcb
      have hb_y7 : Below W.heap.size W y7 := hb_y6.trans (hby.mono hb_y6.size)
      have Fr_y7 := Fr_y6.below hby Fr_y6.lt
      go_wp2_with fail
      refine ⟨grew_below hb_y7, ?_⟩
      have s_y7 := hby.size
      have k_y7 : W.heap.size ≤ y7.heap.size := hb_y7.size
      clear hby
      refine wpTree_alt rfl ?_ ?_
      · go_wp2_with fail
        refine ⟨grew_below (hb_y7.alloc hb_y7.size _), ?_⟩
        refine wpTree_gen (fun y => Below y7.heap.size y7 y ∧ Blk y y7.heap.size (ints .u32 (List.replicate c.spills 0)) 42) ⟨(Below.refl _ _).alloc (Nat.le_refl _) _, heap_new1 _ _⟩ ?_
        rintro y8 ⟨hby, Fs_y8⟩
        have hb_y8 : Below W.heap.size W y8 := hb_y7.trans (hby.mono hb_y7.size)
        have t_y8 := Fs_y8.lt
        have FC_y8 := FC_y7.below hby
        have Fr_y8 := Fr_y7.below hby Fr_y7.lt
        have s_y8 := hby.size
        have k_y8 : W.heap.size ≤ y8.heap.size := hb_y8.size
        clear hby
        have l_r := Fr_y8.lt
        have l_s := Fs_y8.lt
        have l_c := FC_y8.hz
        have PP : Parts W.heap.size c arr ctx z.heap.size y7.heap.size cb cc va vc y8 := FC_y8.parts Fr_y8 Fs_y8 (by omega) (by omega) (by omega) (by omega) (by omega) hb_y8.size
        have HLF := Lib.hid (HLEAF.out _ _ _ _ _ _ y8 hb_y8 PP)
        have HZB := Lib.hid hb_y8
        have hzl := k_y8
        clear PP l_r l_s l_c
        refine wpTree_alt rfl ?_ trivial
        go_wp2_with fail
        refine ⟨grew_below (by first | exact HZB.out | exact HZB.out.alloc HZB.out.size _), ?_⟩
        refine wpTree_alt rfl ?_ trivial
        go_wp2_with fail
        refine ⟨grew_below (by first | exact HZB.out | exact HZB.out.alloc HZB.out.size _), ?_⟩
        refine wpTree_alt rfl ?_ trivial
        go_wp2_with fail
        refine ⟨grew_below (by first | exact HZB.out | exact HZB.out.alloc HZB.out.size _), ?_⟩
        show Exit.then _ _ _ _ _
        have kz := (HW.out.2.2.below HZB.out (by omega))
        have x3 : y8.cell? ⟨w.heap.size, 3, none⟩ = some (.slice codeA c.cd.length codeC) := kz.cell 3
        have lz : w.heap.size < y8.heap.size := kz.lt
        clear kz
        go_wp2_with fail
        refine HLF.out.mono ?_
        rintro e V ⟨hbV, hlV, hoo⟩
        rw [HO.out] at hoo
        clear x3
        cases o with
        | ok s =>
          obtain ⟨rfl, qa', cq', ca', cc', oa, oc, v5, v6, v12, v13, v14, hv⟩ := hoo
          obtain ⟨hr9, hex⟩ := rend_ok (n := c.cd.length) (by omega) HW.out.1 rfl HW.out.2.1 HZB.out hbV hv
          have z0 : V.cell? ⟨w.heap.size + 1 + 1 + 1, 0, none⟩ = some (.slice none 0 0) := hr9.cell 0
          have z1 : V.cell? ⟨w.heap.size + 1 + 1 + 1, 0 + 1, none⟩ = some (.slice none 0 0) := hr9.cell 1
          have z2 : V.cell? ⟨w.heap.size + 1 + 1 + 1, 0 + 1 + 1, none⟩ = some (.slice none 0 0) := hr9.cell 2
          have z3 : V.cell? ⟨w.heap.size + 1 + 1 + 1, 0 + 1 + 1 + 1, none⟩ = some (.int .i64 0) := hr9.cell 3
          have f0 := hr9.frozen 0
          have f1 := hr9.frozen (0 + 1)
          have f2 := hr9.frozen (0 + 1 + 1)
          have f3 := hr9.frozen (0 + 1 + 1 + 1)
          have HEX := Lib.hid hex
          clear hex hv hbV
          go_wp2_with fail
          refine wp_region_grew [3, 7, 11] [0, 1, 2, 4, 5, 6, 8, 9, 10, 12] [(2, 0), (2, 1), (2, 2), (2, 4), (2, 5), (2, 6), (2, 8), (2, 9), (2, 10), (1, 3), (1, 7), (1, 11), (2, 12), (0, 13), (0, 14)] (by kernel_rfl) (by kernel_rfl) (fun c a d v w h => by cases d <;> exact h) ?_
          simp only [getPlan, List.filterMap_cons, List.filterMap_nil, List.getElem?_toArray, List.getElem?_cons_succ, List.getElem?_cons_zero, Option.map_some]
          repeat ((first | refine wpPlan_pure (fun K hK => ?_) | refine wpPlan_float (fun K hK => ?_)); go_simp; refine hK _ ?_; clear hK K)
          refine wpPlan_tail (by kernel_rfl) ?_
          simp only [List.map_cons, List.map_nil]
          go_wp2
          refine bodyPost_ret (v := .tuple #[.agg #[.slice qa' s.arr.length cq', .slice ca' s.ctx.length cc', .slice oa s.out.length oc, .int .i64 s.steps], .int .i64 0]) ?_ rfl ?_
          · have e0 := ((((hr9.set 0 (.slice qa' s.arr.length cq')).set 1 (.slice ca' s.ctx.length cc')).set 2 (.slice oa s.out.length oc)).set 3 (.int .i64 s.steps))
            have y0 := e0.cell 0
            have y1 := e0.cell 1
            have y2 := e0.cell 2
            have y3 := e0.cell 3
            simp only [zeroRun, List.set_cons_zero, List.set_cons_succ, List.getElem?_cons_zero, List.getElem?_cons_succ] at y0 y1 y2 y3
            simp [results, Try.results40, go_sem, y0, y1, y2, y3]
          · exact HEX.out.drewn
        | left s => exact hoo.elim
        | err n =>
          obtain ⟨rfl, hne, v14⟩ := hoo
          have qn : (n == 0) = false := by simpa using hne
          obtain ⟨hr9, hex⟩ := rend_err (er := n) (by omega) HW.out.1 rfl HW.out.2.1 HZB.out hbV
          have z0 : V.cell? ⟨w.heap.size + 1 + 1 + 1, 0, none⟩ = some (.slice none 0 0) := hr9.cell 0
          have z1 : V.cell? ⟨w.heap.size + 1 + 1 + 1, 0 + 1, none⟩ = some (.slice none 0 0) := hr9.cell 1
          have z2 : V.cell? ⟨w.heap.size + 1 + 1 + 1, 0 + 1 + 1, none⟩ = some (.slice none 0 0) := hr9.cell 2
          have z3 : V.cell? ⟨w.heap.size + 1 + 1 + 1, 0 + 1 + 1 + 1, none⟩ = some (.int .i64 0) := hr9.cell 3
          have f0 := hr9.frozen 0
          have f1 := hr9.frozen (0 + 1)
          have f2 := hr9.frozen (0 + 1 + 1)
          have f3 := hr9.frozen (0 + 1 + 1 + 1)
          have HEX := Lib.hid hex
          have hcls : OneCls y8.heap.size 14 (.int .i64 n) V := v14
          have HCLS := Lib.hid hcls
          have _inst : Nonempty (CWorld (OneCls y8.heap.size 14 (.int .i64 n))) := ⟨⟨V, hcls⟩⟩
          have hob : w.heap.size + 1 + 1 + 1 ≠ y8.heap.size := by omega
          have HOB := Lib.hid hob
          clear hex hbV hcls hob
          go_wp2_with fail
          have p0 : ∀ p : CWorld (OneCls y8.heap.size 14 (.int .i64 n)), p.w.cell? ⟨y8.heap.size, 14, none⟩ = some (.int .i64 n) := fun p => p.h
          refine wp_region_mix (Cls (OneCls y8.heap.size 14 (.int .i64 n))) [4] [0, 1, 2, 3] [(2, 0), (2, 1), (2, 2), (2, 3), (1, 4), (0, 5), (0, 6)] (by kernel_rfl) (by kernel_rfl) (fun c a d v w h => by cases d <;> exact h) ⟨⟨V.drew, HCLS.out⟩, rfl⟩ ?_
          simp only [getPlan, List.filterMap_cons, List.filterMap_nil, List.getElem?_toArray, List.getElem?_cons_succ, List.getElem?_cons_zero, Option.map_some]
          repeat ((first | refine wpPlan_pure (fun K hK => ?_) | refine wpPlan_float (fun K hK => ?_)); go_simp; refine hK _ ?_; clear hK K)
          clear p0
          refine wpPlan_keep ?_
          go_wp2_with fail
          refine ⟨⟨CWorld.mk _ ?_, rfl⟩, ?_⟩
          · exact (((OneCls.set HCLS.out HOB.out 0 _).set HOB.out 1 _).set HOB.out 2 _).set HOB.out 3 _
          refine wpPlan_tail (by kernel_rfl) ?_
          simp only [List.map_cons, List.map_nil]
          go_wp2
          refine bodyPost_ret (v := .tuple #[.agg #[.slice none 0 0, .slice none 0 0, .slice none 0 0, .int .i64 0], .int .i64 n]) ?_ rfl ?_
          · have e0 := ((((hr9.set 0 (.slice none 0 0)).set 1 (.slice none 0 0)).set 2 (.slice none 0 0)).set 3 (.int .i64 0))
            have y0 := e0.cell 0
            have y1 := e0.cell 1
            have y2 := e0.cell 2
            have y3 := e0.cell 3
            simp only [zeroRun, List.set_cons_zero, List.set_cons_succ, List.getElem?_cons_zero, List.getElem?_cons_succ] at y0 y1 y2 y3
            simp [results, Try.results40, go_sem, y0, y1, y2, y3]
          · exact HEX.out.drewn
      exact trivial
    refine wpTree_alt rfl ?_ ?_
    · go_wp2_with fail
      refine ⟨grew_below (hb_y6.alloc hb_y6.size _), ?_⟩
      refine wpTree_gen (fun y => Below y6.heap.size y6 y ∧ Blk y y6.heap.size (ints .u32 (List.replicate c.spills 0)) 42) ⟨(Below.refl _ _).alloc (Nat.le_refl _) _, heap_new1 _ _⟩ ?_
      rintro y9 ⟨hby, Fs_y9⟩
      have hb_y9 : Below W.heap.size W y9 := hb_y6.trans (hby.mono hb_y6.size)
      have t_y9 := Fs_y9.lt
      have Fr_y9 := Fr_y6.below hby Fr_y6.lt
      have s_y9 := hby.size
      have k_y9 : W.heap.size ≤ y9.heap.size := hb_y9.size
      clear hby
      refine wpTree_alt rfl ?_ ?_
      · go_wp2_with fail
        refine (rcopy_any qa ca cq cc0 arr ctx _ (HG.out.below (HWZ.out _ hb_y9)) (HCTX.out.below (HWZ.out _ hb_y9)) hn H1.out hc).mono ?_
        rintro e y10 ⟨v, τ, ab, ac, cb, cc, rfl, hgo, hcx, tcb, hcb, hby⟩
        obtain ⟨va, vc, rfl⟩ := grid_slice hgo
        have FC_y10 := copy_done hgo hcx tcb hcb hb_y9.size
        clear hgo hcx tcb hcb
        have hb_y10 : Below W.heap.size W y10 := hb_y9.trans (hby.mono hb_y9.size)
        have Fr_y10 := Fr_y9.below hby Fr_y9.lt
        have Fs_y10 := Fs_y9.below hby Fs_y9.lt
        go_wp2_with fail
        refine ⟨grew_below hb_y10, ?_⟩
        have s_y10 := hby.size
        have k_y10 : W.heap.size ≤ y10.heap.size := hb_y10.size
        clear hby
        have l_r := Fr_y10.lt
        have l_s := Fs_y10.lt
        have l_c := FC_y10.hz
        have PP : Parts W.heap.size c arr ctx z.heap.size y6.heap.size cb cc va vc y10 := FC_y10.parts Fr_y10 Fs_y10 (by omega) (by omega) (by omega) (by omega) (by omega) hb_y10.size
        have HLF := Lib.hid (HLEAF.out _ _ _ _ _ _ y10 hb_y10 PP)
        have HZB := Lib.hid hb_y10
        have hzl := k_y10
        clear PP l_r l_s l_c
        refine wpTree_alt rfl ?_ trivial
        go_wp2_with fail
        refine ⟨grew_below (by first | exact HZB.out | exact HZB.out.alloc HZB.out.size _), ?_⟩
        refine wpTree_alt rfl ?_ trivial
        go_wp2_with fail
        refine ⟨grew_below (by first | exact HZB.out | exact HZB.out.alloc HZB.out.size _), ?_⟩
        refine wpTree_alt rfl ?_ trivial
        go_wp2_with fail
        refine ⟨grew_below (by first | exact HZB.out | exact HZB.out.alloc HZB.out.size _), ?_⟩
        show Exit.then _ _ _ _ _
        have kz := (HW.out.2.2.below HZB.out (by omega))
        have x3 : y10.cell? ⟨w.heap.size, 3, none⟩ = some (.slice codeA c.cd.length codeC) := kz.cell 3
        have lz : w.heap.size < y10.heap.size := kz.lt
        clear kz
        go_wp2_with fail
        refine HLF.out.mono ?_
        rintro e V ⟨hbV, hlV, hoo⟩
        rw [HO.out] at hoo
        clear x3
        cases o with
        | ok s =>
          obtain ⟨rfl, qa', cq', ca', cc', oa, oc, v5, v6, v12, v13, v14, hv⟩ := hoo
          obtain ⟨hr9, hex⟩ := rend_ok (n := c.cd.length) (by omega) HW.out.1 rfl HW.out.2.1 HZB.out hbV hv
          have z0 : V.cell? ⟨w.heap.size + 1 + 1 + 1, 0, none⟩ = some (.slice none 0 0) := hr9.cell 0
          have z1 : V.cell? ⟨w.heap.size + 1 + 1 + 1, 0 + 1, none⟩ = some (.slice none 0 0) := hr9.cell 1
          have z2 : V.cell? ⟨w.heap.size + 1 + 1 + 1, 0 + 1 + 1, none⟩ = some (.slice none 0 0) := hr9.cell 2
          have z3 : V.cell? ⟨w.heap.size + 1 + 1 + 1, 0 + 1 + 1 + 1, none⟩ = some (.int .i64 0) := hr9.cell 3
          have f0 := hr9.frozen 0
          have f1 := hr9.frozen (0 + 1)
          have f2 := hr9.frozen (0 + 1 + 1)
          have f3 := hr9.frozen (0 + 1 + 1 + 1)
          have HEX := Lib.hid hex
          clear hex hv hbV
          go_wp2_with fail
          refine wp_region_grew [3, 7, 11] [0, 1, 2, 4, 5, 6, 8, 9, 10, 12] [(2, 0), (2, 1), (2, 2), (2, 4), (2, 5), (2, 6), (2, 8), (2, 9), (2, 10), (1, 3), (1, 7), (1, 11), (2, 12), (0, 13), (0, 14)] (by kernel_rfl) (by kernel_rfl) (fun c a d v w h => by cases d <;> exact h) ?_
          simp only [getPlan, List.filterMap_cons, List.filterMap_nil, List.getElem?_toArray, List.getElem?_cons_succ, List.getElem?_cons_zero, Option.map_some]
          repeat ((first | refine wpPlan_pure (fun K hK => ?_) | refine wpPlan_float (fun K hK => ?_)); go_simp; refine hK _ ?_; clear hK K)
          refine wpPlan_tail (by kernel_rfl) ?_
          simp only [List.map_cons, List.map_nil]
          go_wp2
          refine bodyPost_ret (v := .tuple #[.agg #[.slice qa' s.arr.length cq', .slice ca' s.ctx.length cc', .slice oa s.out.length oc, .int .i64 s.steps], .int .i64 0]) ?_ rfl ?_
          · have e0 := ((((hr9.set 0 (.slice qa' s.arr.length cq')).set 1 (.slice ca' s.ctx.length cc')).set 2 (.slice oa s.out.length oc)).set 3 (.int .i64 s.steps))
            have y0 := e0.cell 0
            have y1 := e0.cell 1
            have y2 := e0.cell 2
            have y3 := e0.cell 3
            simp only [zeroRun, List.set_cons_zero, List.set_cons_succ, List.getElem?_cons_zero, List.getElem?_cons_succ] at y0 y1 y2 y3
            simp [results, Try.results40, go_sem, y0, y1, y2, y3]
          · exact HEX.out.drewn
        | left s => exact hoo.elim
        | err n =>
          obtain ⟨rfl, hne, v14⟩ := hoo
          have qn : (n == 0) = false := by simpa using hne
          obtain ⟨hr9, hex⟩ := rend_err (er := n) (by omega) HW.out.1 rfl HW.out.2.1 HZB.out hbV
          have z0 : V.cell? ⟨w.heap.size + 1 + 1 + 1, 0, none⟩ = some (.slice none 0 0) := hr9.cell 0
          have z1 : V.cell? ⟨w.heap.size + 1 + 1 + 1, 0 + 1, none⟩ = some (.slice none 0 0) := hr9.cell 1
          have z2 : V.cell? ⟨w.heap.size + 1 + 1 + 1, 0 + 1 + 1, none⟩ = some (.slice none 0 0) := hr9.cell 2
          have z3 : V.cell? ⟨w.heap.size + 1 + 1 + 1, 0 + 1 + 1 + 1, none⟩ = some (.int .i64 0) := hr9.cell 3
          have f0 := hr9.frozen 0
          have f1 := hr9.frozen (0 + 1)
          have f2 := hr9.frozen (0 + 1 + 1)
          have f3 := hr9.frozen (0 + 1 + 1 + 1)
          have HEX := Lib.hid hex
          have hcls : OneCls y10.heap.size 14 (.int .i64 n) V := v14
          have HCLS := Lib.hid hcls
          have _inst : Nonempty (CWorld (OneCls y10.heap.size 14 (.int .i64 n))) := ⟨⟨V, hcls⟩⟩
          have hob : w.heap.size + 1 + 1 + 1 ≠ y10.heap.size := by omega
          have HOB := Lib.hid hob
          clear hex hbV hcls hob
          go_wp2_with fail
          have p0 : ∀ p : CWorld (OneCls y10.heap.size 14 (.int .i64 n)), p.w.cell? ⟨y10.heap.size, 14, none⟩ = some (.int .i64 n) := fun p => p.h
          refine wp_region_mix (Cls (OneCls y10.heap.size 14 (.int .i64 n))) [4] [0, 1, 2, 3] [(2, 0), (2, 1), (2, 2), (2, 3), (1, 4), (0, 5), (0, 6)] (by kernel_rfl) (by kernel_rfl) (fun c a d v w h => by cases d <;> exact h) ⟨⟨V.drew, HCLS.out⟩, rfl⟩ ?_
          simp only [getPlan, List.filterMap_cons, List.filterMap_nil, List.getElem?_toArray, List.getElem?_cons_succ, List.getElem?_cons_zero, Option.map_some]
          repeat ((first | refine wpPlan_pure (fun K hK => ?_) | refine wpPlan_float (fun K hK => ?_)); go_simp; refine hK _ ?_; clear hK K)
          clear p0
          refine wpPlan_keep ?_
          go_wp2_with fail
          refine ⟨⟨CWorld.mk _ ?_, rfl⟩, ?_⟩
          · exact (((OneCls.set HCLS.out HOB.out 0 _).set HOB.out 1 _).set HOB.out 2 _).set HOB.out 3 _
          refine wpPlan_tail (by kernel_rfl) ?_
          simp only [List.map_cons, List.map_nil]
          go_wp2
          refine bodyPost_ret (v := .tuple #[.agg #[.slice none 0 0, .slice none 0 0, .slice none 0 0, .int .i64 0], .int .i64 n]) ?_ rfl ?_
          · have e0 := ((((hr9.set 0 (.slice none 0 0)).set 1 (.slice none 0 0)).set 2 (.slice none 0 0)).set 3 (.int .i64 0))
            have y0 := e0.cell 0
            have y1 := e0.cell 1
            have y2 := e0.cell 2
            have y3 := e0.cell 3
            simp only [zeroRun, List.set_cons_zero, List.set_cons_succ, List.getElem?_cons_zero, List.getElem?_cons_succ] at y0 y1 y2 y3
            simp [results, Try.results40, go_sem, y0, y1, y2, y3]
          · exact HEX.out.drewn
      exact trivial
    exact trivial
  refine wpTree_alt rfl ?_ ?_
  · go_wp2_with fail
    refine ⟨grew_below (hb_z.alloc hb_z.size _), ?_⟩
    refine wpTree_gen (fun y => Below z.heap.size z y ∧ Blk y z.heap.size (ints .u32 (List.replicate c.spills 0)) 42) ⟨(Below.refl _ _).alloc (Nat.le_refl _) _, heap_new1 _ _⟩ ?_
    rintro y11 ⟨hby, Fs_y11⟩
    have hb_y11 : Below W.heap.size W y11 := hb_z.trans (hby.mono hb_z.size)
    have t_y11 := Fs_y11.lt
    have s_y11 := hby.size
    have k_y11 : W.heap.size ≤ y11.heap.size := hb_y11.size
    clear hby
    refine wpTree_alt rfl ?_ ?_
    · go_wp2_with fail
      refine (rcopy_any qa ca cq cc0 arr ctx _ (HG.out.below (HWZ.out _ hb_y11)) (HCTX.out.below (HWZ.out _ hb_y11)) hn H1.out hc).mono ?_
      rintro e y12 ⟨v, τ, ab, ac, cb, cc, rfl, hgo, hcx, tcb, hcb, hby⟩
      obtain ⟨va, vc, rfl⟩ := grid_slice hgo
      have FC_y12 := copy_done hgo hcx tcb hcb hb_y11.size
      clear hgo hcx tcb hcb
      have hb_y12 : Below W.heap.size W y12 := hb_y11.trans (hby.mono hb_y11.size)
      have Fs_y12 := Fs_y11.below hby Fs_y11.lt
      go_wp2_with fail
      refine ⟨grew_below hb_y12, ?_⟩
      have s_y12 := hby.size
      have k_y12 : W.heap.size ≤ y12.heap.size := hb_y12.size
      clear hby
      refine wpTree_alt rfl ?_ ?_
      · go_wp2_with fail
        refine ⟨grew_below (hb_y12.alloc hb_y12.size _), ?_⟩
        refine wpTree_gen (fun y => Below y12.heap.size y12 y ∧ Blk y y12.heap.size (ints .u32 (List.replicate c.regs 0)) 42) ⟨(Below.refl _ _).alloc (Nat.le_refl _) _, heap_new1 _ _⟩ ?_
        rintro y13 ⟨hby, Fr_y13⟩
        have hb_y13 : Below W.heap.size W y13 := hb_y12.trans (hby.mono hb_y12.size)
        have t_y13 := Fr_y13.lt
        have FC_y13 := FC_y12.below hby
        have Fs_y13 := Fs_y12.below hby Fs_y12.lt
        have s_y13 := hby.size
        have k_y13 : W.heap.size ≤ y13.heap.size := hb_y13.size
        clear hby
        have l_r := Fr_y13.lt
        have l_s := Fs_y13.lt
        have l_c := FC_y13.hz
        have PP : Parts W.heap.size c arr ctx y12.heap.size z.heap.size cb cc va vc y13 := FC_y13.parts Fr_y13 Fs_y13 (by omega) (by omega) (by omega) (by omega) (by omega) hb_y13.size
        have HLF := Lib.hid (HLEAF.out _ _ _ _ _ _ y13 hb_y13 PP)
        have HZB := Lib.hid hb_y13
        have hzl := k_y13
        clear PP l_r l_s l_c
        refine wpTree_alt rfl ?_ trivial
        go_wp2_with fail
        refine ⟨grew_below (by first | exact HZB.out | exact HZB.out.alloc HZB.out.size _), ?_⟩
        refine wpTree_alt rfl ?_ trivial
        go_wp2_with fail
        refine ⟨grew_below (by first | exact HZB.out | exact HZB.out.alloc HZB.out.size _), ?_⟩
        refine wpTree_alt rfl ?_ trivial
        go_wp2_with fail
        refine ⟨grew_below (by first | exact HZB.out | exact HZB.out.alloc HZB.out.size _), ?_⟩
        show Exit.then _ _ _ _ _
        have kz := (HW.out.2.2.below HZB.out (by omega))
        have x3 : y13.cell? ⟨w.heap.size, 3, none⟩ = some (.slice codeA c.cd.length codeC) := kz.cell 3
        have lz : w.heap.size < y13.heap.size := kz.lt
        clear kz
        go_wp2_with fail
        refine HLF.out.mono ?_
        rintro e V ⟨hbV, hlV, hoo⟩
        rw [HO.out] at hoo
        clear x3
        cases o with
        | ok s =>
          obtain ⟨rfl, qa', cq', ca', cc', oa, oc, v5, v6, v12, v13, v14, hv⟩ := hoo
          obtain ⟨hr9, hex⟩ := rend_ok (n := c.cd.length) (by omega) HW.out.1 rfl HW.out.2.1 HZB.out hbV hv
          have z0 : V.cell? ⟨w.heap.size + 1 + 1 + 1, 0, none⟩ = some (.slice none 0 0) := hr9.cell 0
          have z1 : V.cell? ⟨w.heap.size + 1 + 1 + 1, 0 + 1, none⟩ = some (.slice none 0 0) := hr9.cell 1
          have z2 : V.cell? ⟨w.heap.size + 1 + 1 + 1, 0 + 1 + 1, none⟩ = some (.slice none 0 0) := hr9.cell 2
          have z3 : V.cell? ⟨w.heap.size + 1 + 1 + 1, 0 + 1 + 1 + 1, none⟩ = some (.int .i64 0) := hr9.cell 3
          have f0 := hr9.frozen 0
          have f1 := hr9.frozen (0 + 1)
          have f2 := hr9.frozen (0 + 1 + 1)
          have f3 := hr9.frozen (0 + 1 + 1 + 1)
          have HEX := Lib.hid hex
          clear hex hv hbV
          go_wp2_with fail
          refine wp_region_grew [3, 7, 11] [0, 1, 2, 4, 5, 6, 8, 9, 10, 12] [(2, 0), (2, 1), (2, 2), (2, 4), (2, 5), (2, 6), (2, 8), (2, 9), (2, 10), (1, 3), (1, 7), (1, 11), (2, 12), (0, 13), (0, 14)] (by kernel_rfl) (by kernel_rfl) (fun c a d v w h => by cases d <;> exact h) ?_
          simp only [getPlan, List.filterMap_cons, List.filterMap_nil, List.getElem?_toArray, List.getElem?_cons_succ, List.getElem?_cons_zero, Option.map_some]
          repeat ((first | refine wpPlan_pure (fun K hK => ?_) | refine wpPlan_float (fun K hK => ?_)); go_simp; refine hK _ ?_; clear hK K)
          refine wpPlan_tail (by kernel_rfl) ?_
          simp only [List.map_cons, List.map_nil]
          go_wp2
          refine bodyPost_ret (v := .tuple #[.agg #[.slice qa' s.arr.length cq', .slice ca' s.ctx.length cc', .slice oa s.out.length oc, .int .i64 s.steps], .int .i64 0]) ?_ rfl ?_
          · have e0 := ((((hr9.set 0 (.slice qa' s.arr.length cq')).set 1 (.slice ca' s.ctx.length cc')).set 2 (.slice oa s.out.length oc)).set 3 (.int .i64 s.steps))
            have y0 := e0.cell 0
            have y1 := e0.cell 1
            have y2 := e0.cell 2
            have y3 := e0.cell 3
            simp only [zeroRun, List.set_cons_zero, List.set_cons_succ, List.getElem?_cons_zero, List.getElem?_cons_succ] at y0 y1 y2 y3
            simp [results, Try.results40, go_sem, y0, y1, y2, y3]
          · exact HEX.out.drewn
        | left s => exact hoo.elim
        | err n =>
          obtain ⟨rfl, hne, v14⟩ := hoo
          have qn : (n == 0) = false := by simpa using hne
          obtain ⟨hr9, hex⟩ := rend_err (er := n) (by omega) HW.out.1 rfl HW.out.2.1 HZB.out hbV
          have z0 : V.cell? ⟨w.heap.size + 1 + 1 + 1, 0, none⟩ = some (.slice none 0 0) := hr9.cell 0
          have z1 : V.cell? ⟨w.heap.size + 1 + 1 + 1, 0 + 1, none⟩ = some (.slice none 0 0) := hr9.cell 1
          have z2 : V.cell? ⟨w.heap.size + 1 + 1 + 1, 0 + 1 + 1, none⟩ = some (.slice none 0 0) := hr9.cell 2
          have z3 : V.cell? ⟨w.heap.size + 1 + 1 + 1, 0 + 1 + 1 + 1, none⟩ = some (.int .i64 0) := hr9.cell 3
          have f0 := hr9.frozen 0
          have f1 := hr9.frozen (0 + 1)
          have f2 := hr9.frozen (0 + 1 + 1)
          have f3 := hr9.frozen (0 + 1 + 1 + 1)
          have HEX := Lib.hid hex
          have hcls : OneCls y13.heap.size 14 (.int .i64 n) V := v14
          have HCLS := Lib.hid hcls
          have _inst : Nonempty (CWorld (OneCls y13.heap.size 14 (.int .i64 n))) := ⟨⟨V, hcls⟩⟩
          have hob : w.heap.size + 1 + 1 + 1 ≠ y13.heap.size := by omega
          have HOB := Lib.hid hob
          clear hex hbV hcls hob
          go_wp2_with fail
          have p0 : ∀ p : CWorld (OneCls y13.heap.size 14 (.int .i64 n)), p.w.cell? ⟨y13.heap.size, 14, none⟩ = some (.int .i64 n) := fun p => p.h
          refine wp_region_mix (Cls (OneCls y13.heap.size 14 (.int .i64 n))) [4] [0, 1, 2, 3] [(2, 0), (2, 1), (2, 2), (2, 3), (1, 4), (0, 5), (0, 6)] (by kernel_rfl) (by kernel_rfl) (fun c a d v w h => by cases d <;> exact h) ⟨⟨V.drew, HCLS.out⟩, rfl⟩ ?_
          simp only [getPlan, List.filterMap_cons, List.filterMap_nil, List.getElem?_toArray, List.getElem?_cons_succ, List.getElem?_cons_zero, Option.map_some]
          repeat ((first | refine wpPlan_pure (fun K hK => ?_) | refine wpPlan_float (fun K hK => ?_)); go_simp; refine hK _ ?_; clear hK K)
          clear p0
          refine wpPlan_keep ?_
          go_wp2_with fail
          refine ⟨⟨CWorld.mk _ ?_, rfl⟩, ?_⟩
          · exact (((OneCls.set HCLS.out HOB.out 0 _).set HOB.out 1 _).set HOB.out 2 _).set HOB.out 3 _
          refine wpPlan_tail (by kernel_rfl) ?_
          simp only [List.map_cons, List.map_nil]
          go_wp2
          refine bodyPost_ret (v := .tuple #[.agg #[.slice none 0 0, .slice none 0 0, .slice none 0 0, .int .i64 0], .int .i64 n]) ?_ rfl ?_
          · have e0 := ((((hr9.set 0 (.slice none 0 0)).set 1 (.slice none 0 0)).set 2 (.slice none 0 0)).set 3 (.int .i64 0))
            have y0 := e0.cell 0
            have y1 := e0.cell 1
            have y2 := e0.cell 2
            have y3 := e0.cell 3
            simp only [zeroRun, List.set_cons_zero, List.set_cons_succ, List.getElem?_cons_zero, List.getElem?_cons_succ] at y0 y1 y2 y3
            simp [results, Try.results40, go_sem, y0, y1, y2, y3]
          · exact HEX.out.drewn
      exact trivial
    refine wpTree_alt rfl ?_ ?_
    · go_wp2_with fail
      refine ⟨grew_below (hb_y11.alloc hb_y11.size _), ?_⟩
      refine wpTree_gen (fun y => Below y11.heap.size y11 y ∧ Blk y y11.heap.size (ints .u32 (List.replicate c.regs 0)) 42) ⟨(Below.refl _ _).alloc (Nat.le_refl _) _, heap_new1 _ _⟩ ?_
      rintro y14 ⟨hby, Fr_y14⟩
      have hb_y14 : Below W.heap.size W y14 := hb_y11.trans (hby.mono hb_y11.size)
      have t_y14 := Fr_y14.lt
      have Fs_y14 := Fs_y11.below hby Fs_y11.lt
      have s_y14 := hby.size
      have k_y14 : W.heap.size ≤ y14.heap.size := hb_y14.size
      clear hby
      refine wpTree_alt rfl ?_ ?_
      · go_wp2_with fail
        refine (rcopy_any qa ca cq cc0 arr ctx _ (HG.out.below (HWZ.out _ hb_y14)) (HCTX.out.below (HWZ.out _ hb_y14)) hn H1.out hc).mono ?_
        rintro e y15 ⟨v, τ, ab, ac, cb, cc, rfl, hgo, hcx, tcb, hcb, hby⟩
        obtain ⟨va, vc, rfl⟩ := grid_slice hgo
        have FC_y15 := copy_done hgo hcx tcb hcb hb_y14.size
        clear hgo hcx tcb hcb
        have hb_y15 : Below W.heap.size W y15 := hb_y14.trans (hby.mono hb_y14.size)
        have Fr_y15 := Fr_y14.below hby Fr_y14.lt
        have Fs_y15 := Fs_y14.below hby Fs_y14.lt
        go_wp2_with fail
        refine ⟨grew_below hb_y15, ?_⟩
        have s_y15 := hby.size
        have k_y15 : W.heap.size ≤ y15.heap.size := hb_y15.size
        clear hby
        have l_r := Fr_y15.lt
        have l_s := Fs_y15.lt
        have l_c := FC_y15.hz
        have PP : Parts W.heap.size c arr ctx y11.heap.size z.heap.size cb cc va vc y15 := FC_y15.parts Fr_y15 Fs_y15 (by omega) (by omega) (by omega) (by omega) (by omega) hb_y15.size
        have HLF := Lib.hid (HLEAF.out _ _ _ _ _ _ y15 hb_y15 PP)
        have HZB := Lib.hid hb_y15
        have hzl := k_y15
        clear PP l_r l_s l_c
        refine wpTree_alt rfl ?_ trivial
        go_wp2_with fail
        refine ⟨grew_below (by first | exact HZB.out | exact HZB.out.alloc HZB.out.size _), ?_⟩
        refine wpTree_alt rfl ?_ trivial
        go_wp2_with fail
        refine ⟨grew_below (by first | exact HZB.out | exact HZB.out.alloc HZB.out.size _), ?_⟩
        refine wpTree_alt rfl ?_ trivial
        go_wp2_with fail
        refine ⟨grew_below (by first | exact HZB.out | exact HZB.out.alloc HZB.out.size _), ?_⟩
        show Exit.then _ _ _ _ _
        have kz := (HW.out.2.2.below HZB.out (by omega))
        have x3 : y15.cell? ⟨w.heap.size, 3, none⟩ = some (.slice codeA c.cd.length codeC) := kz.cell 3
        have lz : w.heap.size < y15.heap.size := kz.lt
        clear kz
        go_wp2_with fail
        refine HLF.out.mono ?_
        rintro e V ⟨hbV, hlV, hoo⟩
        rw [HO.out] at hoo
        clear x3
        cases o with
        | ok s =>
          obtain ⟨rfl, qa', cq', ca', cc', oa, oc, v5, v6, v12, v13, v14, hv⟩ := hoo
          obtain ⟨hr9, hex⟩ := rend_ok (n := c.cd.length) (by omega) HW.out.1 rfl HW.out.2.1 HZB.out hbV hv
          have z0 : V.cell? ⟨w.heap.size + 1 + 1 + 1, 0, none⟩ = some (.slice none 0 0) := hr9.cell 0
          have z1 : V.cell? ⟨w.heap.size + 1 + 1 + 1, 0 + 1, none⟩ = some (.slice none 0 0) := hr9.cell 1
          have z2 : V.cell? ⟨w.heap.size + 1 + 1 + 1, 0 + 1 + 1, none⟩ = some (.slice none 0 0) := hr9.cell 2
          have z3 : V.cell? ⟨w.heap.size + 1 + 1 + 1, 0 + 1 + 1 + 1, none⟩ = some (.int .i64 0) := hr9.cell 3
          have f0 := hr9.frozen 0
          have f1 := hr9.frozen (0 + 1)
          have f2 := hr9.frozen (0 + 1 + 1)
          have f3 := hr9.frozen (0 + 1 + 1 + 1)
          have HEX := Lib.hid hex
          clear hex hv hbV
          go_wp2_with fail
          refine wp_region_grew [3, 7, 11] [0, 1, 2, 4, 5, 6, 8, 9, 10, 12] [(2, 0), (2, 1), (2, 2), (2, 4), (2, 5), (2, 6), (2, 8), (2, 9), (2, 10), (1, 3), (1, 7), (1, 11), (2, 12), (0, 13), (0, 14)] (by kernel_rfl) (by kernel_rfl) (fun c a d v w h => by cases d <;> exact h) ?_
          simp only [getPlan, List.filterMap_cons, List.filterMap_nil, List.getElem?_toArray, List.getElem?_cons_succ, List.getElem?_cons_zero, Option.map_some]
          repeat ((first | refine wpPlan_pure (fun K hK => ?_) | refine wpPlan_float (fun K hK => ?_)); go_simp; refine hK _ ?_; clear hK K)
          refine wpPlan_tail (by kernel_rfl) ?_
          simp only [List.map_cons, List.map_nil]
          go_wp2
          refine bodyPost_ret (v := .tuple #[.agg #[.slice qa' s.arr.length cq', .slice ca' s.ctx.length cc', .slice oa s.out.length oc, .int .i64 s.steps], .int .i64 0]) ?_ rfl ?_
          · have e0 := ((((hr9.set 0 (.slice qa' s.arr.length cq')).set 1 (.slice ca' s.ctx.length cc')).set 2 (.slice oa s.out.length oc)).set 3 (.int .i64 s.steps))
            have y0 := e0.cell 0
            have y1 := e0.cell 1
            have y2 := e0.cell 2
            have y3 := e0.cell 3
            simp only [zeroRun, List.set_cons_zero, List.set_cons_succ, List.getElem?_cons_zero, List.getElem?_cons_succ] at y0 y1 y2 y3
            simp [results, Try.results40, go_sem, y0, y1, y2, y3]
          · exact HEX.out.drewn
        | left s => exact hoo.elim
        | err n =>
          obtain ⟨rfl, hne, v14⟩ := hoo
          have qn : (n == 0) = false := by simpa using hne
          obtain ⟨hr9, hex⟩ := rend_err (er := n) (by omega) HW.out.1 rfl HW.out.2.1 HZB.out hbV
          have z0 : V.cell? ⟨w.heap.size + 1 + 1 + 1, 0, none⟩ = some (.slice none 0 0) := hr9.cell 0
          have z1 : V.cell? ⟨w.heap.size + 1 + 1 + 1, 0 + 1, none⟩ = some (.slice none 0 0) := hr9.cell 1
          have z2 : V.cell? ⟨w.heap.size + 1 + 1 + 1, 0 + 1 + 1, none⟩ = some (.slice none 0 0) := hr9.cell 2
          have z3 : V.cell? ⟨w.heap.size + 1 + 1 + 1, 0 + 1 + 1 + 1, none⟩ = some (.int .i64 0) := hr9.cell 3
          have f0 := hr9.frozen 0
          have f1 := hr9.frozen (0 + 1)
          have f2 := hr9.frozen (0 + 1 + 1)
          have f3 := hr9.frozen (0 + 1 + 1 + 1)
          have HEX := Lib.hid hex
          have hcls : OneCls y15.heap.size 14 (.int .i64 n) V := v14
          have HCLS := Lib.hid hcls
          have _inst : Nonempty (CWorld (OneCls y15.heap.size 14 (.int .i64 n))) := ⟨⟨V, hcls⟩⟩
          have hob : w.heap.size + 1 + 1 + 1 ≠ y15.heap.size := by omega
          have HOB := Lib.hid hob
          clear hex hbV hcls hob
          go_wp2_with fail
          have p0 : ∀ p : CWorld (OneCls y15.heap.size 14 (.int .i64 n)), p.w.cell? ⟨y15.heap.size, 14, none⟩ = some (.int .i64 n) := fun p => p.h
          refine wp_region_mix (Cls (OneCls y15.heap.size 14 (.int .i64 n))) [4] [0, 1, 2, 3] [(2, 0), (2, 1), (2, 2), (2, 3), (1, 4), (0, 5), (0, 6)] (by kernel_rfl) (by kernel_rfl) (fun c a d v w h => by cases d <;> exact h) ⟨⟨V.drew, HCLS.out⟩, rfl⟩ ?_
          simp only [getPlan, List.filterMap_cons, List.filterMap_nil, List.getElem?_toArray, List.getElem?_cons_succ, List.getElem?_cons_zero, Option.map_some]
          repeat ((first | refine wpPlan_pure (fun K hK => ?_) | refine wpPlan_float (fun K hK => ?_)); go_simp; refine hK _ ?_; clear hK K)
          clear p0
          refine wpPlan_keep ?_
          go_wp2_with fail
          refine ⟨⟨CWorld.mk _ ?_, rfl⟩, ?_⟩
          · exact (((OneCls.set HCLS.out HOB.out 0 _).set HOB.out 1 _).set HOB.out 2 _).set HOB.out 3 _
          refine wpPlan_tail (by kernel_rfl) ?_
          simp only [List.map_cons, List.map_nil]
          go_wp2
          refine bodyPost_ret (v := .tuple #[.agg #[.slice none 0 0, .slice none 0 0, .slice none 0 0, .int .i64 0], .int .i64 n]) ?_ rfl ?_
          · have e0 := ((((hr9.set 0 (.slice none 0 0)).set 1 (.slice none 0 0)).set 2 (.slice none 0 0)).set 3 (.int .i64 0))
            have y0 := e0.cell 0
            have y1 := e0.cell 1
            have y2 := e0.cell 2
            have y3 := e0.cell 3
            simp only [zeroRun, List.set_cons_zero, List.set_cons_succ, List.getElem?_cons_zero, List.getElem?_cons_succ] at y0 y1 y2 y3
            simp [results, Try.results40, go_sem, y0, y1, y2, y3]
          · exact HEX.out.drewn
      exact trivial
    exact trivial
  exact trivial
end Go.Proofs.Ytefdnjhhaejgbaa
