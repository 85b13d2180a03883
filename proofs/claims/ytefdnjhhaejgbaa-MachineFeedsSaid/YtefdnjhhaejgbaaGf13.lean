/- A part of the proof of MachineFeeds: M N Rt Rs Ru M2. No condition. -/
import Derived.Laws.MakeOwn
import Derived.Test.YtefdnjhhaejgbaaGf12
import Derived.Test.YtefdnjhhaejgbaaGf02
import Derived.Test.YtefdnjhhaejgbaaGf04
set_option linter.unusedSimpArgs false
set_option linter.unusedVariables false
namespace Go.Proofs.Ytefdnjhhaejgbaa
open Go.RowKit
set_option linter.unusedVariables false
theorem madeCells_one (z : Value) (n : Nat) : madeCells #[z] n = (List.replicate n z).toArray := by
  apply Array.ext
  · simp [madeCells]
  · intro i h1 h2
    simp [madeCells] at h1
    simp [madeCells]
    have : i % 1 = 0 := Nat.mod_one i
    simp [this]
theorem run_make_u32 (n : Nat) (hn : n ≤ 65536) (w : World) :
    (Instr.makeSlice 29 (.int .i64 (n : Int)) (.int .i64 (n : Int))).run Try.prog w = .ok (.slice (some ⟨w.heap.size, 0, none⟩) n n) (w.alloc (.cells (ints .u32 (List.replicate n 0)).toArray 42)) := by
  obtain ⟨i, hi, hz, h2, h3⟩ := info_parts Try.elU32.info
  rw [run_make w _ _ i (.int .u32 0) Try.underlying29 hi hz .i64 .i64 n n (by omega) (by omega) (by rw [h3]; omega) (by omega)]
  simp only [Int.toNat_natCast, h2, Nat.mul_one, ints, List.map_replicate]
  have : (Value.int .u32 0).cells = #[.int .u32 0] := rfl
  rw [this, madeCells_one]
def MC.init (c : MC) (arr : List (List Int)) (ctx : List Int) : PS := ⟨List.replicate c.regs 0, List.replicate c.spills 0, arr, ctx, [], [], 0, 0⟩
def RunsTo (c : MC) (s0 : PS) (r : Except Int PS) : Prop :=
  ∃ (Inv : PS → Prop) (μ : PS → Nat) (fin : PS → Except Int PS), (∀ s, Inv s → Fine c s) ∧
    (∀ s, Inv s → s.pc < c.cd.length → chkI c.regs c.spills c.ars.length (c.cd.getD s.pc default) = 0 ∧ (0 ≤ (c.cd.getD s.pc default).arg ∧ (c.cd.getD s.pc default).arg < 4294967296) ∧
      ((c.cd.getD s.pc default).op = 30 → s.loops ≠ []) ∧ ((c.cd.getD s.pc default).op = 29 → s.loops.length < 16)) ∧
    (∀ s s', Inv s → s.pc < c.cd.length → mstep c s = .ok s' → Inv s' ∧ μ s' < μ s) ∧
    (∀ s, Inv s → fin s = if s.pc < c.cd.length then (mstep c s).bind fin else .ok s) ∧ Inv s0 ∧ fin s0 = r ∧ (∀ s, r = .ok s → Inv s)
def RunVal (w : World) (s : PS) (v : Value) : Prop :=
  ∃ qa cq ca cc oa oc, v = .agg #[.slice qa s.arr.length cq, .slice ca s.ctx.length cc, .slice oa s.out.length oc, .int .i64 s.steps] ∧ GridAt w qa s.arr ∧ NumsAt w ca s.ctx ∧
    RowB w.heap.size w 1 oa s.out.length (fun j _ => .int .u8 (s.out.getD j 0))
def zeroRunV : Value := .agg #[.slice none 0 0, .slice none 0 0, .slice none 0 0, .int .i64 0]
def ExecPost (w : World) (r : Except Int PS) (e : Ending) (w' : World) : Prop :=
  Below w.heap.size w w' ∧ match r with
  | .ok s => ∃ v, e = .returned (.tuple #[v, .int .i64 0]) ∧ ∀ w2 : World, (∀ k, w.heap.size ≤ k → w2.heap[k]? = w'.heap[k]?) → w2.heap.size = w'.heap.size → RunVal w2 s v
  | .error n => e = .returned (.tuple #[zeroRunV, .int .i64 n])
structure Parts (B : Nat) (c : MC) (arr : List (List Int)) (ctx : List Int) (rb sb cb cc : Nat) (va : Option Addr) (vc : Nat) (w : World) : Prop where
  grid : ∃ lo hi τ ab ac, B ≤ lo ∧ GridOwn lo τ arr ab ac (.slice va arr.length vc) w ∧ τ cb = 3 ∧ lo ≤ cb ∧ cb < hi ∧ (∀ k, k < arr.length → ab k < hi) ∧ (∀ x, (Value.slice va arr.length vc).ownBlock = some x → x < hi) ∧ hi ≤ w.heap.size ∧ (rb < lo ∨ hi ≤ rb) ∧ (sb < lo ∨ hi ≤ sb)
  ctx : ∃ t, Blk w cb (ints .u32 ctx ++ t) 42
  reg : Blk w rb (ints .u32 (List.replicate c.regs 0)) 42
  spl : Blk w sb (ints .u32 (List.replicate c.spills 0)) 42
  ne : rb ≠ sb
  br : B ≤ rb
  bs : B ≤ sb
  bB : B ≤ w.heap.size
theorem own_cells {w : World} {base : Nat} {e : TypeId} {va : Option Addr} {n vc : Nat} {xs : List Value} (h : w.ownsRow base e 1 (.slice va n vc) n xs) (hx : xs.length = n) {k : Nat} (hk : k < n) :
    ∃ g, va = some ⟨g, 0, none⟩ ∧ (Value.slice va n vc).ownBlock = some g ∧ w.cell? ⟨g, 0 + k, none⟩ = xs[k]? ∧ g < w.heap.size := by
  rcases h.2 with ⟨h1, h2⟩ | ⟨g', cc', cur, hv, hb, hgg, hle, hmx, hcs, htk⟩
  · omega
  · simp only [Value.slice.injEq] at hv
    obtain ⟨rfl, _, rfl⟩ := hv
    refine ⟨g', rfl, rfl, ?_, (Array.getElem?_eq_some_iff.1 hgg).1⟩
    have : cur.toList.take (n * 1) = xs := htk
    rw [← this]
    simp [World.cell?, hgg]
    rw [List.getElem?_take_of_lt (by omega)]
    simp
theorem Parts.rep {B B0 : Nat} (hBB : B0 ≤ B) {c : MC} {arr : List (List Int)} {ctx : List Int} {rb sb cb cc : Nat} {va : Option Addr} {vc : Nat} {w : World} (h : Parts B c arr ctx rb sb cb cc va vc w)
    {arsA codeA ptA : Option Addr} {arsC codeC ptC : Nat} (h1 : RowB B0 w 5 codeA c.cd.length fun i j => (c.cd.getD i default).cell j) (h2 : RowB B0 w 1 ptA c.pt.length fun i _ => .int .i64 (c.pt.getD i 0 : Nat))
    (h3 : RowB B0 w 2 arsA c.ars.length fun i j => (c.ars.getD i default).cell j) :
    ∃ L τ w', w' = w.alloc (.cells (mcells L c (c.init arr ctx) (.slice none 0 0) (.slice none 0 0)).toArray 101) ∧ L.mb = w.heap.size ∧ L.rb = rb ∧ L.sb = sb ∧ L.cb = cb ∧ L.ccap = cc ∧ L.arsA = arsA ∧ L.arsC = arsC ∧ L.codeA = codeA ∧ L.codeC = codeC ∧ L.ptA = ptA ∧ L.ptC = ptC ∧
      L.arrA = va ∧ L.arrC = vc ∧ (∀ x, x < B → τ x = 1000) ∧ Rep B0 L c (c.init arr ctx) τ (.slice none 0 0) (.slice none 0 0) w' := by
  obtain ⟨lo, hi, τ, ab, ac, hlo, hg, tcb, cb1, cb2, hab, hown, hhi, hrb, hsb⟩ := h.grid
  obtain ⟨tc, hctx⟩ := h.ctx
  have hne := h.ne
  have rl := h.reg.lt
  have sl := h.spl.lt
  refine ⟨⟨w.heap.size, rb, sb, cb, ab, ac, cc, arsA, arsC, codeA, codeC, ptA, ptC, va, vc⟩, fun x => if x = w.heap.size then 0 else if x = rb then 1 else if x = sb then 2 else if lo ≤ x ∧ x < hi then τ x else 1000, _, rfl, rfl, rfl, rfl, rfl, rfl, rfl, rfl, rfl, rfl, rfl, rfl, rfl, rfl, ?_, ?_⟩
  · intro x hx
    have h5 := h.br
    have h6 := h.bs
    have h7 := h.bB
    show (if x = w.heap.size then 0 else if x = rb then 1 else if x = sb then 2 else if lo ≤ x ∧ x < hi then τ x else 1000) = _
    rw [if_neg (by omega), if_neg (by omega), if_neg (by omega), if_neg (by omega)]
  have hb : Below w.heap.size w (w.alloc (.cells (mcells ⟨w.heap.size, rb, sb, cb, ab, ac, cc, arsA, arsC, codeA, codeC, ptA, ptC, va, vc⟩ c (c.init arr ctx) (.slice none 0 0) (.slice none 0 0)).toArray 101)) := (Below.refl _ _).alloc (Nat.le_refl _) _
  have hbB := hb.mono (Nat.le_trans hBB h.bB)
  have old : ∀ x, lo ≤ x → x < hi → x ≠ w.heap.size ∧ x ≠ rb ∧ x ≠ sb := fun x h4 h5 => ⟨by omega, by rcases hrb with h | h <;> omega, by rcases hsb with h | h <;> omega⟩
  exact {
    ro := ⟨h1.below hbB, h2.below hbB, h3.below hbB⟩
    hB := by have := h.bB; simp; omega
    mac := heap_new1 _ _
    reg := h.reg.below hb rl
    spl := h.spl.below hb sl
    ctx := ⟨tc, hctx.below hb hctx.lt⟩
    arr := fun k hk => by
      obtain ⟨t, ht⟩ := hg.blk k hk
      exact ⟨t, ht.below hb ht.lt⟩
    outer := fun k hk => by
      obtain ⟨g, hva, hgo, hc, hgl⟩ := own_cells hg.own (by simp) hk
      have hr := old g (hg.own.lt g hgo).1 (hown g hgo)
      refine ⟨g, 0, hva, ?_, Nat.lt_of_lt_of_le hgl hb.size, ?_⟩
      · show (if _ then _ else if _ then _ else if _ then _ else if _ then _ else _) = _
        rw [if_neg hr.1, if_neg hr.2.1, if_neg hr.2.2, if_pos ⟨(hg.own.lt g hgo).1, hown g hgo⟩]; exact hg.to g hgo
      · rw [hb.cell (p := ⟨g, 0 + k, none⟩) hgl, hc]
        have hk' : k < arr.length := hk
        simp [hk', MC.init]
    lown := World.ownsRow_nil _ _ _ _
    oown := World.ownsRow_nil _ _ _ _
    tm := if_pos rfl
    tr := by show (if rb = w.heap.size then 0 else if rb = rb then 1 else if rb = sb then 2 else if lo ≤ rb ∧ rb < hi then τ rb else 1000) = _; rw [if_neg (by omega), if_pos rfl]
    ts := by show (if sb = w.heap.size then 0 else if sb = rb then 1 else if sb = sb then 2 else if lo ≤ sb ∧ sb < hi then τ sb else 1000) = _; rw [if_neg (by omega), if_neg (Ne.symm hne), if_pos rfl]
    tc := by have hr := old cb cb1 cb2; show (if _ then _ else if _ then _ else if _ then _ else if _ then _ else _) = _; rw [if_neg hr.1, if_neg hr.2.1, if_neg hr.2.2, if_pos ⟨cb1, cb2⟩]; exact tcb
    ta := fun k hk => by have hr := old (ab k) (hg.ba k hk) (hab k hk); show (if _ then _ else if _ then _ else if _ then _ else if _ then _ else _) = _; rw [if_neg hr.1, if_neg hr.2.1, if_neg hr.2.2, if_pos ⟨hg.ba k hk, hab k hk⟩]; exact hg.ta k hk
    tl := fun g hg => by simp [Value.ownBlock] at hg
    to := fun g hg => by simp [Value.ownBlock] at hg
    bm := Nat.le_trans hBB h.bB
    br := Nat.le_trans hBB h.br
    bs := Nat.le_trans hBB h.bs
    bc := by show B0 ≤ cb; omega
    ba := fun k hk => by have := hg.ba k hk; show B0 ≤ ab k; omega }
theorem own_fits {w : World} {B : Nat} {va : Option Addr} {n vc : Nat} {xs : List Value} {e : TypeId} (h : w.ownsRow B e 1 (.slice va n vc) n xs) (hx : xs.length = n) : RowB w.heap.size w 1 va n (fun j _ => xs.getD j undef) := by
  intro j hj
  obtain ⟨g, h1, _, h3, h4⟩ := own_cells h hx hj
  refine ⟨g, 0, h1, h4, fun i hi => ?_⟩
  have : i = 0 := by omega
  subst this
  simp only [Nat.mul_one, Nat.add_zero]
  rw [h3]
  simp [List.getD_eq_getElem?_getD, hx, hj]
theorem Rep.val {B : Nat} {L : Lay} {c : MC} {s : PS} {τ : Nat → Nat} {lv ov : Value} {w : World} (h : Rep B L c s τ lv ov w) :
    RunVal w s (.agg #[.slice L.arrA s.arr.length L.arrC, .slice (some ⟨L.cb, 0, none⟩) s.ctx.length L.ccap, ov, .int .i64 s.steps]) := by
  obtain ⟨oa, oc, rfl⟩ : ∃ oa oc, ov = .slice oa s.out.length oc := by
    rcases h.oown.2 with ⟨h1, h2⟩ | ⟨g, cc, cur, h1, _⟩
    · exact ⟨none, 0, by rw [h1, h2]⟩
    · exact ⟨_, cc, h1⟩
  refine ⟨_, _, _, _, oa, oc, rfl, ?_, ?_, ?_⟩
  · intro k hk
    obtain ⟨q, qo, h1, h2, h3, h4⟩ := h.outer k hk
    refine ⟨q, qo, _, _, h1, h4, L.ab k, 0, rfl, fun j hj => ?_⟩
    obtain ⟨t, ht⟩ := h.arr k hk
    rw [Nat.zero_add, ht.cell, ints_get_app hj]
  · refine ⟨L.cb, 0, rfl, fun j hj => ?_⟩
    obtain ⟨t, ht⟩ := h.ctx
    rw [Nat.zero_add, ht.cell, ints_get_app hj]
  · intro j hj
    obtain ⟨b, off, h1, h2, h3⟩ := own_fits h.oown (by simp [ints]) j hj
    refine ⟨b, off, h1, h2, fun i hi => ?_⟩
    rw [h3 i hi]
    simp [ints, List.getD_eq_getElem?_getD, hj]
theorem Rep.val_other {B : Nat} {L : Lay} {c : MC} {s : PS} {τ : Nat → Nat} {lv ov : Value} {w w2 : World} (h : Rep B L c s τ lv ov w) {B1 : Nat} (ht : ∀ x, x < B1 → 1000 ≤ τ x) (hn : s.arr.length ≤ 900) (hw : ∀ k, B1 ≤ k → w2.heap[k]? = w.heap[k]?) (hs : w2.heap.size = w.heap.size) :
    RunVal w2 s (.agg #[.slice L.arrA s.arr.length L.arrC, .slice (some ⟨L.cb, 0, none⟩) s.ctx.length L.ccap, ov, .int .i64 s.steps]) := by
  have same : ∀ x t, τ x = t → t < 1000 → w2.heap[x]? = w.heap[x]? := fun x t hx h1 => hw x (by
    by_cases hlt : x < B1
    · have := ht x hlt; omega
    · omega)
  obtain ⟨oa, oc, rfl⟩ : ∃ oa oc, ov = .slice oa s.out.length oc := by
    rcases h.oown.2 with ⟨h1, h2⟩ | ⟨g, cc, cur, h1, _⟩
    · exact ⟨none, 0, by rw [h1, h2]⟩
    · exact ⟨_, cc, h1⟩
  refine ⟨_, _, _, _, oa, oc, rfl, ?_, ?_, ?_⟩
  · intro k hk
    obtain ⟨q, qo, h1, h2, h3, h4⟩ := h.outer k hk
    refine ⟨q, qo, _, _, h1, by rw [World.cell?_of_block (same q 4 h2 (by omega))]; exact h4, L.ab k, 0, rfl, fun j hj => ?_⟩
    obtain ⟨t, ht⟩ := h.arr k hk
    rw [Nat.zero_add, World.cell?_of_block (same _ _ (h.ta k hk) (by omega)), ht.cell, ints_get_app hj]
  · refine ⟨L.cb, 0, rfl, fun j hj => ?_⟩
    obtain ⟨t, ht⟩ := h.ctx
    rw [Nat.zero_add, World.cell?_of_block (same _ _ h.tc (by omega)), ht.cell, ints_get_app hj]
  · intro j hj
    obtain ⟨g, h1, h2, h3, h4⟩ := own_cells h.oown (by simp [ints]) hj
    refine ⟨g, 0, h1, by rw [hs]; exact h4, fun i hi => ?_⟩
    have : i = 0 := by omega
    subst this
    simp only [Nat.mul_one, Nat.add_zero]
    rw [World.cell?_of_block (same g 6 (h.to g h2) (by omega)), h3]
    simp [ints, List.getD_eq_getElem?_getD, hj]
theorem RunVal.below {w w' : World} {s : PS} {v : Value} (h : RunVal w s v) (hb : Below w.heap.size w w') : RunVal w' s v := by
  obtain ⟨qa, cq, ca, cc, oa, oc, rfl, h1, h2, h3⟩ := h
  exact ⟨qa, cq, ca, cc, oa, oc, rfl, h1.below hb, h2.below hb, (h3.below hb).mono hb.size⟩
def LeafPost (B0 B : Nat) (z : World) (r : Except Int PS) (e : Ending) (w' : World) : Prop :=
  Below B0 z w' ∧ (∀ k, k < B → w'.heap[k]? = z.heap[k]?) ∧ match r with
  | .ok s => ∃ qa cq ca cc oa oc, e = .returned (.tuple #[.agg #[.slice qa s.arr.length cq, .slice ca s.ctx.length cc, .slice oa s.out.length oc, .int .i64 s.steps], .int .i64 0]) ∧
      ∀ w2 : World, (∀ k, B ≤ k → w2.heap[k]? = w'.heap[k]?) → w2.heap.size = w'.heap.size → RunVal w2 s (.agg #[.slice qa s.arr.length cq, .slice ca s.ctx.length cc, .slice oa s.out.length oc, .int .i64 s.steps])
  | .error n => e = .returned (.tuple #[zeroRunV, .int .i64 n])
theorem guard_leaf {c : MC} {arr : List (List Int)} {ctx : List Int} {r : Except Int PS} (hr : RunsTo c (c.init arr ctx) r) {B B0 : Nat} (hBB : B0 ≤ B) {rb sb cb cc : Nat} {va : Option Addr} {vc : Nat} {w : World} (h : Parts B c arr ctx rb sb cb cc va vc w)
    {arsA codeA ptA : Option Addr} {arsC codeC ptC : Nat} (h1 : RowB B0 w 5 codeA c.cd.length fun i j => (c.cd.getD i default).cell j) (h2 : RowB B0 w 1 ptA c.pt.length fun i _ => .int .i64 (c.pt.getD i 0 : Nat))
    (h3 : RowB B0 w 2 arsA c.ars.length fun i j => (c.ars.getD i default).cell j) (hn : arr.length ≤ 8) :
    Calls Try.prog 53 #[.func (.func 54) #[.pointer (some ⟨w.heap.size, 0, none⟩)] #[]]
      (w.alloc (.cells #[.slice arsA c.ars.length arsC, .int .i64 c.regs, .int .i64 c.spills, .slice codeA c.cd.length codeC, .slice ptA c.pt.length ptC, .slice va arr.length vc,
   .slice (some ⟨cb, 0, none⟩) ctx.length cc, .int .u32 c.input, .bool c.ended, .int .i64 c.fuel, .slice (some ⟨rb, 0, none⟩) c.regs c.regs, .slice (some ⟨sb, 0, none⟩) c.spills c.spills,
   .slice none 0 0, .slice none 0 0, .int .i64 0, .int .i64 0] 101)) (LeafPost B0 B w r) := by
  obtain ⟨L, τ, w', hw', e1, e2, e3, e4, e5, e6, e7, e8, e9, e10, e11, e12, e13, htau, R⟩ := h.rep hBB (arsC := arsC) (codeC := codeC) (ptC := ptC) h1 h2 h3
  have hlit : w' = (w.alloc (.cells #[.slice arsA c.ars.length arsC, .int .i64 c.regs, .int .i64 c.spills, .slice codeA c.cd.length codeC, .slice ptA c.pt.length ptC, .slice va arr.length vc,
   .slice (some ⟨cb, 0, none⟩) ctx.length cc, .int .u32 c.input, .bool c.ended, .int .i64 c.fuel, .slice (some ⟨rb, 0, none⟩) c.regs c.regs, .slice (some ⟨sb, 0, none⟩) c.spills c.spills,
   .slice none 0 0, .slice none 0 0, .int .i64 0, .int .i64 0] 101)) := by
    rw [hw']; simp [mcells, MC.init, e2, e3, e4, e5, e6, e7, e8, e9, e10, e11, e12, e13]
  rw [← hlit, ← e1]
  obtain ⟨Inv, μ, fin, hF, hI, hS, hfin, hi0, rfl, hok⟩ := hr
  have hrun : ∀ τ1 w1, Rep B0 L c (c.init arr ctx) τ1 (.slice none 0 0) (.slice none 0 0) w1 → Calls Try.prog 54 #[.pointer (some ⟨L.mb, 0, none⟩)] w1 (RunPost B0 L c τ1 w1 (fin (c.init arr ctx))) :=
    fun τ1 w1 R1 => run_any Inv μ fin hF hI hS hfin R1 hi0
  have hbz : Below w.heap.size w w' := by rw [hw']; exact (Below.refl _ _).alloc (Nat.le_refl _) _
  have hB := h.bB
  generalize hf : fin (c.init arr ctx) = r at hrun hok
  cases r with
  | error n =>
    refine (guarded_err R hrun).mono ?_
    rintro e w'' ⟨hb, hfo, he⟩
    refine ⟨(hbz.mono (by omega)).trans hb, fun k hk => ?_, he⟩
    rw [hfo k (by have := hbz.size; omega) (by rw [htau k hk]; omega), hbz.block k (by omega)]
  | ok s =>
    have F := hF s (hok s rfl)
    refine (guarded_ok R (fun s' hs' => by have := F.arr; have := F.amax; omega) hrun).mono ?_
    rintro e w'' ⟨hb, hfo, τ', lv, ov, R', htg, he⟩
    obtain ⟨oa, oc, rfl⟩ : ∃ oa oc, ov = .slice oa s.out.length oc := by
      rcases R'.oown.2 with ⟨h1, h2⟩ | ⟨g, cc, cur, h1, _⟩
      · exact ⟨none, 0, by rw [h1, h2]⟩
      · exact ⟨_, cc, h1⟩
    refine ⟨(hbz.mono (by omega)).trans hb, fun k hk => ?_, _, _, _, _, oa, oc, he, fun w2 h5 h6 => ?_⟩
    · rw [hfo k (by have := hbz.size; omega) (by rw [htau k hk]; omega), hbz.block k (by omega)]
    · have ht : ∀ x, x < B → 1000 ≤ τ' x := fun x hx => by rw [htg x (by have := hbz.size; omega) (by rw [htau x hx]; omega), htau x hx]; omega
      exact R'.val_other ht (by have := F.arr; have := F.amax; omega) h5 h6
end Go.Proofs.Ytefdnjhhaejgbaa

namespace Go.Proofs.Ytefdnjhhaejgbaa
open Go.RowKit
set_option linter.unusedVariables false
def zeros (ars : List Ar) : List (List Int) := ars.map fun a => List.replicate a.size.toNat 0
theorem zeros_getD (ars : List Ar) (k : Nat) (hk : k < ars.length) : (zeros ars).getD k [] = List.replicate (ars.getD k default).size.toNat 0 := by
  simp [zeros, List.getD_eq_getElem?_getD, hk]
theorem zeros_take (ars : List Ar) (k : Nat) (hk : k < ars.length) : (zeros ars).take (k + 1) = (zeros ars).take k ++ [List.replicate (ars.getD k default).size.toNat 0] := by
  rw [List.take_succ_eq_append_getElem (by simpa [zeros] using hk)]
  simp [zeros, List.getD_eq_getElem?_getD, hk]
theorem run_make_16 (w : World) : (Instr.makeSlice 29 (.int .i64 16) (.int .i64 16)).run Try.prog w = .ok (.slice (some ⟨w.heap.size, 0, none⟩) 16 16) (w.alloc (.cells (ints .u32 (List.replicate 16 0)).toArray 42)) := run_make_u32 16 (by omega) w
theorem wpPlan_gen {P : Program} {md : Region.Mode} {ops : Array Oper} {Q : Exit → Act → World → Prop} {S : World → Prop} {fl : List Nat} {l : List (Nat × Nat × Oper)} {a : Act} {w : World} (F : World → Prop) (hF : F w) (h : ∀ w', F w' → wpPlan P md ops Q S fl l a w') :
    wpPlan P md ops Q S fl l a w := h w hF
set_option maxRecDepth 100000 in
set_option maxHeartbeats 1000000 in
theorem start_any (qa : Option Addr) (cq : Nat) (ars : List Ar) (w : World) (hars : RowB w.heap.size w 2 qa ars.length fun i j => (ars.getD i default).cell j)
    (hn : ars.length ≤ 8) (h1 : ∀ a ∈ ars, 1 ≤ a.size ∧ a.size ≤ 65536) :
    Calls Try.prog 30 #[.slice qa ars.length cq] w (CopyPost w (zeros ars) (List.replicate 16 0)) := by
  have m16 := run_make_16
  have HARS := Lib.hid hars
  have H1 := Lib.hid h1
  clear hars h1
  have start : ∀ wr, wr = ((w.alloc (.cells #[.slice none 0 0, .slice none 0 0] 31)).alloc (.cells (ints .u32 (List.replicate 16 0)).toArray 42)).alloc (.cells #[.slice none 0 0, .slice (some ⟨w.heap.size + 1, 0, none⟩) 16 16] 31) →
      CopyRel w (zeros ars) (List.replicate 16 0) w.heap.size (w.heap.size + 1 + 1) (w.heap.size + 1) 16 (.int .i64 0) wr := by
    rintro wr rfl
    refine ⟨0, fun x => if x = w.heap.size + 1 then 3 else if x = w.heap.size then 2000 else 2001, fun _ => 0, fun _ => 0, .slice none 0 0, rfl, ⟨by omega, ⟨?_, fun k hk => by simp at hk, fun k hk => by simp at hk, fun g hg => by simp [Value.ownBlock] at hg, fun k hk => by simp at hk⟩, ?_, ?_, ⟨[], ?_⟩, by simp, ?_, ?_, by omega, by omega, by omega, ((((Below.refl _ _).alloc (by simp) _).alloc (by simp) _).alloc (by simp; omega) _)⟩⟩
    · exact World.ownsRow_nil _ _ _ _
    · have := heap_new1 ((w.alloc (.cells #[.slice none 0 0, .slice none 0 0] 31)).alloc (.cells (ints .u32 (List.replicate 16 0)).toArray 42)) (.cells #[.slice none 0 0, .slice (some ⟨w.heap.size + 1, 0, none⟩) 16 16] 31)
      unfold Blk
      simpa using this
    · unfold Blk
      rw [Below.heap_alloc _ _ _ (by simp; omega), Below.heap_alloc _ _ _ (by simp)]
      exact heap_new1 _ _
    · unfold Blk
      rw [Below.heap_alloc _ _ _ (by simp), List.append_nil]
      exact heap_new2 _ _ _
    · rw [if_neg (by omega)]; simp
    · rw [if_neg (by omega), if_neg (by omega)]
  have HST := Lib.hid start
  clear start
  go_enter Try.func30, Try.ntmps30
  go_wp2_with fail
  go_loopw [10] (fun i wr => CopyRel w (zeros ars) (List.replicate 16 0) w.heap.size (w.heap.size + 1 + 1) (w.heap.size + 1) 16 i wr) (fun i _ => ars.length - (intOf i).toNat)
  case atStart => exact HST.out _ rfl
  case round =>
    obtain ⟨k, τ, ab, ac, v, rfl, CA⟩ := hrel
    have hzl : (zeros ars).length = ars.length := by simp [zeros]
    by_cases hk : k < ars.length
    · obtain ⟨b, off, rfl, hb, hcells⟩ := HARS.out k hk
      have hx := H1.out (ars.getD k default) (by rw [List.getD_eq_getElem?_getD, List.getElem?_eq_getElem hk]; exact List.getElem_mem hk)
      have hZ := zeros_take ars k hk
      have c0 : w.cell? ⟨b, off + k * 2 + 0, none⟩ = some ((ars.getD k default).cell 0) := hcells 0 (by omega)
      have c1 : w.cell? ⟨b, off + k * 2 + 1, none⟩ = some ((ars.getD k default).cell 1) := hcells 1 (by omega)
      clear hcells
      generalize hA : ars.getD k default = A at *
      obtain ⟨wd, sz⟩ := A
      obtain ⟨n, rfl⟩ : ∃ n : Nat, sz = (n : Int) := ⟨sz.toNat, by simp at hx; omega⟩
      have hx1 : 1 ≤ n ∧ n ≤ 65536 := by simp at hx; omega
      have hk' := nat_cast_lt hk
      have hbw : b < wr.heap.size := Nat.lt_of_lt_of_le hb CA.bel.size
      have q0 : wr.cell? ⟨b, off + k * 2, none⟩ = some (.bool wd) := by rw [CA.bel.cell (p := ⟨b, off + k * 2, none⟩) hb]; exact c0
      have q1 : wr.cell? ⟨b, off + k * 2 + 1, none⟩ = some (.int .i64 (n : Int)) := by rw [CA.bel.cell (p := ⟨b, off + k * 2 + 1, none⟩) hb]; exact c1
      have mk := run_make_u32 n (by omega)
      have c3 : wr.cell? ⟨w.heap.size + 1 + 1, 0, none⟩ = some v := CA.out.cell 0
      have z3 := CA.out.frozen 0
      have hol := CA.out.lt
      obtain ⟨va, vc, rfl⟩ : ∃ va vc, v = .slice va k vc := by
        have hl : ((zeros ars).take k).length = k := by simp [hzl]; omega
        have hown := CA.grid.own
        rw [hl] at hown
        rcases hown.2 with ⟨h1, h2⟩ | ⟨g, cc, cur, h1, _⟩
        · exact ⟨none, 0, by rw [h1, h2]⟩
        · exact ⟨_, cc, h1⟩
      have HZ := Lib.hid hZ
      have HA := Lib.hid hA
      clear hZ hA c0 c1 hx
      go_wp2_with fail
      refine wp_region_grew [1, 3] [0, 2] [(2, 0), (2, 2), (1, 1), (1, 3), (0, 4), (0, 5), (0, 6), (0, 7), (0, 8)] (by kernel_rfl) (by kernel_rfl) (fun c a d v w h => by cases d <;> exact h) ?_
      simp only [getPlan, List.filterMap_cons, List.filterMap_nil, List.getElem?_toArray, List.getElem?_cons_succ, List.getElem?_cons_zero, Option.map_some]
      repeat ((first | refine wpPlan_pure (fun K hK => ?_) | refine wpPlan_float (fun K hK => ?_)); go_simp; refine hK _ ?_; clear hK K)
      refine wpPlan_keep ?_
      go_wp2_with fail
      refine ⟨grew_below (((Below.refl _ _).drew).alloc (by simp) _), ?_⟩
      refine wpPlan_keep ?_
      go_wp2_with fail
      refine ⟨grew_below ((((Below.refl _ _).drew).alloc (by simp) _).alloc (by simp) _), ?_⟩
      refine wpPlan_gen (fun z => Below wr.heap.size wr z ∧ Blk z (wr.heap.size + 1) (ints .u32 (List.replicate n 0) ++ []) 42 ∧ z.heap[wr.heap.size + 1 + 1]? = some (.cells [.slice (some ⟨wr.heap.size + 1, 0, none⟩) n n].toArray 29 (0, 0)) ∧ wr.heap.size + 2 < z.heap.size) ?_ ?_
      · refine ⟨((((Below.refl _ _).alloc (by simp) _).alloc (by simp) _).alloc (by simp; omega) _).drew, ?_, ?_, ?_⟩
        · unfold Blk
          rw [drew_heap, Below.heap_alloc _ _ _ (by simp), List.append_nil]
          exact heap_new2 _ _ _
        · rw [drew_heap]
          have := heap_new1 ((wr.alloc (.cells #[.bool wd, .int .i64 (n : Int)] 59)).alloc (.cells (ints .u32 (List.replicate n 0)).toArray 42)) (.cells #[.slice (some ⟨wr.heap.size + 1, 0, none⟩) n n] 29)
          simpa using this
        · simp
      rintro z ⟨hb5, hblk4, hnew, hs4⟩
      have hl : ((zeros ars).take k).length = k := by simp [hzl]; omega
      have hown4 : z.ownsRow w.heap.size 29 1 (.slice va k vc) k ((List.range k).map fun j => .slice (some ⟨ab j, 0, none⟩) (((zeros ars).take k).getD j []).length (ac j)) := by
        have h9 := CA.grid.own.kept (grownBy_of_below hb5 none) (by cases hv : (Value.slice va ((zeros ars).take k).length vc).ownBlock <;> simp_all)
        rw [hl] at h9
        exact h9
      refine wpPlan_sees (by kernel_rfl) ?_
      refine wpList_app1 Try.elSl rfl _ _ rfl w.heap.size (.slice va k vc) k _ rfl hown4 (wr.heap.size + 1 + 1) [.slice (some ⟨wr.heap.size + 1, 0, none⟩) n n] (0, 0) rfl hnew rfl ?_ ?_ ?_ ?_
      · simp [Value.oneCell']
      · omega
      · have := CA.bel.size; omega
      intro g6 c6 w6 hown6 hg5 hat5 hlt6
      have hB := CA.bel.size
      have vto : ∀ x, (Value.slice va k vc).ownBlock = some x → τ x = 4 := CA.grid.to
      have vlt : ∀ x, (Value.slice va k vc).ownBlock = some x → x < wr.heap.size := fun x hx => (CA.grid.own.lt x hx).2
      have hat6 : (Value.slice va k vc).ownBlock = some g6 ∨ z.heap.size ≤ g6 := by
        rcases hat5 with h | h
        · exact .inl h
        · right; omega
      have P := CA.grid.push (List.replicate n 0) hB hb5 hblk4 (by omega) (by rw [hl]; simpa using hown6) hg5 hat6
      rw [hl] at P
      have fr : ∀ y t, y < wr.heap.size → τ y = t → t ≠ 4 → y ≠ wr.heap.size + 1 ∧ y ≠ g6 ∧ w6.heap[y]? = wr.heap[y]? := by
        intro y t hy ht hne
        have hne2 : some y ≠ (Value.slice va k vc).ownBlock := fun e => hne (by rw [← ht]; exact vto y e.symm)
        refine ⟨by omega, fun e => ?_, ?_⟩
        · rcases hat6 with h | h
          · exact hne2 (by rw [h, e])
          · omega
        · rw [hg5.block y (by omega) hne2, hb5.block y hy]
      have f3 := fr (w.heap.size + 1 + 1) 2001 hol CA.t3 (by omega)
      have c6' : w6.cell? ⟨w.heap.size + 1 + 1, 0, none⟩ = some (.slice va k vc) := by rw [World.cell?_of_block f3.2.2]; exact c3
      have z6 : w6.frozen? ⟨w.heap.size + 1 + 1, 0, none⟩ = false := by rw [World.frozen?_of_block f3.2.2]; exact z3
      have f2 := fr w.heap.size 2000 CA.res.lt CA.t2 (by omega)
      have fc := fr (w.heap.size + 1) 3 (by obtain ⟨t, ht⟩ := CA.ctx; exact ht.lt) CA.tc (by omega)
      have rel : CopyRel w (zeros ars) (List.replicate 16 0) w.heap.size (w.heap.size + 1 + 1) (w.heap.size + 1) 16 (.int .i64 ((k : Int) + 1)) (w6.setCell ⟨w.heap.size + 1 + 1, 0, none⟩ (.slice (some ⟨g6, 0, none⟩) (k + 1) c6)) := by
        have hP2 := P.foreign (by simp [hzl]; omega) (y := w.heap.size + 1 + 1) (by show 1000 ≤ (if _ then _ else if _ then _ else _); rw [if_neg f3.1, if_neg f3.2.1, CA.t3]; omega) 0 (.slice (some ⟨g6, 0, none⟩) (k + 1) c6)
        have hne : ∀ y, y ≠ w.heap.size + 1 + 1 → (w6.setCell ⟨w.heap.size + 1 + 1, 0, none⟩ (.slice (some ⟨g6, 0, none⟩) (k + 1) c6)).heap[y]? = w6.heap[y]? := fun y hy => Below.heap_setCell _ _ _ _ hy
        refine ⟨k + 1, _, _, _, _, by simp, ⟨by omega, by rw [HZ.out]; exact hP2, ?_, ?_, ?_, by show (if _ then _ else if _ then _ else _) = _; rw [if_neg fc.1, if_neg fc.2.1]; exact CA.tc, by show (if _ then _ else if _ then _ else _) = _; rw [if_neg f2.1, if_neg f2.2.1]; exact CA.t2, by show (if _ then _ else if _ then _ else _) = _; rw [if_neg f3.1, if_neg f3.2.1]; exact CA.t3, CA.bc, CA.b2, CA.b3, ?_⟩⟩
        · have o6 : Blk w6 (w.heap.size + 1 + 1) [.slice va k vc, .slice (some ⟨w.heap.size + 1, 0, none⟩) (List.replicate 16 (0 : Int)).length 16] 31 := by unfold Blk; rw [f3.2.2]; exact CA.out
          exact o6.set 0 _
        · unfold Blk; rw [hne _ (by omega), f2.2.2]; exact CA.res
        · obtain ⟨t, ht⟩ := CA.ctx
          exact ⟨t, by unfold Blk; rw [hne _ (by omega), fc.2.2]; exact ht⟩
        · exact ((CA.bel.trans (hb5.mono hB)).trans (below_grown hg5 (by omega) (fun x hx => (CA.grid.own.lt x hx).1))).setCell CA.b3 _
      have HREL := Lib.hid rel
      clear fr P hown6 hg5 hat6 hat5 hown4 f3 f2 fc c3 z3 rel hb5 hblk4 hnew vto vlt q0 q1
      go_wp2
      refine wpPlan_tail (by kernel_rfl) ?_
      simp only [List.map_cons, List.map_nil]
      go_wp2
      go_roundw
      case rel => exact HREL.out
      case measure => simp [intOf]; omega
    · have hkk : k = ars.length := by have := CA.le; omega
      subst hkk
      obtain ⟨va, vc, rfl⟩ : ∃ va vc, v = .slice va ars.length vc := by
        have hown := CA.grid.own
        rw [← hzl, List.take_length] at hown
        rw [← hzl]
        rcases hown.2 with ⟨h1, h2⟩ | ⟨g, cc, cur, h1, _⟩
        · exact ⟨none, 0, by rw [h1, h2]⟩
        · exact ⟨_, cc, h1⟩
      have c0 : wr.cell? ⟨w.heap.size + 1 + 1, 0, none⟩ = some (.slice va ars.length vc) := CA.out.cell 0
      have c1 : wr.cell? ⟨w.heap.size + 1 + 1, 0 + 1, none⟩ = some (.slice (some ⟨w.heap.size + 1, 0, none⟩) 16 16) := CA.out.cell 1
      have y0 : wr.cell? ⟨w.heap.size, 0, none⟩ = some (.slice none 0 0) := CA.res.cell 0
      have y1 : wr.cell? ⟨w.heap.size, 0 + 1, none⟩ = some (.slice none 0 0) := CA.res.cell 1
      have z0 := CA.res.frozen 0
      have z1 := CA.res.frozen (0 + 1)
      have HZL := Lib.hid hzl
      clear hzl
      go_wp2
      refine bodyPost_ret (v := .agg #[.slice va ars.length vc, .slice (some ⟨w.heap.size + 1, 0, none⟩) 16 16]) ?_ rfl ?_
      · have e0 := (CA.res.set 0 (.slice va ars.length vc)).set 1 (.slice (some ⟨w.heap.size + 1, 0, none⟩) 16 16)
        have x0 := e0.cell 0
        have x1 := e0.cell 1
        simp only [List.set_cons_zero, List.set_cons_succ, List.getElem?_cons_zero, List.getElem?_cons_succ] at x0 x1
        simp [results, Try.results30, go_sem, x0, x1]
      · have hgr := CA.grid
        rw [← HZL.out, List.take_length] at hgr
        have g1 := (hgr.foreign (by rw [HZL.out]; omega) (y := w.heap.size) (by rw [CA.t2]; omega) 0 (.slice va ars.length vc)).foreign (by rw [HZL.out]; omega) (y := w.heap.size) (by rw [CA.t2]; omega) 1 (.slice (some ⟨w.heap.size + 1, 0, none⟩) 16 16)
        obtain ⟨t9, ht9⟩ := CA.ctx
        have hgn : w.heap.size + 1 ≠ w.heap.size := by omega
        rw [HZL.out] at g1
        exact ⟨_, τ, ab, ac, w.heap.size + 1, 16, rfl, g1, ⟨t9, (ht9.other hgn _).other hgn _⟩, CA.tc, CA.bc, (CA.bel.setCell CA.b2 _).setCell CA.b2 _⟩
end Go.Proofs.Ytefdnjhhaejgbaa

namespace Go.Proofs.Ytefdnjhhaejgbaa
open Go.RowKit
set_option linter.unusedVariables false
def T.encl : T → Nat → Nat → List Nat
  | .nil, _, _ => []
  | .plain i r, k, p => if p ≤ k then [] else r.encl (k + 1) p
  | .ite i a j r, k, p => if p ≤ k then [] else if p ≤ k + a.size + 1 then a.encl (k + 1) p else r.encl (k + a.size + 2) p
  | .ite2 i a x b j r, k, p => if p ≤ k then [] else if p ≤ k + a.size + 1 then a.encl (k + 1) p else if p ≤ k + a.size + b.size + 2 then b.encl (k + a.size + 2) p else r.encl (k + a.size + b.size + 3) p
  | .loop i a j r, k, p => if p ≤ k then [] else if p ≤ k + a.size + 1 then k :: a.encl (k + 1) p else r.encl (k + a.size + 2) p
theorem T.encl_start (t : T) (k p : Nat) (h : p ≤ k) : t.encl k p = [] := by
  cases t <;> simp [encl, h]
theorem T.encl_end : ∀ (t : T) (k p : Nat), p = k + t.size → t.encl k p = []
  | .nil, k, p, h => rfl
  | .plain i r, k, p, h => by simp only [size] at h; simp only [encl]; rw [if_neg (by omega)]; exact r.encl_end _ _ (by omega)
  | .ite i a j r, k, p, h => by simp only [size] at h; simp only [encl]; rw [if_neg (by omega), if_neg (by omega)]; exact r.encl_end _ _ (by omega)
  | .ite2 i a x b j r, k, p, h => by simp only [size] at h; simp only [encl]; rw [if_neg (by omega), if_neg (by omega), if_neg (by omega)]; exact r.encl_end _ _ (by omega)
  | .loop i a j r, k, p, h => by simp only [size] at h; simp only [encl]; rw [if_neg (by omega), if_neg (by omega)]; exact r.encl_end _ _ (by omega)
theorem T.encl_len : ∀ (t : T) (w : Bool) (d k p : Nat), t.wf w d → (t.encl k p).length ≤ d
  | .nil, _, _, _, _, _ => by simp [encl]
  | .plain i r, w, d, k, p, h => by simp only [encl]; split; simp; exact r.encl_len w d _ _ h.2.2
  | .ite i a j r, w, d, k, p, h => by
    simp only [encl]; split; simp; split
    · have := a.encl_len w (d - 1) (k + 1) p h.2.2.2.1; omega
    · exact r.encl_len w d _ _ h.2.2.2.2
  | .ite2 i a x b j r, w, d, k, p, h => by
    simp only [encl]; split; simp; split
    · have := a.encl_len w (d - 1) (k + 1) p h.2.2.2.2.1; omega
    · split
      · have := b.encl_len w (d - 1) (k + a.size + 2) p h.2.2.2.2.2.1; omega
      · exact r.encl_len w d _ _ h.2.2.2.2.2.2
  | .loop i a j r, w, d, k, p, h => by
    simp only [encl]; split; simp; split
    · have := a.encl_len true (d - 1) (k + 1) p h.2.2.2.1; have := h.2.2.1; simp; omega
    · exact r.encl_len w d _ _ h.2.2.2.2
structure Loc (E : Nat → List Nat) (PT : Nat → Nat) (lo hi p : Nat) (op : Int) (w : Bool) (e d : Nat) : Prop where
  other : op ≠ 27 → op ≠ 28 → op ≠ 29 → op ≠ 31 → E (p + 1) = E p
  jump : op = 27 ∨ op = 28 ∨ op = 29 → p < PT p ∧ PT p < hi ∧ E (PT p + 1) = E p
  if1 : op = 27 → E (p + 1) = E p
  loop1 : op = 29 → E (p + 1) = E p ++ [p]
  depth : op = 29 → (E p).length < d
  leave : op = 30 → (E p ≠ [] ∧ p < PT p ∧ PT p < hi ∧ E (PT p + 1) = (E p).dropLast) ∨ (E p = [] ∧ w = true ∧ PT p = e)
  endd : op = 31 → (∃ X q, E p = X ++ [q] ∧ lo ≤ q ∧ q < p ∧ PT q = p ∧ E (p + 1) = X ∧ E (q + 1) = E p) ∨ (E (p + 1) = E p ∧ ∀ q ∈ E p, PT q ≠ p)
  low : ∀ q ∈ E p, lo ≤ q ∧ q < p
theorem Loc.lift {E Ea : Nat → List Nat} {PT PTa : Nat → Nat} {lo hi la ha p : Nat} {op : Int} {w : Bool} {e d da : Nat} (h : Loc Ea PTa la ha p op w e da) (hp : la ≤ p ∧ p < ha) (hl : lo ≤ la) (hh : ha ≤ hi) (hd : da ≤ d)
    (hE : ∀ x, la ≤ x → x ≤ ha → E x = Ea x) (hP : ∀ x, la ≤ x → x < ha → PT x = PTa x) : Loc E PT lo hi p op w e d where
  other := fun a b c f => by rw [hE _ (by omega) (by omega), hE _ (by omega) (by omega)]; exact h.other a b c f
  jump := fun a => by
    obtain ⟨h1, h2, h3⟩ := h.jump a
    rw [hP _ (by omega) (by omega)]
    exact ⟨h1, by omega, by rw [hE _ (by omega) (by omega), hE _ (by omega) (by omega)]; exact h3⟩
  if1 := fun a => by rw [hE _ (by omega) (by omega), hE _ (by omega) (by omega)]; exact h.if1 a
  loop1 := fun a => by rw [hE _ (by omega) (by omega), hE _ (by omega) (by omega)]; exact h.loop1 a
  depth := fun a => by rw [hE _ (by omega) (by omega)]; have := h.depth a; omega
  leave := fun a => by
    rw [hP _ (by omega) (by omega), hE p (by omega) (by omega)]
    rcases h.leave a with ⟨h1, h2, h3, h4⟩ | h1
    · exact .inl ⟨h1, h2, by omega, by rw [hE _ (by omega) (by omega)]; exact h4⟩
    · exact .inr h1
  endd := fun a => by
    rw [hE p (by omega) (by omega), hE (p + 1) (by omega) (by omega)]
    rcases h.endd a with ⟨X, q, h1, h2, h3, h4, h5, h6⟩ | ⟨h1, h2⟩
    · exact .inl ⟨X, q, h1, by omega, h3, by rw [hP _ (by omega) (by omega)]; exact h4, h5, by rw [hE _ (by omega) (by omega)]; exact h6⟩
    · exact .inr ⟨h1, fun q hq => by have := h.low q hq; rw [hP _ (by omega) (by omega)]; exact h2 q hq⟩
  low := fun q hq => by rw [hE p (by omega) (by omega)] at hq; have := h.low q hq; omega
theorem Loc.liftLoop {E Ea : Nat → List Nat} {PT PTa : Nat → Nat} {lo hi ha p k : Nat} {op : Int} {w : Bool} {e d da : Nat} (h : Loc Ea PTa (k + 1) ha p op true ha da) (hp : k + 1 ≤ p ∧ p < ha) (hl : lo ≤ k) (hh : ha < hi) (hd : da < d)
    (hE : ∀ x, k + 1 ≤ x → x ≤ ha → E x = k :: Ea x) (hP : ∀ x, k + 1 ≤ x → x < ha → PT x = PTa x) (hk : PT k = ha) (hend : E (ha + 1) = []) : Loc E PT lo hi p op w e d where
  other := fun a b c f => by rw [hE _ (by omega) (by omega), hE _ (by omega) (by omega), h.other a b c f]
  jump := fun a => by
    obtain ⟨h1, h2, h3⟩ := h.jump a
    rw [hP _ (by omega) (by omega)]
    exact ⟨h1, by omega, by rw [hE _ (by omega) (by omega), hE _ (by omega) (by omega), h3]⟩
  if1 := fun a => by rw [hE _ (by omega) (by omega), hE _ (by omega) (by omega), h.if1 a]
  loop1 := fun a => by rw [hE _ (by omega) (by omega), hE _ (by omega) (by omega), h.loop1 a]; rfl
  depth := fun a => by rw [hE _ (by omega) (by omega)]; have := h.depth a; simp; omega
  leave := fun a => by
    left
    rw [hP _ (by omega) (by omega), hE p (by omega) (by omega)]
    rcases h.leave a with ⟨h1, h2, h3, h4⟩ | ⟨h1, _, h2⟩
    · refine ⟨by simp, h2, by omega, ?_⟩
      rw [hE _ (by omega) (by omega), h4]
      cases hx : Ea p with
      | nil => exact absurd hx h1
      | cons y l => rfl
    · refine ⟨by simp, by omega, by omega, ?_⟩
      rw [h2, hend, h1]; rfl
  endd := fun a => by
    rw [hE p (by omega) (by omega), hE (p + 1) (by omega) (by omega)]
    rcases h.endd a with ⟨X, q, h1, h2, h3, h4, h5, h6⟩ | ⟨h1, h2⟩
    · exact .inl ⟨k :: X, q, by rw [h1]; rfl, by omega, h3, by rw [hP _ (by omega) (by omega)]; exact h4, by rw [h5], by rw [hE _ (by omega) (by omega), h6]⟩
    · refine .inr ⟨by rw [h1], fun q hq => ?_⟩
      simp only [List.mem_cons] at hq
      rcases hq with rfl | hq
      · omega
      · have := h.low q hq
        rw [hP _ (by omega) (by omega)]; exact h2 q hq
  low := fun q hq => by
    rw [hE p (by omega) (by omega)] at hq
    simp only [List.mem_cons] at hq
    rcases hq with rfl | hq
    · omega
    · have := h.low q hq; omega
def ptFn (l : List Nat) (k q : Nat) : Nat := l.getD (q - k) 0
theorem ptFn_cons (x : Nat) (l : List Nat) (k q : Nat) (h : k < q) : ptFn (x :: l) k q = ptFn l (k + 1) q := by
  unfold ptFn
  rw [show q - k = (q - (k + 1)) + 1 by omega]
  rfl
theorem ptFn_head (x : Nat) (l : List Nat) (k : Nat) : ptFn (x :: l) k k = x := by simp [ptFn]
theorem ptFn_left (a b : List Nat) (k q : Nat) (h : k ≤ q) (h2 : q < k + a.length) : ptFn (a ++ b) k q = ptFn a k q := by
  unfold ptFn
  rw [List.getD_eq_getElem?_getD, List.getD_eq_getElem?_getD, List.getElem?_append_left (by omega)]
theorem ptFn_right (a b : List Nat) (k q : Nat) (h2 : k + a.length ≤ q) : ptFn (a ++ b) k q = ptFn b (k + a.length) q := by
  unfold ptFn
  rw [List.getD_eq_getElem?_getD, List.getD_eq_getElem?_getD, List.getElem?_append_right (by omega), show q - k - a.length = q - (k + a.length) by omega]
theorem CdAt.at {cd : List RI} {k : Nat} {l : List RI} (h : CdAt cd k l) {p : Nat} (h1 : k ≤ p) (h2 : p < k + l.length) : cd.getD p default = l.getD (p - k) default := by
  have := h (p - k) (by omega)
  rw [show k + (p - k) = p by omega] at this
  exact this
theorem T.loc (cd : List RI) : ∀ (t : T) (w : Bool) (d k e : Nat), t.wf w d → CdAt cd k t.flat → ∀ p, k ≤ p → p < k + t.size → Loc (t.encl k) (ptFn (t.pt k e) k) k (k + t.size) p (cd.getD p default).op w e d
  | .nil, w, d, k, e, hw, hc, p, h1, h2 => by simp [size] at h2; omega
  | .plain i r, w, d, k, e, hw, hc, p, h1, h2 => by
    simp only [size] at h2
    simp only [flat] at hc
    by_cases hp : p = k
    · subst hp
      rw [hc.head]
      have e1 : (T.plain i r).encl p p = [] := T.encl_start _ _ _ (Nat.le_refl _)
      have e2 : (T.plain i r).encl p (p + 1) = [] := by simp only [encl]; rw [if_neg (by omega)]; exact T.encl_start _ _ _ (Nat.le_refl _)
      obtain ⟨⟨n27, n28, n29, n31⟩, h30, _⟩ := hw
      exact {
        other := fun _ _ _ _ => by rw [e1, e2]
        jump := fun a => by omega
        if1 := fun a => by omega
        loop1 := fun a => by omega
        depth := fun a => by omega
        leave := fun a => .inr ⟨e1, h30 a, by simp only [pt, if_pos a]; exact ptFn_head _ _ _⟩
        endd := fun a => by omega
        low := fun q hq => by rw [e1] at hq; cases hq }
    · refine (T.loc cd r w d (k + 1) e hw.2.2 hc.tail p (by omega) (by omega)).lift (by omega) (by omega) (by simp only [size]; omega) (Nat.le_refl _) (fun x hx1 hx2 => ?_) (fun x hx1 hx2 => ?_)
      · simp only [encl]; rw [if_neg (by omega)]
      · simp only [pt]; exact ptFn_cons _ _ _ _ (by omega)
  | .ite i a j r, w, d, k, e, hw, hc, p, h1, h2 => by
    simp only [size] at h2
    simp only [flat] at hc
    obtain ⟨hi, hj, hd, hwa, hwr⟩ := hw
    have hcj := hc.tail.right
    rw [a.flat_length] at hcj
    have hal := a.pt_length (k + 1) e
    have pk : ptFn ((T.ite i a j r).pt k e) k k = k + a.size + 1 := by simp only [pt]; exact ptFn_head _ _ _
    by_cases hp : p = k
    · subst hp
      rw [hc.head]
      have e1 : (T.ite i a j r).encl p p = [] := T.encl_start _ _ _ (Nat.le_refl _)
      have e2 : (T.ite i a j r).encl p (p + 1) = [] := by simp only [encl]; rw [if_neg (by omega), if_pos (by omega)]; exact T.encl_start _ _ _ (Nat.le_refl _)
      have e3 : (T.ite i a j r).encl p (p + a.size + 1 + 1) = [] := by simp only [encl]; rw [if_neg (by omega), if_neg (by omega)]; exact T.encl_start _ _ _ (by omega)
      exact {
        other := fun x _ _ _ => absurd hi x
        jump := fun x => by rw [pk]; exact ⟨by omega, by simp only [size]; omega, by rw [e3, e1]⟩
        if1 := fun x => by rw [e1, e2]
        loop1 := fun x => by omega
        depth := fun x => by omega
        leave := fun x => by omega
        endd := fun x => by omega
        low := fun q hq => by rw [e1] at hq; cases hq }
    by_cases hp2 : p < k + 1 + a.size
    · refine (T.loc cd a w (d - 1) (k + 1) e hwa hc.tail.left p (by omega) (by omega)).lift (by omega) (by omega) (by simp only [size]; omega) (by omega) (fun x hx1 hx2 => ?_) (fun x hx1 hx2 => ?_)
      · simp only [encl]; rw [if_neg (by omega), if_pos (by omega)]
      · simp only [pt]; rw [ptFn_cons _ _ _ _ (by omega)]; exact ptFn_left _ _ _ _ (by omega) (by omega)
    by_cases hp3 : p = k + 1 + a.size
    · subst hp3
      rw [hcj.head]
      have e1 : (T.ite i a j r).encl k (k + 1 + a.size) = [] := by simp only [encl]; rw [if_neg (by omega), if_pos (by omega)]; exact T.encl_end _ _ _ rfl
      have e2 : (T.ite i a j r).encl k (k + 1 + a.size + 1) = [] := by simp only [encl]; rw [if_neg (by omega), if_neg (by omega)]; exact T.encl_start _ _ _ (by omega)
      exact {
        other := fun _ _ _ x => absurd hj x
        jump := fun x => by omega
        if1 := fun x => by omega
        loop1 := fun x => by omega
        depth := fun x => by omega
        leave := fun x => by omega
        endd := fun x => .inr ⟨by rw [e1, e2], fun q hq => by rw [e1] at hq; cases hq⟩
        low := fun q hq => by rw [e1] at hq; cases hq }
    · have hcr := hcj.tail
      rw [show k + 1 + a.size + 1 = k + a.size + 2 by omega] at hcr
      refine (T.loc cd r w d (k + a.size + 2) e hwr hcr p (by omega) (by omega)).lift (by omega) (by omega) (by simp only [size]; omega) (Nat.le_refl _) (fun x hx1 hx2 => ?_) (fun x hx1 hx2 => ?_)
      · simp only [encl]; rw [if_neg (by omega), if_neg (by omega)]
      · simp only [pt]; rw [ptFn_cons _ _ _ _ (by omega), ptFn_right _ _ _ _ (by omega), hal, ptFn_cons _ _ _ _ (by omega), show k + 1 + a.size + 1 = k + a.size + 2 by omega]
  | .ite2 i a y b j r, w, d, k, e, hw, hc, p, h1, h2 => by
    simp only [size] at h2
    simp only [flat] at hc
    obtain ⟨hi, hy, hj, hd, hwa, hwb, hwr⟩ := hw
    have hcy := hc.tail.right
    rw [a.flat_length] at hcy
    have hcj := hcy.tail.right
    rw [b.flat_length] at hcj
    have hal := a.pt_length (k + 1) e
    have hbl := b.pt_length (k + a.size + 2) e
    have pk : ptFn ((T.ite2 i a y b j r).pt k e) k k = k + a.size + 1 := by simp only [pt]; exact ptFn_head _ _ _
    have py : ptFn ((T.ite2 i a y b j r).pt k e) k (k + 1 + a.size) = k + a.size + b.size + 2 := by
      simp only [pt]; rw [ptFn_cons _ _ _ _ (by omega), ptFn_right _ _ _ _ (by omega), hal]; exact ptFn_head _ _ _
    by_cases hp : p = k
    · subst hp
      rw [hc.head]
      have e1 : (T.ite2 i a y b j r).encl p p = [] := T.encl_start _ _ _ (Nat.le_refl _)
      have e2 : (T.ite2 i a y b j r).encl p (p + 1) = [] := by simp only [encl]; rw [if_neg (by omega), if_pos (by omega)]; exact T.encl_start _ _ _ (Nat.le_refl _)
      have e3 : (T.ite2 i a y b j r).encl p (p + a.size + 1 + 1) = [] := by simp only [encl]; rw [if_neg (by omega), if_neg (by omega), if_pos (by omega)]; exact T.encl_start _ _ _ (by omega)
      exact {
        other := fun x _ _ _ => absurd hi x
        jump := fun x => by rw [pk]; exact ⟨by omega, by simp only [size]; omega, by rw [e3, e1]⟩
        if1 := fun x => by rw [e1, e2]
        loop1 := fun x => by omega
        depth := fun x => by omega
        leave := fun x => by omega
        endd := fun x => by omega
        low := fun q hq => by rw [e1] at hq; cases hq }
    by_cases hp2 : p < k + 1 + a.size
    · refine (T.loc cd a w (d - 1) (k + 1) e hwa hc.tail.left p (by omega) (by omega)).lift (by omega) (by omega) (by simp only [size]; omega) (by omega) (fun x hx1 hx2 => ?_) (fun x hx1 hx2 => ?_)
      · simp only [encl]; rw [if_neg (by omega), if_pos (by omega)]
      · simp only [pt]; rw [ptFn_cons _ _ _ _ (by omega)]; exact ptFn_left _ _ _ _ (by omega) (by omega)
    by_cases hp3 : p = k + 1 + a.size
    · subst hp3
      rw [hcy.head]
      have e1 : (T.ite2 i a y b j r).encl k (k + 1 + a.size) = [] := by simp only [encl]; rw [if_neg (by omega), if_pos (by omega)]; exact T.encl_end _ _ _ rfl
      have e3 : (T.ite2 i a y b j r).encl k (k + a.size + b.size + 2 + 1) = [] := by simp only [encl]; rw [if_neg (by omega), if_neg (by omega), if_neg (by omega)]; exact T.encl_start _ _ _ (by omega)
      exact {
        other := fun _ x _ _ => absurd hy x
        jump := fun x => by rw [py]; exact ⟨by omega, by simp only [size]; omega, by rw [e3, e1]⟩
        if1 := fun x => by omega
        loop1 := fun x => by omega
        depth := fun x => by omega
        leave := fun x => by omega
        endd := fun x => by omega
        low := fun q hq => by rw [e1] at hq; cases hq }
    have hcb := hcy.tail.left
    rw [show k + 1 + a.size + 1 = k + a.size + 2 by omega] at hcb hcj
    by_cases hp4 : p < k + a.size + 2 + b.size
    · refine (T.loc cd b w (d - 1) (k + a.size + 2) e hwb hcb p (by omega) (by omega)).lift (by omega) (by omega) (by simp only [size]; omega) (by omega) (fun x hx1 hx2 => ?_) (fun x hx1 hx2 => ?_)
      · simp only [encl]; rw [if_neg (by omega), if_neg (by omega), if_pos (by omega)]
      · simp only [pt]; rw [ptFn_cons _ _ _ _ (by omega), ptFn_right _ _ _ _ (by omega), hal, ptFn_cons _ _ _ _ (by omega), show k + 1 + a.size + 1 = k + a.size + 2 by omega]; exact ptFn_left _ _ _ _ (by omega) (by omega)
    by_cases hp5 : p = k + a.size + 2 + b.size
    · subst hp5
      rw [hcj.head]
      have e1 : (T.ite2 i a y b j r).encl k (k + a.size + 2 + b.size) = [] := by simp only [encl]; rw [if_neg (by omega), if_neg (by omega), if_pos (by omega)]; exact T.encl_end _ _ _ rfl
      have e2 : (T.ite2 i a y b j r).encl k (k + a.size + 2 + b.size + 1) = [] := by simp only [encl]; rw [if_neg (by omega), if_neg (by omega), if_neg (by omega)]; exact T.encl_start _ _ _ (by omega)
      exact {
        other := fun _ _ _ x => absurd hj x
        jump := fun x => by omega
        if1 := fun x => by omega
        loop1 := fun x => by omega
        depth := fun x => by omega
        leave := fun x => by omega
        endd := fun x => .inr ⟨by rw [e1, e2], fun q hq => by rw [e1] at hq; cases hq⟩
        low := fun q hq => by rw [e1] at hq; cases hq }
    · have hcr := hcj.tail
      rw [show k + a.size + 2 + b.size + 1 = k + a.size + b.size + 3 by omega] at hcr
      refine (T.loc cd r w d (k + a.size + b.size + 3) e hwr hcr p (by omega) (by omega)).lift (by omega) (by omega) (by simp only [size]; omega) (Nat.le_refl _) (fun x hx1 hx2 => ?_) (fun x hx1 hx2 => ?_)
      · simp only [encl]; rw [if_neg (by omega), if_neg (by omega), if_neg (by omega)]
      · simp only [pt]
        rw [ptFn_cons _ _ _ _ (by omega), ptFn_right _ _ _ _ (by omega), hal, ptFn_cons _ _ _ _ (by omega), show k + 1 + a.size + 1 = k + a.size + 2 by omega, ptFn_right _ _ _ _ (by omega), hbl, ptFn_cons _ _ _ _ (by omega), show k + a.size + 2 + b.size + 1 = k + a.size + b.size + 3 by omega]
  | .loop i a j r, w, d, k, e, hw, hc, p, h1, h2 => by
    simp only [size] at h2
    simp only [flat] at hc
    obtain ⟨hi, hj, hd, hwa, hwr⟩ := hw
    have hcj := hc.tail.right
    rw [a.flat_length] at hcj
    have hal := a.pt_length (k + 1) (k + a.size + 1)
    have pk : ptFn ((T.loop i a j r).pt k e) k k = k + a.size + 1 := by simp only [pt]; exact ptFn_head _ _ _
    have e3 : (T.loop i a j r).encl k (k + a.size + 1 + 1) = [] := by simp only [encl]; rw [if_neg (by omega), if_neg (by omega)]; exact T.encl_start _ _ _ (by omega)
    by_cases hp : p = k
    · subst hp
      rw [hc.head]
      have e1 : (T.loop i a j r).encl p p = [] := T.encl_start _ _ _ (Nat.le_refl _)
      have e2 : (T.loop i a j r).encl p (p + 1) = [p] := by simp only [encl]; rw [if_neg (by omega), if_pos (by omega), T.encl_start _ _ _ (Nat.le_refl _)]
      exact {
        other := fun _ _ x _ => absurd hi x
        jump := fun x => by rw [pk]; exact ⟨by omega, by simp only [size]; omega, by rw [e3, e1]⟩
        if1 := fun x => by omega
        loop1 := fun x => by rw [e1, e2]; rfl
        depth := fun x => by rw [e1]; simpa using hd
        leave := fun x => by omega
        endd := fun x => by omega
        low := fun q hq => by rw [e1] at hq; cases hq }
    by_cases hp2 : p < k + 1 + a.size
    · have hloc := T.loc cd a true (d - 1) (k + 1) (k + a.size + 1) hwa hc.tail.left p (by omega) (by omega)
      rw [show k + 1 + a.size = k + a.size + 1 by omega] at hloc
      refine hloc.liftLoop (by omega) (by omega) (by simp only [size]; omega) (by omega) (fun x hx1 hx2 => ?_) (fun x hx1 hx2 => ?_) pk e3
      · simp only [encl]; rw [if_neg (by omega), if_pos (by omega)]
      · simp only [pt]; rw [ptFn_cons _ _ _ _ (by omega)]; exact ptFn_left _ _ _ _ (by omega) (by omega)
    by_cases hp3 : p = k + 1 + a.size
    · subst hp3
      rw [hcj.head]
      have e1 : (T.loop i a j r).encl k (k + 1 + a.size) = [k] := by simp only [encl]; rw [if_neg (by omega), if_pos (by omega), T.encl_end _ _ _ rfl]
      have e4 : (T.loop i a j r).encl k (k + 1 + a.size + 1) = [] := by rw [show k + 1 + a.size + 1 = k + a.size + 1 + 1 by omega]; exact e3
      have e2 : (T.loop i a j r).encl k (k + 1) = [k] := by simp only [encl]; rw [if_neg (by omega), if_pos (by omega), T.encl_start _ _ _ (Nat.le_refl _)]
      exact {
        other := fun _ _ _ x => absurd hj x
        jump := fun x => by omega
        if1 := fun x => by omega
        loop1 := fun x => by omega
        depth := fun x => by omega
        leave := fun x => by omega
        endd := fun x => .inl ⟨[], k, by rw [e1]; rfl, Nat.le_refl _, by omega, by rw [pk]; omega, by rw [e4], by rw [e1, e2]⟩
        low := fun q hq => by rw [e1] at hq; simp at hq; omega }
    · have hcr := hcj.tail
      rw [show k + 1 + a.size + 1 = k + a.size + 2 by omega] at hcr
      refine (T.loc cd r w d (k + a.size + 2) e hwr hcr p (by omega) (by omega)).lift (by omega) (by omega) (by simp only [size]; omega) (Nat.le_refl _) (fun x hx1 hx2 => ?_) (fun x hx1 hx2 => ?_)
      · simp only [encl]; rw [if_neg (by omega), if_neg (by omega)]
      · simp only [pt]; rw [ptFn_cons _ _ _ _ (by omega), ptFn_right _ _ _ _ (by omega), hal, ptFn_cons _ _ _ _ (by omega), show k + 1 + a.size + 1 = k + a.size + 2 by omega]
end Go.Proofs.Ytefdnjhhaejgbaa

namespace Go.Proofs.Ytefdnjhhaejgbaa
open Go.RowKit
set_option linter.unusedVariables false
def u32 (x : Int) : Prop := 0 ≤ x ∧ x < 4294967296
theorem wrap_u32r (x : Int) : u32 (IntKind.u32.wrap x) := by unfold u32; rw [IntKind.wrap_u32]; omega
theorem flag_u32 (b : Bool) : u32 (flagI b) := by cases b <;> simp [flagI, u32]
theorem arith_u32 (op a b : Int) (ha : u32 a) (hb : u32 b) (h : arithErr op b = 0) : u32 (arith op a b) := by
  unfold u32 at ha hb
  unfold arithErr at h
  split at h
  · simp at h
  rename_i hop
  split at h
  · simp at h
  rename_i hdiv
  unfold arith
  by_cases o8 : op = 8
  · rw [if_pos o8]
    unfold u32; omega
  rw [if_neg o8]
  by_cases o9 : op = 9
  · rw [if_pos o9]
    unfold u32; omega
  rw [if_neg o9]
  by_cases o10 : op = 10
  · rw [if_pos o10]
    unfold u32; omega
  rw [if_neg o10]
  by_cases o11 : op = 11
  · rw [if_pos o11]
    have hb0 : b ≠ 0 := fun e0 => hdiv ⟨e0, .inl o11⟩
    refine ⟨Int.ediv_nonneg ha.1 hb.1, ?_⟩
    have := Int.ediv_le_self (a := a) b ha.1
    omega
  rw [if_neg o11]
  by_cases o12 : op = 12
  · rw [if_pos o12]
    have hb0 : b ≠ 0 := fun e0 => hdiv ⟨e0, .inr o12⟩
    have h1 := Int.emod_nonneg a hb0
    have h2 := Int.emod_lt_of_pos a (show 0 < b by omega)
    unfold u32; omega
  rw [if_neg o12]
  by_cases o13 : op = 13
  · rw [if_pos o13]
    exact wrap_u32r _
  rw [if_neg o13]
  by_cases o14 : op = 14
  · rw [if_pos o14]
    exact wrap_u32r _
  rw [if_neg o14]
  by_cases o15 : op = 15
  · rw [if_pos o15]
    exact wrap_u32r _
  rw [if_neg o15]
  by_cases o16 : op = 16
  · rw [if_pos o16]
    unfold u32; omega
  rw [if_neg o16]
  by_cases o17 : op = 17
  · rw [if_pos o17]
    have hp : (0 : Int) < 2 ^ (b % 32).toNat := Int.pow_pos (by decide)
    refine ⟨Int.ediv_nonneg ha.1 (by omega), ?_⟩
    have := Int.ediv_le_self (a := a) (2 ^ (b % 32).toNat) ha.1
    omega
  rw [if_neg o17]
  by_cases o18 : op = 18
  · rw [if_pos o18]
    unfold u32; omega
  rw [if_neg o18]
  by_cases o19 : op = 19
  · rw [if_pos o19]
    unfold u32; omega
  rw [if_neg o19]
  by_cases o20 : op = 20
  · rw [if_pos o20]
    exact wrap_u32r _
  rw [if_neg o20]
  by_cases o21 : op = 21
  · rw [if_pos o21]
    exact flag_u32 _
  rw [if_neg o21]
  by_cases o22 : op = 22
  · rw [if_pos o22]
    exact flag_u32 _
  rw [if_neg o22]
  by_cases o23 : op = 23
  · rw [if_pos o23]
    exact flag_u32 _
  rw [if_neg o23]
  by_cases o24 : op = 24
  · rw [if_pos o24]
    exact flag_u32 _
  rw [if_neg o24]
  by_cases o25 : op = 25
  · rw [if_pos o25]
    exact flag_u32 _
  rw [if_neg o25]
  exact flag_u32 _
theorem u32s_set {l : List Int} (h : u32s l) (i : Nat) {v : Int} (hv : u32 v) : u32s (l.set i v) := fun x hx => by
  rcases List.mem_or_eq_of_mem_set hx with hx | hx
  · exact h x hx
  · subst hx; exact hv
theorem u32s_at {l : List Int} (h : u32s l) (i : Nat) : u32 (l.getD i 0) := by
  rw [List.getD_eq_getElem?_getD]
  cases hx : l[i]? with
  | none => simp [u32]
  | some v => exact h v (List.mem_of_getElem? hx)
theorem Fine.got {c : MC} {s : PS} (F : Fine c s) (r : Int) : u32 (s.get r) := by
  unfold PS.get
  split
  · simp [u32]
  · exact u32s_at F.r32 _
theorem Fine.at {c : MC} {s : PS} (F : Fine c s) {p : Nat} (hp : p ≤ c.cd.length) : Fine c { s with pc := p } := { F with pc := hp }
theorem Fine.put {c : MC} {s : PS} (F : Fine c s) (r : Int) {v : Int} (hv : u32 v) : Fine c (s.put r v) :=
  { F with regs := by simp [PS.put]; exact F.regs, r32 := u32s_set F.r32 _ hv }
structure RInv (c : MC) (t : T) (s : PS) : Prop where
  fine : Fine c s
  loops : s.loops.map Prod.fst = t.encl 0 s.pc
structure RCode (c : MC) (t : T) : Prop where
  flat : c.cd = t.flat
  wf : t.wf false 8
  pt : c.pt = t.pt 0 0
  ins : ∀ i ∈ c.cd, chkI c.regs c.spills c.ars.length i = 0
  arg : ∀ i ∈ c.cd, u32 i.arg
theorem RCode.loc {c : MC} {t : T} (R : RCode c t) {p : Nat} (hp : p < c.cd.length) : Loc (t.encl 0) (fun q => c.pt.getD q 0) 0 c.cd.length p (c.cd.getD p default).op false 0 8 := by
  have hl : c.cd.length = t.size := by rw [R.flat, t.flat_length]
  have h := T.loc c.cd t false 8 0 0 R.wf (by rw [R.flat]; intro j hj; simp) p (by omega) (by omega)
  have e : ptFn (t.pt 0 0) 0 = fun q => c.pt.getD q 0 := by funext q; simp [ptFn, R.pt]
  rw [e, Nat.zero_add, ← hl] at h
  exact h
def rmu (c : MC) (s : PS) : Nat := (c.fuel - s.steps).toNat * (c.cd.length + 2) + (c.cd.length + 1 - s.pc)
theorem rmu_tick {c : MC} {s s' : PS} (h1 : s'.steps = s.steps + 1) (h2 : s'.steps ≤ c.fuel) (h3 : s.pc ≤ c.cd.length) : rmu c s' < rmu c s := by
  unfold rmu
  have e : (c.fuel - s.steps).toNat = (c.fuel - s'.steps).toNat + 1 := by omega
  rw [e, Nat.add_mul]
  omega
theorem rmu_on {c : MC} {s s' : PS} (h1 : s'.steps = s.steps) (h2 : s.pc < s'.pc) (h3 : s.pc ≤ c.cd.length) : rmu c s' < rmu c s := by
  unfold rmu
  rw [h1]
  omega
theorem encl_at_len {c : MC} {t : T} {s : PS} (R : RCode c t) (h : s.loops.map Prod.fst = t.encl 0 s.pc) : s.loops.length ≤ 8 := by
  have h1 := congrArg List.length h
  have h2 := t.encl_len false 8 0 s.pc R.wf
  simp at h1
  omega
theorem eff_inv {c : MC} {t : T} (R : RCode c t) {s s' : PS} (F : Fine c s) (hl : s.loops.map Prod.fst = t.encl 0 s.pc) (hpc : s.pc < c.cd.length) (he : effect c s (c.cd.getD s.pc default) = .ok s') :
    RInv c t { s' with pc := s'.pc + 1 } ∧ ((s'.steps = s.steps ∧ s.pc ≤ s'.pc ∧ ((c.cd.getD s.pc default).op = 28 → s.pc < s'.pc)) ∨ s'.steps = s.steps + 1) := by
  have L := R.loc hpc
  have hmem : c.cd.getD s.pc default ∈ c.cd := by rw [List.getD_eq_getElem?_getD, List.getElem?_eq_getElem hpc]; exact List.getElem_mem hpc
  have harg := R.arg _ hmem
  generalize hi : c.cd.getD s.pc default = i at *
  have plain : ∀ s2 : PS, s' = s2 → Fine c s2 → s2.pc = s.pc → s2.loops = s.loops → s2.steps = s.steps → (i.op ≠ 27 ∧ i.op ≠ 28 ∧ i.op ≠ 29 ∧ i.op ≠ 31) →
      RInv c t { s' with pc := s'.pc + 1 } ∧ ((s'.steps = s.steps ∧ s.pc ≤ s'.pc ∧ (i.op = 28 → s.pc < s'.pc)) ∨ s'.steps = s.steps + 1) := by
    rintro s2 rfl F2 h1 h2 h3 ⟨n1, n2, n3, n4⟩
    refine ⟨⟨F2.at (by omega), ?_⟩, .inl ⟨h3, by omega, fun e => absurd e n2⟩⟩
    show s'.loops.map Prod.fst = t.encl 0 (s'.pc + 1)
    rw [h2, h1, L.other n1 n2 n3 n4]; exact hl
  unfold effect at he
  by_cases o0 : i.op = 0
  · rw [if_pos o0] at he
    exact plain _ (Except.ok.inj he).symm (F.put _ harg) rfl rfl rfl (by omega)
  rw [if_neg o0] at he
  by_cases o36 : i.op = 36
  · rw [if_pos o36] at he
    exact plain _ (Except.ok.inj he).symm (F.put _ (F.got _)) rfl rfl rfl (by omega)
  rw [if_neg o36] at he
  by_cases o37 : i.op = 37
  · rw [if_pos o37] at he
    exact plain _ (Except.ok.inj he).symm { F with spl := by simp; exact F.spl, s32 := u32s_set F.s32 _ (F.got _) } rfl rfl rfl (by omega)
  rw [if_neg o37] at he
  by_cases o38 : i.op = 38
  · rw [if_pos o38] at he
    exact plain _ (Except.ok.inj he).symm (F.put _ (u32s_at F.s32 _)) rfl rfl rfl (by omega)
  rw [if_neg o38] at he
  by_cases o32 : i.op = 32
  · rw [if_pos o32] at he
    exact plain _ (Except.ok.inj he).symm (F.put _ F.in0) rfl rfl rfl (by omega)
  rw [if_neg o32] at he
  by_cases o33 : i.op = 33
  · rw [if_pos o33] at he
    exact plain _ (Except.ok.inj he).symm (F.put _ (by split <;> simp [u32])) rfl rfl rfl (by omega)
  rw [if_neg o33] at he
  by_cases o34 : i.op = 34
  · rw [if_pos o34] at he
    split at he
    · rename_i hlt
      refine plain _ (Except.ok.inj he).symm { F with o8 := fun x hx => ?_, olen := by simp; omega } rfl rfl rfl (by omega)
      simp only [List.mem_append, List.mem_singleton] at hx
      rcases hx with hx | rfl
      · exact F.o8 x hx
      · omega
    · cases he
  rw [if_neg o34] at he
  by_cases o35 : i.op = 35
  · rw [if_pos o35] at he
    exact plain _ (Except.ok.inj he).symm { F with ctx := by simp; exact F.ctx, c32 := u32s_set F.c32 _ (F.got _) } rfl rfl rfl (by omega)
  rw [if_neg o35] at he
  have harr : ∀ k, u32s (s.arr.getD k []) := fun k => by
    rw [List.getD_eq_getElem?_getD]
    cases hx : s.arr[k]? with
    | none => intro x hx; cases hx
    | some v => exact F.a32 v (List.mem_of_getElem? hx)
  by_cases o3 : i.op = 3
  · rw [if_pos o3] at he
    split at he
    · exact plain _ (Except.ok.inj he).symm (F.put _ (u32s_at (harr _) _)) rfl rfl rfl (by omega)
    · cases he
  rw [if_neg o3] at he
  by_cases o4 : i.op = 4
  · rw [if_pos o4] at he
    split at he
    · rename_i hlt
      have hv : u32 (if (c.ars.getD i.arg.toNat default).word then s.get i.b else s.get i.b % 256) := by
        have := F.got i.b
        unfold u32 at *
        split <;> omega
      refine plain _ (Except.ok.inj he).symm { F with arr := by simp; exact F.arr, a32 := fun a ha => ?_, asz := fun a ha => ?_ } rfl rfl rfl (by omega)
      · rcases List.mem_or_eq_of_mem_set ha with ha | ha
        · exact F.a32 a ha
        · subst ha; exact u32s_set (harr _) _ hv
      · rcases List.mem_or_eq_of_mem_set ha with ha | ha
        · exact F.asz a ha
        · subst ha
          rw [List.length_set, List.getD_eq_getElem?_getD]
          cases hx : s.arr[i.arg.toNat]? with
          | none => simp
          | some v => exact F.asz v (List.mem_of_getElem? hx)
    · cases he
  rw [if_neg o4] at he
  by_cases o27 : i.op = 27
  · rw [if_pos o27] at he
    have := Except.ok.inj he
    obtain ⟨j1, j2, j3⟩ := L.jump (.inl o27)
    split at this
    · subst this
      exact ⟨⟨F.at (by simp only at j2 ⊢; omega), by show s.loops.map Prod.fst = _; rw [hl]; exact j3.symm⟩, .inl ⟨rfl, by simp only at j1 ⊢; omega, fun e => by omega⟩⟩
    · subst this
      exact ⟨⟨F.at (by omega), by show s.loops.map Prod.fst = _; rw [hl]; exact (L.if1 o27).symm⟩, .inl ⟨rfl, Nat.le_refl _, fun e => by omega⟩⟩
  rw [if_neg o27] at he
  by_cases o28 : i.op = 28
  · rw [if_pos o28] at he
    have := Except.ok.inj he
    obtain ⟨j1, j2, j3⟩ := L.jump (.inr (.inl o28))
    subst this
    exact ⟨⟨F.at (by simp only at j2 ⊢; omega), by show s.loops.map Prod.fst = _; rw [hl]; exact j3.symm⟩, .inl ⟨rfl, by simp only at j1 ⊢; omega, fun e => j1⟩⟩
  rw [if_neg o28] at he
  by_cases o29 : i.op = 29
  · rw [if_pos o29] at he
    obtain ⟨j1, j2, j3⟩ := L.jump (.inr (.inr o29))
    split at he
    · cases he
    · split at he
      · have := Except.ok.inj he
        subst this
        exact ⟨⟨F.at (by simp only at j2 ⊢; omega), by show s.loops.map Prod.fst = _; rw [hl]; exact j3.symm⟩, .inl ⟨rfl, by simp only at j1 ⊢; omega, fun e => by omega⟩⟩
      · rename_i hne
        unfold tick at he
        split at he
        · rename_i hst
          have := Except.ok.inj he
          subst this
          have hg := F.got i.a
          have hlen : s.loops.length ≤ 8 := encl_at_len R hl
          unfold u32 at hg
          refine ⟨⟨{ (F.tick hst) with l32 := fun p hp => ?_, llen := by simp; omega, pc := by show s.pc + 1 ≤ _; omega }, ?_⟩, .inr rfl⟩
          · simp only [List.mem_append, List.mem_singleton] at hp
            rcases hp with hp | rfl
            · exact F.l32 p hp
            · exact ⟨hpc, by simp only; omega, by simp only; omega⟩
          · show (s.loops ++ [(s.pc, s.get i.a)]).map Prod.fst = _
            rw [List.map_append, hl]; exact (L.loop1 o29).symm
        · cases he
  rw [if_neg o29] at he
  by_cases o30 : i.op = 30
  · rw [if_pos o30] at he
    have := Except.ok.inj he
    split at this
    · subst this
      exact plain _ rfl F rfl rfl rfl (by omega)
    · subst this
      rcases L.leave o30 with ⟨l1, l2, l3, l4⟩ | ⟨_, hx, _⟩
      · refine ⟨⟨{ F with l32 := fun p hp => F.l32 p (List.dropLast_subset _ hp), llen := by have := F.llen; simp; omega, pc := by simp only at l3 ⊢; omega }, ?_⟩, .inl ⟨rfl, by simp only at l2 ⊢; omega, fun e => by omega⟩⟩
        show s.loops.dropLast.map Prod.fst = _
        rw [List.map_dropLast, hl]; exact l4.symm
      · cases hx
  rw [if_neg o30] at he
  by_cases o31 : i.op = 31
  · rw [if_pos o31] at he
    split at he
    · rename_i hnone
      have := Except.ok.inj he
      subst this
      have hnil : s.loops = [] := by simpa using hnone
      have hE : t.encl 0 s.pc = [] := by rw [← hl, hnil]; rfl
      rcases L.endd o31 with ⟨X, q, h1, _⟩ | ⟨h1, _⟩
      · rw [hE] at h1; simp at h1
      · exact ⟨⟨F.at (by omega), by show s.loops.map Prod.fst = _; rw [hl]; exact h1.symm⟩, .inl ⟨rfl, Nat.le_refl _, fun e => by omega⟩⟩
    · rename_i b l hsome
      obtain ⟨l0, hl0⟩ : ∃ l0, s.loops = l0 ++ [(b, l)] := by
        rcases List.eq_nil_or_concat s.loops with h | ⟨l0, x, h⟩
        · rw [h] at hsome; simp at hsome
        · rw [h, List.concat_eq_append] at hsome; simp at hsome; exact ⟨l0, by rw [h, List.concat_eq_append, hsome]⟩
      have hE : t.encl 0 s.pc = l0.map Prod.fst ++ [b] := by rw [← hl, hl0]; simp
      have hbl := F.l32 (b, l) (by rw [hl0]; simp)
      split at he
      · rename_i hne
        have := Except.ok.inj he
        subst this
        rcases L.endd o31 with ⟨X, q, h1, _, _, h4, _⟩ | ⟨h1, _⟩
        · rw [hE] at h1
          have := (List.append_inj' h1 rfl).2
          simp at this
          subst this
          exact absurd h4 hne
        · exact ⟨⟨F.at (by omega), by show s.loops.map Prod.fst = _; rw [hl]; exact h1.symm⟩, .inl ⟨rfl, Nat.le_refl _, fun e => by omega⟩⟩
      · rename_i heq
        rcases L.endd o31 with ⟨X, q, h1, _, h3, h4, h5, h6⟩ | ⟨_, h2⟩
        · rw [hE] at h1
          obtain ⟨hX, hq⟩ := List.append_inj' h1 rfl
          simp at hq
          subst hq
          split at he
          · have := Except.ok.inj he
            subst this
            refine ⟨⟨{ F with l32 := fun p hp => F.l32 p (List.dropLast_subset _ hp), llen := by have := F.llen; simp; omega, pc := by show s.pc + 1 ≤ _; omega }, ?_⟩, .inl ⟨rfl, Nat.le_refl _, fun e => by omega⟩⟩
            show s.loops.dropLast.map Prod.fst = _
            rw [hl0, List.dropLast_concat, hX]; exact h5.symm
          · rename_i hl1
            unfold tick at he
            split at he
            · rename_i hst
              have := Except.ok.inj he
              subst this
              refine ⟨⟨{ (F.tick hst) with l32 := fun p hp => ?_, llen := by have := F.llen; rw [hl0] at this ⊢; simp at this ⊢; omega, pc := by show b + 1 ≤ _; simp only at hbl; omega }, ?_⟩, .inr rfl⟩
              · simp only [hl0, List.dropLast_concat, List.mem_append, List.mem_singleton] at hp
                rcases hp with hp | rfl
                · exact F.l32 p (by rw [hl0]; simp [hp])
                · simp only at hbl ⊢; omega
              · show (s.loops.dropLast ++ [(b, l - 1)]).map Prod.fst = t.encl 0 (b + 1)
                rw [h6, hE, hl0]; simp
            · cases he
        · have := h2 b (by rw [hE]; simp)
          exact absurd (by simpa using heq) this
  rw [if_neg o31] at he
  split at he
  · rename_i hok
    exact plain _ (Except.ok.inj he).symm (F.put _ (arith_u32 _ _ _ (F.got _) (F.got _) hok)) rfl rfl rfl (by omega)
  · cases he
end Go.Proofs.Ytefdnjhhaejgbaa

namespace Go.Proofs.Ytefdnjhhaejgbaa
open Go.RowKit
set_option linter.unusedVariables false
theorem step_inv {c : MC} {t : T} (R : RCode c t) {s s' : PS} (I : RInv c t s) (hpc : s.pc < c.cd.length) (h : mstep c s = .ok s') : RInv c t s' ∧ rmu c s' < rmu c s := by
  unfold mstep at h
  have F := I.fine
  by_cases ho : (c.cd.getD s.pc default).op ≠ 28 ∧ (c.cd.getD s.pc default).op ≠ 31
  · simp only [if_pos ho] at h
    unfold tick at h
    split at h
    · rename_i hst
      simp only [Except.bind] at h
      have hs1 : ({ s with steps := s.steps + 1 } : PS).pc = s.pc := rfl
      cases he : effect c { s with steps := s.steps + 1 } (c.cd.getD s.pc default) with
      | error n => rw [he] at h; cases h
      | ok s2 =>
        rw [he] at h
        have := Except.ok.inj h
        subst this
        obtain ⟨i1, i2⟩ := eff_inv R (s := { s with steps := s.steps + 1 }) (F.tick hst) I.loops hpc he
        refine ⟨i1, ?_⟩
        have hfu := i1.fine.st1
        rcases i2 with ⟨h1, _, _⟩ | h1
        · exact rmu_tick h1 hfu F.pc
        · have e : (c.fuel - s.steps).toNat = (c.fuel - s2.steps).toNat + 2 := by simp only at h1 hfu ⊢; omega
          unfold rmu
          simp only
          rw [e, Nat.add_mul]
          omega
    · simp only [Except.bind] at h; cases h
  · simp only [if_neg ho, Except.bind] at h
    cases he : effect c s (c.cd.getD s.pc default) with
    | error n => rw [he] at h; cases h
    | ok s2 =>
      rw [he] at h
      have := Except.ok.inj h
      subst this
      obtain ⟨i1, i2⟩ := eff_inv R F I.loops hpc he
      refine ⟨i1, ?_⟩
      rcases i2 with ⟨h1, h2, _⟩ | h1
      · exact rmu_on h1 (by show s.pc < s2.pc + 1; omega) F.pc
      · exact rmu_tick h1 i1.fine.st1 F.pc
theorem mrun_stable {c : MC} {t : T} (R : RCode c t) : ∀ (n : Nat) (s : PS) (m m' : Nat), RInv c t s → rmu c s ≤ n → rmu c s < m → rmu c s < m' → mrun c m s = mrun c m' s
  | n, s, 0, m', _, _, h, _ => by omega
  | n, s, m + 1, 0, _, _, _, h => by omega
  | n, s, m + 1, m' + 1, I, hn, h1, h2 => by
    unfold mrun
    by_cases hpc : s.pc < c.cd.length
    · rw [if_pos hpc, if_pos hpc]
      cases hs : mstep c s with
      | error e => rfl
      | ok s' =>
        obtain ⟨i1, i2⟩ := step_inv R I hpc hs
        cases n with
        | zero => omega
        | succ n => exact mrun_stable R n s' m m' i1 (by omega) (by omega) (by omega)
    · rw [if_neg hpc, if_neg hpc]
theorem mrun_inv {c : MC} {t : T} (R : RCode c t) : ∀ (m : Nat) (s s' : PS), RInv c t s → mrun c m s = .ok s' → RInv c t s'
  | 0, s, s', I, h => by cases h; exact I
  | m + 1, s, s', I, h => by
    unfold mrun at h
    by_cases hpc : s.pc < c.cd.length
    · rw [if_pos hpc] at h
      cases hs : mstep c s with
      | error e => rw [hs] at h; cases h
      | ok s2 =>
        rw [hs] at h
        exact mrun_inv R m s2 s' (step_inv R I hpc hs).1 h
    · rw [if_neg hpc] at h; cases h; exact I
def mres (c : MC) (s : PS) : Except Int PS := mrun c (rmu c s + 1) s
theorem mres_eq {c : MC} {t : T} (R : RCode c t) {s : PS} (I : RInv c t s) : mres c s = if s.pc < c.cd.length then (mstep c s).bind (mres c) else .ok s := by
  unfold mres
  rw [mrun]
  split
  · rename_i hpc
    cases hs : mstep c s with
    | error e => rfl
    | ok s' =>
      obtain ⟨i1, i2⟩ := step_inv R I hpc hs
      exact mrun_stable R _ s' _ _ i1 (Nat.le_refl _) i2 (Nat.lt_succ_self _)
  · rfl
theorem runs_all {c : MC} {t : T} (R : RCode c t) {s0 : PS} (I : RInv c t s0) : RunsTo c s0 (mres c s0) := by
  refine ⟨RInv c t, rmu c, mres c, fun s h => h.fine, fun s h hpc => ?_, fun s s' h hpc hs => step_inv R h hpc hs, fun s h => mres_eq R h, I, rfl, fun s hs => mrun_inv R _ s0 s I hs⟩
  have hmem : c.cd.getD s.pc default ∈ c.cd := by rw [List.getD_eq_getElem?_getD, List.getElem?_eq_getElem hpc]; exact List.getElem_mem hpc
  have L := R.loc hpc
  refine ⟨R.ins _ hmem, R.arg _ hmem, fun h30 hnil => ?_, fun h29 => ?_⟩
  · have hE : t.encl 0 s.pc = [] := by rw [← h.loops, hnil]; rfl
    rcases L.leave h30 with ⟨l1, _⟩ | ⟨_, hx, _⟩
    · exact l1 hE
    · cases hx
  · have := encl_at_len R h.loops; omega
end Go.Proofs.Ytefdnjhhaejgbaa

namespace Go.Proofs.Ytefdnjhhaejgbaa
open Go.RowKit
set_option linter.unusedVariables false
def execT : PT :=
  let r := PT.alt 11 (.alt 12 (.alt 13 .fin .none) .none) .none
  .alt 3 (.alt 7 (.alt 10 r .none) (.alt 10 (.alt 7 r .none) .none)) (.alt 7 (.alt 3 (.alt 10 r .none) (.alt 10 (.alt 3 r .none) .none)) (.alt 10 (.alt 3 (.alt 7 r .none) (.alt 7 (.alt 3 r .none) .none)) .none))
theorem wpTree_alt {P : Program} {ops : Array Oper} {Q : Exit → Act → World → Prop} {S : World → Prop} {j : Nat} {r more : PT} {o : Oper} {a : Act} {w : World} (ho : ops[j]? = some o)
    (h1 : wpList P ops (Exit.then (fun a' w' => S w' ∧ wpTree P ops Q S r a' w') Q) [o] a w) (h2 : wpTree P ops Q S more a w) : wpTree P ops Q S (.alt j r more) a w := by
  unfold wpTree
  exact ⟨by rw [ho]; exact h1, h2⟩
theorem wpTree_gen {P : Program} {ops : Array Oper} {Q : Exit → Act → World → Prop} {S : World → Prop} {T : PT} {a : Act} {w : World} (F : World → Prop) (hF : F w) (h : ∀ w', F w' → wpTree P ops Q S T a w') : wpTree P ops Q S T a w := h w hF
theorem GridOwn.below {B : Nat} {τ : Nat → Nat} {arr : List (List Int)} {ab ac : Nat → Nat} {v : Value} {w w' : World} (h : GridOwn B τ arr ab ac v w) (hb : Below w.heap.size w w') : GridOwn B τ arr ab ac v w' :=
  { h with
    own := h.own.kept (grownBy_of_below hb none) (by cases hv : v.ownBlock <;> simp)
    blk := fun k hk => by obtain ⟨t, ht⟩ := h.blk k hk; exact ⟨t, ht.below hb ht.lt⟩ }
structure CopyDone (B : Nat) (arr : List (List Int)) (ctx : List Int) (lo hi : Nat) (va : Option Addr) (vc cb : Nat) (z : World) : Prop where
  bl : B ≤ lo
  g : ∃ τ ab ac, GridOwn lo τ arr ab ac (.slice va arr.length vc) z ∧ τ cb = 3 ∧ (∀ k, k < arr.length → ab k < hi)
  own : ∀ x, (Value.slice va arr.length vc).ownBlock = some x → x < hi
  ctx : ∃ t, Blk z cb (ints .u32 ctx ++ t) 42
  c1 : lo ≤ cb
  c2 : cb < hi
  hz : hi ≤ z.heap.size
theorem CopyDone.below {B : Nat} {arr : List (List Int)} {ctx : List Int} {lo hi : Nat} {va : Option Addr} {vc cb : Nat} {z z' : World} (h : CopyDone B arr ctx lo hi va vc cb z) (hb : Below z.heap.size z z') : CopyDone B arr ctx lo hi va vc cb z' :=
  { h with
    g := by obtain ⟨τ, ab, ac, h1, h2, h3⟩ := h.g; exact ⟨τ, ab, ac, h1.below hb, h2, h3⟩
    ctx := by obtain ⟨t, ht⟩ := h.ctx; exact ⟨t, ht.below hb ht.lt⟩
    hz := Nat.le_trans h.hz hb.size }
theorem grid_slice {B : Nat} {τ : Nat → Nat} {arr : List (List Int)} {ab ac : Nat → Nat} {v : Value} {w : World} (h : GridOwn B τ arr ab ac v w) : ∃ va vc, v = .slice va arr.length vc := by
  rcases h.own.2 with ⟨h1, h2⟩ | ⟨g, cc, cur, h1, _⟩
  · exact ⟨none, 0, by rw [h1, h2]⟩
  · exact ⟨_, cc, h1⟩
theorem copy_done {B : Nat} {τ : Nat → Nat} {arr : List (List Int)} {ctx : List Int} {ab ac : Nat → Nat} {va : Option Addr} {vc cb : Nat} {z y : World} (h : GridOwn z.heap.size τ arr ab ac (.slice va arr.length vc) y)
    (hc : ∃ t, Blk y cb (ints .u32 ctx ++ t) 42) (tcb : τ cb = 3) (hcb : z.heap.size ≤ cb) (hB : B ≤ z.heap.size) : CopyDone B arr ctx z.heap.size y.heap.size va vc cb y :=
  ⟨hB, ⟨τ, ab, ac, h, tcb, fun k hk => by obtain ⟨t, ht⟩ := h.blk k hk; exact ht.lt⟩, fun x hx => (h.own.lt x hx).2, hc, hcb, by obtain ⟨t, ht⟩ := hc; exact ht.lt, Nat.le_refl _⟩
theorem CopyDone.parts {B : Nat} {c : MC} {arr : List (List Int)} {ctx : List Int} {lo hi rb sb : Nat} {va : Option Addr} {vc cb cc : Nat} {z : World} (h : CopyDone B arr ctx lo hi va vc cb z)
    (hr : Blk z rb (ints .u32 (List.replicate c.regs 0)) 42) (hs : Blk z sb (ints .u32 (List.replicate c.spills 0)) 42) (h1 : rb < lo ∨ hi ≤ rb) (h2 : sb < lo ∨ hi ≤ sb) (h3 : rb ≠ sb) (h4 : B ≤ rb) (h5 : B ≤ sb) (h6 : B ≤ z.heap.size) : Parts B c arr ctx rb sb cb cc va vc z :=
  ⟨by obtain ⟨τ, ab, ac, g1, g2, g3⟩ := h.g; exact ⟨lo, hi, τ, ab, ac, h.bl, g1, g2, h.c1, h.c2, g3, h.own, h.hz, h1, h2⟩, h.ctx, hr, hs, h3, h4, h5, h6⟩
def EndPost (w w9 : World) (r : Except Int PS) (e : Ending) : Prop :=
  Blk w9 (w.heap.size + 1 + 1 + 1) zeroRun 49 ∧ ∃ qa na cq ca nb cc oa no oc st er, e = .returned (.tuple #[.agg #[.slice qa na cq, .slice ca nb cc, .slice oa no oc, .int .i64 st], .int .i64 er]) ∧
    ExecPost w r e ((((w9.setCell ⟨w.heap.size + 1 + 1 + 1, 0, none⟩ (.slice qa na cq)).setCell ⟨w.heap.size + 1 + 1 + 1, 1, none⟩ (.slice ca nb cc)).setCell ⟨w.heap.size + 1 + 1 + 1, 2, none⟩ (.slice oa no oc)).setCell ⟨w.heap.size + 1 + 1 + 1, 3, none⟩ (.int .i64 st))
theorem end_post {w W z w9 : World} {r : Except Int PS} {e : Ending} (hbW : Below w.heap.size w W) (hres : Blk W (w.heap.size + 1 + 1 + 1) zeroRun 49) (hsW : W.heap.size = w.heap.size + 4) (hb : Below W.heap.size W z) (h : LeafPost w.heap.size W.heap.size z r e w9) : EndPost w w9 r e := by
  obtain ⟨h1, h2, h3⟩ := h
  have hwz : Below w.heap.size w z := hbW.trans (hb.mono (by omega))
  have hr9 : Blk w9 (w.heap.size + 1 + 1 + 1) zeroRun 49 := by
    unfold Blk
    rw [h2 _ (by omega), hb.block _ (by omega)]
    exact hres
  have hx : w.heap.size ≤ w.heap.size + 1 + 1 + 1 := by omega
  have hbel := fun v0 v1 v2 v3 => ((((hwz.trans h1).setCell (p := ⟨w.heap.size + 1 + 1 + 1, 0, none⟩) hx v0).setCell (p := ⟨w.heap.size + 1 + 1 + 1, 1, none⟩) hx v1).setCell (p := ⟨w.heap.size + 1 + 1 + 1, 2, none⟩) hx v2).setCell (p := ⟨w.heap.size + 1 + 1 + 1, 3, none⟩) hx v3
  cases r with
  | ok s =>
    obtain ⟨qa, cq, ca, cc, oa, oc, rfl, hv⟩ := h3
    refine ⟨hr9, _, _, _, _, _, _, _, _, _, _, _, rfl, hbel _ _ _ _, _, rfl, fun w2 h5 h6 => hv w2 (fun k hk => ?_) (by rw [h6]; simp [World.setCell])⟩
    have hne : k ≠ w.heap.size + 1 + 1 + 1 := by omega
    rw [h5 k (by omega), Below.heap_setCell _ _ _ _ hne, Below.heap_setCell _ _ _ _ hne, Below.heap_setCell _ _ _ _ hne, Below.heap_setCell _ _ _ _ hne]
  | error n => exact ⟨hr9, _, _, _, _, _, _, _, _, _, _, _, h3, hbel _ _ _ _, h3⟩
set_option maxRecDepth 100000 in
set_option maxHeartbeats 1000000 in
theorem execute_any (c : MC) (arr : List (List Int)) (ctx : List Int) (r : Except Int PS) (hr : RunsTo c (c.init arr ctx) r) (arsA codeA ptA qa ca : Option Addr) (arsC codeC ptC cq cc0 : Nat) (w : World)
    (hcd : RowB w.heap.size w 5 codeA c.cd.length fun i j => (c.cd.getD i default).cell j) (hpt : RowB w.heap.size w 1 ptA c.pt.length fun i _ => .int .i64 (c.pt.getD i 0 : Nat))
    (hars : RowB w.heap.size w 2 arsA c.ars.length fun i j => (c.ars.getD i default).cell j) (hg : GridAt w qa arr) (hctx : NumsAt w ca ctx)
    (hn : arr.length ≤ 8) (h1 : ∀ a ∈ arr, 0 < a.length ∧ a.length ≤ 65536) (hc : 0 < ctx.length ∧ ctx.length ≤ 16) (hregs : c.regs ≤ 1024) (hspl : c.spills ≤ 1024) :
    Calls Try.prog 39 #[.agg #[.slice arsA c.ars.length arsC, .int .i64 c.regs, .int .i64 c.spills, .slice codeA c.cd.length codeC], .slice ptA c.pt.length ptC, .agg #[.slice qa arr.length cq, .slice ca ctx.length cc0], .agg #[.int .u32 c.input, .bool c.ended, .int .i64 c.fuel]] w (ExecPost w r) := by
  have m1 := run_make_u32 c.regs (by omega)
  have m2 := run_make_u32 c.spills (by omega)
  have HCD := Lib.hid hcd
  have HPT := Lib.hid hpt
  have HARS := Lib.hid hars
  have HG := Lib.hid hg
  have HCTX := Lib.hid hctx
  have HR := Lib.hid hr
  have H1 := Lib.hid h1
  clear hcd hpt hars hg hctx hr h1
  go_enter Try.func39, Try.ntmps39
  go_wp2_with fail
  refine wp_gen (fun W => Below w.heap.size w W ∧ Blk W w.heap.size [.slice arsA c.ars.length arsC, .int .i64 c.regs, .int .i64 c.spills, .slice codeA c.cd.length codeC] 25 ∧ Blk W (w.heap.size + 1) [.slice qa arr.length cq, .slice ca ctx.length cc0] 31 ∧
      Blk W (w.heap.size + 1 + 1) [.int .u32 c.input, .bool c.ended, .int .i64 c.fuel] 44 ∧ Blk W (w.heap.size + 1 + 1 + 1) zeroRun 49 ∧ W.heap.size = w.heap.size + 4) ?_ ?_
  · refine ⟨((((Below.refl _ _).alloc (by simp) _).alloc (by simp) _).alloc (by simp; omega) _).alloc (by simp; omega) _, ?_, ?_, ?_, ?_, by simp⟩
    · unfold Blk
      rw [Below.heap_alloc _ _ _ (by simp; omega), Below.heap_alloc _ _ _ (by simp; omega), Below.heap_alloc _ _ _ (by simp)]
      exact heap_new1 _ _
    · unfold Blk
      rw [Below.heap_alloc _ _ _ (by simp), Below.heap_alloc _ _ _ (by simp)]
      exact heap_new2 _ _ _
    · unfold Blk
      rw [Below.heap_alloc _ _ _ (by simp)]
      have := heap_new1 ((w.alloc (.cells #[.slice arsA c.ars.length arsC, .int .i64 c.regs, .int .i64 c.spills, .slice codeA c.cd.length codeC] 25)).alloc (.cells #[.slice qa arr.length cq, .slice ca ctx.length cc0] 31)) (.cells #[.int .u32 c.input, .bool c.ended, .int .i64 c.fuel] 44)
      simpa using this
    · unfold Blk
      have := heap_new1 (((w.alloc (.cells #[.slice arsA c.ars.length arsC, .int .i64 c.regs, .int .i64 c.spills, .slice codeA c.cd.length codeC] 25)).alloc (.cells #[.slice qa arr.length cq, .slice ca ctx.length cc0] 31)).alloc (.cells #[.int .u32 c.input, .bool c.ended, .int .i64 c.fuel] 44)) (.cells #[.slice none 0 0, .slice none 0 0, .slice none 0 0, .int .i64 0] 49)
      simpa [zeroRun] using this
  rintro W ⟨hbW, bk1, bk2, bk3, bk4, hsW⟩
  have a0 : W.cell? ⟨w.heap.size, 0, none⟩ = some (.slice arsA c.ars.length arsC) := bk1.cell 0
  have a1 : W.cell? ⟨w.heap.size, 0 + 1, none⟩ = some (.int .i64 c.regs) := bk1.cell 1
  have a2 : W.cell? ⟨w.heap.size, 0 + 1 + 1, none⟩ = some (.int .i64 c.spills) := bk1.cell 2
  have a3 : W.cell? ⟨w.heap.size, 0 + 1 + 1 + 1, none⟩ = some (.slice codeA c.cd.length codeC) := bk1.cell 3
  have b0 : W.cell? ⟨w.heap.size + 1, 0, none⟩ = some (.slice qa arr.length cq) := bk2.cell 0
  have b1 : W.cell? ⟨w.heap.size + 1, 0 + 1, none⟩ = some (.slice ca ctx.length cc0) := bk2.cell 1
  have d0 : W.cell? ⟨w.heap.size + 1 + 1, 0, none⟩ = some (.int .u32 c.input) := bk3.cell 0
  have d1 : W.cell? ⟨w.heap.size + 1 + 1, 0 + 1, none⟩ = some (.bool c.ended) := bk3.cell 1
  have d2 : W.cell? ⟨w.heap.size + 1 + 1, 0 + 1 + 1, none⟩ = some (.int .i64 c.fuel) := bk3.cell 2
  have a1' : W.cell? ⟨w.heap.size, 1, none⟩ = some (.int .i64 c.regs) := bk1.cell 1
  have a2' : W.cell? ⟨w.heap.size, 2, none⟩ = some (.int .i64 c.spills) := bk1.cell 2
  have l0 : w.heap.size < W.heap.size := by omega
  have l1 : w.heap.size + 1 < W.heap.size := by omega
  have l2 : w.heap.size + 1 + 1 < W.heap.size := by omega
  have HW := Lib.hid (And.intro hbW (And.intro bk4 hsW))
  clear hbW bk1 bk2 bk3 bk4 hsW
  refine wp_region_fork [0, 2, 4, 6, 9] [1, 5, 8] [(2, 1), (2, 5), (2, 8), (1, 0), (1, 2), (1, 4), (1, 6), (1, 9)] execT (by kernel_rfl) (by kernel_rfl) (fun c a d v w h => by cases d <;> exact h) ?_
  simp only [getPlan, List.filterMap_cons, List.filterMap_nil, List.getElem?_toArray, List.getElem?_cons_succ, List.getElem?_cons_zero, Option.map_some]
  repeat ((first | refine wpPlan_pure (fun K hK => ?_) | refine wpPlan_float (fun K hK => ?_)); go_simp; refine hK _ ?_; clear hK K)
  clear a0 a1 a2 a3 b0 b1 d0 d1 d2 a1' a2' l0 l1 l2
  have HWZ := Lib.hid (fun (z : World) (h : Below W.heap.size W z) => HW.out.1.trans (h.mono (by have := HW.out.2.2; omega)))
  have HSZ := Lib.hid (show w.heap.size ≤ W.heap.size from HW.out.1.size)
  have HEND := Lib.hid (fun (z : World) (h : Below W.heap.size W z) (e : Ending) (w9 : World) (hp : LeafPost w.heap.size W.heap.size z r e w9) => end_post HW.out.1 HW.out.2.1 HW.out.2.2 h hp)
  refine wpPlan_nil ?_
  show wpTree _ _ _ _ _ _ _
  refine wpTree_gen (fun z => Below W.heap.size W z) (Below.refl _ _).drew ?_
  intro z hb_z
  unfold execT
  have s_z := hb_z.size
  refine wpTree_alt rfl ?_ ?_
  · go_wp2_with fail
    refine (copied_any qa ca cq cc0 arr ctx _ (HG.out.below (HWZ.out _ hb_z)) (HCTX.out.below (HWZ.out _ hb_z)) hn H1.out hc).mono ?_
    rintro e y1 ⟨v, τ, ab, ac, cb, cc, rfl, hgo, hcx, tcb, hcb, hby⟩
    obtain ⟨va, vc, rfl⟩ := grid_slice hgo
    have FC_y1 := copy_done hgo hcx tcb hcb hb_z.size
    clear hgo hcx tcb hcb
    have hb_y1 : Below W.heap.size W y1 := hb_z.trans (hby.mono hb_z.size)
    go_wp2_with fail
    refine ⟨grew_below hb_y1, ?_⟩
    have s_y1 := hby.size
    have k_y1 : W.heap.size ≤ y1.heap.size := hb_y1.size
    clear hby
    refine wpTree_alt rfl ?_ ?_
    · go_wp2_with fail
      refine ⟨grew_below (hb_y1.alloc hb_y1.size _), ?_⟩
      refine wpTree_gen (fun y => Below y1.heap.size y1 y ∧ Blk y y1.heap.size (ints .u32 (List.replicate c.regs 0)) 42) ⟨(Below.refl _ _).alloc (Nat.le_refl _) _, heap_new1 _ _⟩ ?_
      rintro y2 ⟨hby, Fr_y2⟩
      have hb_y2 : Below W.heap.size W y2 := hb_y1.trans (hby.mono hb_y1.size)
      have t_y2 := Fr_y2.lt
      have FC_y2 := FC_y1.below hby
      have s_y2 := hby.size
      have k_y2 : W.heap.size ≤ y2.heap.size := hb_y2.size
      clear hby
      refine wpTree_alt rfl ?_ ?_
      · go_wp2_with fail
        refine ⟨grew_below (hb_y2.alloc hb_y2.size _), ?_⟩
        refine wpTree_gen (fun y => Below y2.heap.size y2 y ∧ Blk y y2.heap.size (ints .u32 (List.replicate c.spills 0)) 42) ⟨(Below.refl _ _).alloc (Nat.le_refl _) _, heap_new1 _ _⟩ ?_
        rintro y3 ⟨hby, Fs_y3⟩
        have hb_y3 : Below W.heap.size W y3 := hb_y2.trans (hby.mono hb_y2.size)
        have t_y3 := Fs_y3.lt
        have FC_y3 := FC_y2.below hby
        have Fr_y3 := Fr_y2.below hby Fr_y2.lt
        have s_y3 := hby.size
        have k_y3 : W.heap.size ≤ y3.heap.size := hb_y3.size
        clear hby
        have l_r := Fr_y3.lt
        have l_s := Fs_y3.lt
        have l_c := FC_y3.hz
        have PP : Parts W.heap.size c arr ctx y1.heap.size y2.heap.size cb cc va vc y3 := FC_y3.parts Fr_y3 Fs_y3 (by omega) (by omega) (by omega) (by omega) (by omega) hb_y3.size
        have LF := guard_leaf HR.out (B0 := w.heap.size) HSZ.out PP (arsC := arsC) (codeC := codeC) (ptC := ptC) (HCD.out.below (HWZ.out _ hb_y3)) (HPT.out.below (HWZ.out _ hb_y3)) (HARS.out.below (HWZ.out _ hb_y3)) hn
        have HLF := Lib.hid LF
        clear LF PP
        refine wpTree_alt rfl ?_ trivial
        go_wp2_with fail
        refine ⟨grew_below (by first | exact hb_y3 | exact hb_y3.alloc hb_y3.size _), ?_⟩
        refine wpTree_alt rfl ?_ trivial
        go_wp2_with fail
        refine ⟨grew_below (by first | exact hb_y3 | exact hb_y3.alloc hb_y3.size _), ?_⟩
        refine wpTree_alt rfl ?_ trivial
        go_wp2_with fail
        refine ⟨grew_below (by first | exact hb_y3 | exact hb_y3.alloc hb_y3.size _), ?_⟩
        show Exit.then _ _ _ _ _
        go_wp2_with fail
        refine HLF.out.mono ?_
        intro e w9 hpost
        have HP := HEND.out y3 hb_y3 e w9 hpost
        clear hpost
        obtain ⟨hr9, qa', na, cq', ca', nb, cc', oa, no, oc, st, er, rfl, hex⟩ := HP
        have z0 : w9.cell? ⟨w.heap.size + 1 + 1 + 1, 0, none⟩ = some (.slice none 0 0) := hr9.cell 0
        have z1 : w9.cell? ⟨w.heap.size + 1 + 1 + 1, 0 + 1, none⟩ = some (.slice none 0 0) := hr9.cell 1
        have z2 : w9.cell? ⟨w.heap.size + 1 + 1 + 1, 0 + 1 + 1, none⟩ = some (.slice none 0 0) := hr9.cell 2
        have z3 : w9.cell? ⟨w.heap.size + 1 + 1 + 1, 0 + 1 + 1 + 1, none⟩ = some (.int .i64 0) := hr9.cell 3
        have f0 := hr9.frozen 0
        have f1 := hr9.frozen (0 + 1)
        have f2 := hr9.frozen (0 + 1 + 1)
        have f3 := hr9.frozen (0 + 1 + 1 + 1)
        have HEX := Lib.hid hex
        clear hex
        go_wp2
        refine bodyPost_ret (v := .tuple #[.agg #[.slice qa' na cq', .slice ca' nb cc', .slice oa no oc, .int .i64 st], .int .i64 er]) ?_ rfl ?_
        · have e0 := ((((hr9.set 0 (.slice qa' na cq')).set 1 (.slice ca' nb cc')).set 2 (.slice oa no oc)).set 3 (.int .i64 st))
          have y0 := e0.cell 0
          have y1 := e0.cell 1
          have y2 := e0.cell 2
          have y3 := e0.cell 3
          simp only [zeroRun, List.set_cons_zero, List.set_cons_succ, List.getElem?_cons_zero, List.getElem?_cons_succ] at y0 y1 y2 y3
          simp [results, Try.results39, go_sem, y0, y1, y2, y3]
        · exact HEX.out
      exact trivial
    refine wpTree_alt rfl ?_ ?_
    · go_wp2_with fail
      refine ⟨grew_below (hb_y1.alloc hb_y1.size _), ?_⟩
      refine wpTree_gen (fun y => Below y1.heap.size y1 y ∧ Blk y y1.heap.size (ints .u32 (List.replicate c.spills 0)) 42) ⟨(Below.refl _ _).alloc (Nat.le_refl _) _, heap_new1 _ _⟩ ?_
      rintro y4 ⟨hby, Fs_y4⟩
      have hb_y4 : Below W.heap.size W y4 := hb_y1.trans (hby.mono hb_y1.size)
      have t_y4 := Fs_y4.lt
      have FC_y4 := FC_y1.below hby
      have s_y4 := hby.size
      have k_y4 : W.heap.size ≤ y4.heap.size := hb_y4.size
      clear hby
      refine wpTree_alt rfl ?_ ?_
      · go_wp2_with fail
        refine ⟨grew_below (hb_y4.alloc hb_y4.size _), ?_⟩
        refine wpTree_gen (fun y => Below y4.heap.size y4 y ∧ Blk y y4.heap.size (ints .u32 (List.replicate c.regs 0)) 42) ⟨(Below.refl _ _).alloc (Nat.le_refl _) _, heap_new1 _ _⟩ ?_
        rintro y5 ⟨hby, Fr_y5⟩
        have hb_y5 : Below W.heap.size W y5 := hb_y4.trans (hby.mono hb_y4.size)
        have t_y5 := Fr_y5.lt
        have FC_y5 := FC_y4.below hby
        have Fs_y5 := Fs_y4.below hby Fs_y4.lt
        have s_y5 := hby.size
        have k_y5 : W.heap.size ≤ y5.heap.size := hb_y5.size
        clear hby
        have l_r := Fr_y5.lt
        have l_s := Fs_y5.lt
        have l_c := FC_y5.hz
        have PP : Parts W.heap.size c arr ctx y4.heap.size y1.heap.size cb cc va vc y5 := FC_y5.parts Fr_y5 Fs_y5 (by omega) (by omega) (by omega) (by omega) (by omega) hb_y5.size
        have LF := guard_leaf HR.out (B0 := w.heap.size) HSZ.out PP (arsC := arsC) (codeC := codeC) (ptC := ptC) (HCD.out.below (HWZ.out _ hb_y5)) (HPT.out.below (HWZ.out _ hb_y5)) (HARS.out.below (HWZ.out _ hb_y5)) hn
        have HLF := Lib.hid LF
        clear LF PP
        refine wpTree_alt rfl ?_ trivial
        go_wp2_with fail
        refine ⟨grew_below (by first | exact hb_y5 | exact hb_y5.alloc hb_y5.size _), ?_⟩
        refine wpTree_alt rfl ?_ trivial
        go_wp2_with fail
        refine ⟨grew_below (by first | exact hb_y5 | exact hb_y5.alloc hb_y5.size _), ?_⟩
        refine wpTree_alt rfl ?_ trivial
        go_wp2_with fail
        refine ⟨grew_below (by first | exact hb_y5 | exact hb_y5.alloc hb_y5.size _), ?_⟩
        show Exit.then _ _ _ _ _
        go_wp2_with fail
        refine HLF.out.mono ?_
        intro e w9 hpost
        have HP := HEND.out y5 hb_y5 e w9 hpost
        clear hpost
        obtain ⟨hr9, qa', na, cq', ca', nb, cc', oa, no, oc, st, er, rfl, hex⟩ := HP
        have z0 : w9.cell? ⟨w.heap.size + 1 + 1 + 1, 0, none⟩ = some (.slice none 0 0) := hr9.cell 0
        have z1 : w9.cell? ⟨w.heap.size + 1 + 1 + 1, 0 + 1, none⟩ = some (.slice none 0 0) := hr9.cell 1
        have z2 : w9.cell? ⟨w.heap.size + 1 + 1 + 1, 0 + 1 + 1, none⟩ = some (.slice none 0 0) := hr9.cell 2
        have z3 : w9.cell? ⟨w.heap.size + 1 + 1 + 1, 0 + 1 + 1 + 1, none⟩ = some (.int .i64 0) := hr9.cell 3
        have f0 := hr9.frozen 0
        have f1 := hr9.frozen (0 + 1)
        have f2 := hr9.frozen (0 + 1 + 1)
        have f3 := hr9.frozen (0 + 1 + 1 + 1)
        have HEX := Lib.hid hex
        clear hex
        go_wp2
        refine bodyPost_ret (v := .tuple #[.agg #[.slice qa' na cq', .slice ca' nb cc', .slice oa no oc, .int .i64 st], .int .i64 er]) ?_ rfl ?_
        · have e0 := ((((hr9.set 0 (.slice qa' na cq')).set 1 (.slice ca' nb cc')).set 2 (.slice oa no oc)).set 3 (.int .i64 st))
          have y0 := e0.cell 0
          have y1 := e0.cell 1
          have y2 := e0.cell 2
          have y3 := e0.cell 3
          simp only [zeroRun, List.set_cons_zero, List.set_cons_succ, List.getElem?_cons_zero, List.getElem?_cons_succ] at y0 y1 y2 y3
          simp [results, Try.results39, go_sem, y0, y1, y2, y3]
        · exact HEX.out
      exact trivial
    exact trivial
  refine wpTree_alt rfl ?_ ?_
  · go_wp2_with fail
    refine ⟨grew_below (hb_z.alloc hb_z.size _), ?_⟩
    refine wpTree_gen (fun y => Below z.heap.size z y ∧ Blk y z.heap.size (ints .u32 (List.replicate c.regs 0)) 42) ⟨(Below.refl _ _).alloc (Nat.le_refl _) _, heap_new1 _ _⟩ ?_
    rintro y6 ⟨hby, Fr_y6⟩
    have hb_y6 : Below W.heap.size W y6 := hb_z.trans (hby.mono hb_z.size)
    have t_y6 := Fr_y6.lt
    have s_y6 := hby.size
    have k_y6 : W.heap.size ≤ y6.heap.size := hb_y6.size
    clear hby
    refine wpTree_alt rfl ?_ ?_
    · go_wp2_with fail
      refine (copied_any qa ca cq cc0 arr ctx _ (HG.out.below (HWZ.out _ hb_y6)) (HCTX.out.below (HWZ.out _ hb_y6)) hn H1.out hc).mono ?_
      rintro e y7 ⟨v, τ, ab, ac, cb, cc, rfl, hgo, hcx, tcb, hcb, hby⟩
      obtain ⟨va, vc, rfl⟩ := grid_slice hgo
      have FC_y7 := copy_done hgo hcx tcb hcb hb_y6.size
      clear hgo hcx tcb hcb
      have hb_y7 : Below W.heap.size W y7 := hb_y6.trans (hby.mono hb_y6.size)
      have Fr_y7 := Fr_y6.below hby Fr_y6.lt
      go_wp2_with fail
      refine ⟨grew_below hb_y7, ?_⟩
      have s_y7 := hby.size
      have k_y7 : W.heap.size ≤ y7.heap.size := hb_y7.size
      clear hby
      refine wpTree_alt rfl ?_ ?_
      · go_wp2_with fail
        refine ⟨grew_below (hb_y7.alloc hb_y7.size _), ?_⟩
        refine wpTree_gen (fun y => Below y7.heap.size y7 y ∧ Blk y y7.heap.size (ints .u32 (List.replicate c.spills 0)) 42) ⟨(Below.refl _ _).alloc (Nat.le_refl _) _, heap_new1 _ _⟩ ?_
        rintro y8 ⟨hby, Fs_y8⟩
        have hb_y8 : Below W.heap.size W y8 := hb_y7.trans (hby.mono hb_y7.size)
        have t_y8 := Fs_y8.lt
        have FC_y8 := FC_y7.below hby
        have Fr_y8 := Fr_y7.below hby Fr_y7.lt
        have s_y8 := hby.size
        have k_y8 : W.heap.size ≤ y8.heap.size := hb_y8.size
        clear hby
        have l_r := Fr_y8.lt
        have l_s := Fs_y8.lt
        have l_c := FC_y8.hz
        have PP : Parts W.heap.size c arr ctx z.heap.size y7.heap.size cb cc va vc y8 := FC_y8.parts Fr_y8 Fs_y8 (by omega) (by omega) (by omega) (by omega) (by omega) hb_y8.size
        have LF := guard_leaf HR.out (B0 := w.heap.size) HSZ.out PP (arsC := arsC) (codeC := codeC) (ptC := ptC) (HCD.out.below (HWZ.out _ hb_y8)) (HPT.out.below (HWZ.out _ hb_y8)) (HARS.out.below (HWZ.out _ hb_y8)) hn
        have HLF := Lib.hid LF
        clear LF PP
        refine wpTree_alt rfl ?_ trivial
        go_wp2_with fail
        refine ⟨grew_below (by first | exact hb_y8 | exact hb_y8.alloc hb_y8.size _), ?_⟩
        refine wpTree_alt rfl ?_ trivial
        go_wp2_with fail
        refine ⟨grew_below (by first | exact hb_y8 | exact hb_y8.alloc hb_y8.size _), ?_⟩
        refine wpTree_alt rfl ?_ trivial
        go_wp2_with fail
        refine ⟨grew_below (by first | exact hb_y8 | exact hb_y8.alloc hb_y8.size _), ?_⟩
        show Exit.then _ _ _ _ _
        go_wp2_with fail
        refine HLF.out.mono ?_
        intro e w9 hpost
        have HP := HEND.out y8 hb_y8 e w9 hpost
        clear hpost
        obtain ⟨hr9, qa', na, cq', ca', nb, cc', oa, no, oc, st, er, rfl, hex⟩ := HP
        have z0 : w9.cell? ⟨w.heap.size + 1 + 1 + 1, 0, none⟩ = some (.slice none 0 0) := hr9.cell 0
        have z1 : w9.cell? ⟨w.heap.size + 1 + 1 + 1, 0 + 1, none⟩ = some (.slice none 0 0) := hr9.cell 1
        have z2 : w9.cell? ⟨w.heap.size + 1 + 1 + 1, 0 + 1 + 1, none⟩ = some (.slice none 0 0) := hr9.cell 2
        have z3 : w9.cell? ⟨w.heap.size + 1 + 1 + 1, 0 + 1 + 1 + 1, none⟩ = some (.int .i64 0) := hr9.cell 3
        have f0 := hr9.frozen 0
        have f1 := hr9.frozen (0 + 1)
        have f2 := hr9.frozen (0 + 1 + 1)
        have f3 := hr9.frozen (0 + 1 + 1 + 1)
        have HEX := Lib.hid hex
        clear hex
        go_wp2
        refine bodyPost_ret (v := .tuple #[.agg #[.slice qa' na cq', .slice ca' nb cc', .slice oa no oc, .int .i64 st], .int .i64 er]) ?_ rfl ?_
        · have e0 := ((((hr9.set 0 (.slice qa' na cq')).set 1 (.slice ca' nb cc')).set 2 (.slice oa no oc)).set 3 (.int .i64 st))
          have y0 := e0.cell 0
          have y1 := e0.cell 1
          have y2 := e0.cell 2
          have y3 := e0.cell 3
          simp only [zeroRun, List.set_cons_zero, List.set_cons_succ, List.getElem?_cons_zero, List.getElem?_cons_succ] at y0 y1 y2 y3
          simp [results, Try.results39, go_sem, y0, y1, y2, y3]
        · exact HEX.out
      exact trivial
    refine wpTree_alt rfl ?_ ?_
    · go_wp2_with fail
      refine ⟨grew_below (hb_y6.alloc hb_y6.size _), ?_⟩
      refine wpTree_gen (fun y => Below y6.heap.size y6 y ∧ Blk y y6.heap.size (ints .u32 (List.replicate c.spills 0)) 42) ⟨(Below.refl _ _).alloc (Nat.le_refl _) _, heap_new1 _ _⟩ ?_
      rintro y9 ⟨hby, Fs_y9⟩
      have hb_y9 : Below W.heap.size W y9 := hb_y6.trans (hby.mono hb_y6.size)
      have t_y9 := Fs_y9.lt
      have Fr_y9 := Fr_y6.below hby Fr_y6.lt
      have s_y9 := hby.size
      have k_y9 : W.heap.size ≤ y9.heap.size := hb_y9.size
      clear hby
      refine wpTree_alt rfl ?_ ?_
      · go_wp2_with fail
        refine (copied_any qa ca cq cc0 arr ctx _ (HG.out.below (HWZ.out _ hb_y9)) (HCTX.out.below (HWZ.out _ hb_y9)) hn H1.out hc).mono ?_
        rintro e y10 ⟨v, τ, ab, ac, cb, cc, rfl, hgo, hcx, tcb, hcb, hby⟩
        obtain ⟨va, vc, rfl⟩ := grid_slice hgo
        have FC_y10 := copy_done hgo hcx tcb hcb hb_y9.size
        clear hgo hcx tcb hcb
        have hb_y10 : Below W.heap.size W y10 := hb_y9.trans (hby.mono hb_y9.size)
        have Fr_y10 := Fr_y9.below hby Fr_y9.lt
        have Fs_y10 := Fs_y9.below hby Fs_y9.lt
        go_wp2_with fail
        refine ⟨grew_below hb_y10, ?_⟩
        have s_y10 := hby.size
        have k_y10 : W.heap.size ≤ y10.heap.size := hb_y10.size
        clear hby
        have l_r := Fr_y10.lt
        have l_s := Fs_y10.lt
        have l_c := FC_y10.hz
        have PP : Parts W.heap.size c arr ctx z.heap.size y6.heap.size cb cc va vc y10 := FC_y10.parts Fr_y10 Fs_y10 (by omega) (by omega) (by omega) (by omega) (by omega) hb_y10.size
        have LF := guard_leaf HR.out (B0 := w.heap.size) HSZ.out PP (arsC := arsC) (codeC := codeC) (ptC := ptC) (HCD.out.below (HWZ.out _ hb_y10)) (HPT.out.below (HWZ.out _ hb_y10)) (HARS.out.below (HWZ.out _ hb_y10)) hn
        have HLF := Lib.hid LF
        clear LF PP
        refine wpTree_alt rfl ?_ trivial
        go_wp2_with fail
        refine ⟨grew_below (by first | exact hb_y10 | exact hb_y10.alloc hb_y10.size _), ?_⟩
        refine wpTree_alt rfl ?_ trivial
        go_wp2_with fail
        refine ⟨grew_below (by first | exact hb_y10 | exact hb_y10.alloc hb_y10.size _), ?_⟩
        refine wpTree_alt rfl ?_ trivial
        go_wp2_with fail
        refine ⟨grew_below (by first | exact hb_y10 | exact hb_y10.alloc hb_y10.size _), ?_⟩
        show Exit.then _ _ _ _ _
        go_wp2_with fail
        refine HLF.out.mono ?_
        intro e w9 hpost
        have HP := HEND.out y10 hb_y10 e w9 hpost
        clear hpost
        obtain ⟨hr9, qa', na, cq', ca', nb, cc', oa, no, oc, st, er, rfl, hex⟩ := HP
        have z0 : w9.cell? ⟨w.heap.size + 1 + 1 + 1, 0, none⟩ = some (.slice none 0 0) := hr9.cell 0
        have z1 : w9.cell? ⟨w.heap.size + 1 + 1 + 1, 0 + 1, none⟩ = some (.slice none 0 0) := hr9.cell 1
        have z2 : w9.cell? ⟨w.heap.size + 1 + 1 + 1, 0 + 1 + 1, none⟩ = some (.slice none 0 0) := hr9.cell 2
        have z3 : w9.cell? ⟨w.heap.size + 1 + 1 + 1, 0 + 1 + 1 + 1, none⟩ = some (.int .i64 0) := hr9.cell 3
        have f0 := hr9.frozen 0
        have f1 := hr9.frozen (0 + 1)
        have f2 := hr9.frozen (0 + 1 + 1)
        have f3 := hr9.frozen (0 + 1 + 1 + 1)
        have HEX := Lib.hid hex
        clear hex
        go_wp2
        refine bodyPost_ret (v := .tuple #[.agg #[.slice qa' na cq', .slice ca' nb cc', .slice oa no oc, .int .i64 st], .int .i64 er]) ?_ rfl ?_
        · have e0 := ((((hr9.set 0 (.slice qa' na cq')).set 1 (.slice ca' nb cc')).set 2 (.slice oa no oc)).set 3 (.int .i64 st))
          have y0 := e0.cell 0
          have y1 := e0.cell 1
          have y2 := e0.cell 2
          have y3 := e0.cell 3
          simp only [zeroRun, List.set_cons_zero, List.set_cons_succ, List.getElem?_cons_zero, List.getElem?_cons_succ] at y0 y1 y2 y3
          simp [results, Try.results39, go_sem, y0, y1, y2, y3]
        · exact HEX.out
      exact trivial
    exact trivial
  refine wpTree_alt rfl ?_ ?_
  · go_wp2_with fail
    refine ⟨grew_below (hb_z.alloc hb_z.size _), ?_⟩
    refine wpTree_gen (fun y => Below z.heap.size z y ∧ Blk y z.heap.size (ints .u32 (List.replicate c.spills 0)) 42) ⟨(Below.refl _ _).alloc (Nat.le_refl _) _, heap_new1 _ _⟩ ?_
    rintro y11 ⟨hby, Fs_y11⟩
    have hb_y11 : Below W.heap.size W y11 := hb_z.trans (hby.mono hb_z.size)
    have t_y11 := Fs_y11.lt
    have s_y11 := hby.size
    have k_y11 : W.heap.size ≤ y11.heap.size := hb_y11.size
    clear hby
    refine wpTree_alt rfl ?_ ?_
    · go_wp2_with fail
      refine (copied_any qa ca cq cc0 arr ctx _ (HG.out.below (HWZ.out _ hb_y11)) (HCTX.out.below (HWZ.out _ hb_y11)) hn H1.out hc).mono ?_
      rintro e y12 ⟨v, τ, ab, ac, cb, cc, rfl, hgo, hcx, tcb, hcb, hby⟩
      obtain ⟨va, vc, rfl⟩ := grid_slice hgo
      have FC_y12 := copy_done hgo hcx tcb hcb hb_y11.size
      clear hgo hcx tcb hcb
      have hb_y12 : Below W.heap.size W y12 := hb_y11.trans (hby.mono hb_y11.size)
      have Fs_y12 := Fs_y11.below hby Fs_y11.lt
      go_wp2_with fail
      refine ⟨grew_below hb_y12, ?_⟩
      have s_y12 := hby.size
      have k_y12 : W.heap.size ≤ y12.heap.size := hb_y12.size
      clear hby
      refine wpTree_alt rfl ?_ ?_
      · go_wp2_with fail
        refine ⟨grew_below (hb_y12.alloc hb_y12.size _), ?_⟩
        refine wpTree_gen (fun y => Below y12.heap.size y12 y ∧ Blk y y12.heap.size (ints .u32 (List.replicate c.regs 0)) 42) ⟨(Below.refl _ _).alloc (Nat.le_refl _) _, heap_new1 _ _⟩ ?_
        rintro y13 ⟨hby, Fr_y13⟩
        have hb_y13 : Below W.heap.size W y13 := hb_y12.trans (hby.mono hb_y12.size)
        have t_y13 := Fr_y13.lt
        have FC_y13 := FC_y12.below hby
        have Fs_y13 := Fs_y12.below hby Fs_y12.lt
        have s_y13 := hby.size
        have k_y13 : W.heap.size ≤ y13.heap.size := hb_y13.size
        clear hby
        have l_r := Fr_y13.lt
        have l_s := Fs_y13.lt
        have l_c := FC_y13.hz
        have PP : Parts W.heap.size c arr ctx y12.heap.size z.heap.size cb cc va vc y13 := FC_y13.parts Fr_y13 Fs_y13 (by omega) (by omega) (by omega) (by omega) (by omega) hb_y13.size
        have LF := guard_leaf HR.out (B0 := w.heap.size) HSZ.out PP (arsC := arsC) (codeC := codeC) (ptC := ptC) (HCD.out.below (HWZ.out _ hb_y13)) (HPT.out.below (HWZ.out _ hb_y13)) (HARS.out.below (HWZ.out _ hb_y13)) hn
        have HLF := Lib.hid LF
        clear LF PP
        refine wpTree_alt rfl ?_ trivial
        go_wp2_with fail
        refine ⟨grew_below (by first | exact hb_y13 | exact hb_y13.alloc hb_y13.size _), ?_⟩
        refine wpTree_alt rfl ?_ trivial
        go_wp2_with fail
        refine ⟨grew_below (by first | exact hb_y13 | exact hb_y13.alloc hb_y13.size _), ?_⟩
        refine wpTree_alt rfl ?_ trivial
        go_wp2_with fail
        refine ⟨grew_below (by first | exact hb_y13 | exact hb_y13.alloc hb_y13.size _), ?_⟩
        show Exit.then _ _ _ _ _
        go_wp2_with fail
        refine HLF.out.mono ?_
        intro e w9 hpost
        have HP := HEND.out y13 hb_y13 e w9 hpost
        clear hpost
        obtain ⟨hr9, qa', na, cq', ca', nb, cc', oa, no, oc, st, er, rfl, hex⟩ := HP
        have z0 : w9.cell? ⟨w.heap.size + 1 + 1 + 1, 0, none⟩ = some (.slice none 0 0) := hr9.cell 0
        have z1 : w9.cell? ⟨w.heap.size + 1 + 1 + 1, 0 + 1, none⟩ = some (.slice none 0 0) := hr9.cell 1
        have z2 : w9.cell? ⟨w.heap.size + 1 + 1 + 1, 0 + 1 + 1, none⟩ = some (.slice none 0 0) := hr9.cell 2
        have z3 : w9.cell? ⟨w.heap.size + 1 + 1 + 1, 0 + 1 + 1 + 1, none⟩ = some (.int .i64 0) := hr9.cell 3
        have f0 := hr9.frozen 0
        have f1 := hr9.frozen (0 + 1)
        have f2 := hr9.frozen (0 + 1 + 1)
        have f3 := hr9.frozen (0 + 1 + 1 + 1)
        have HEX := Lib.hid hex
        clear hex
        go_wp2
        refine bodyPost_ret (v := .tuple #[.agg #[.slice qa' na cq', .slice ca' nb cc', .slice oa no oc, .int .i64 st], .int .i64 er]) ?_ rfl ?_
        · have e0 := ((((hr9.set 0 (.slice qa' na cq')).set 1 (.slice ca' nb cc')).set 2 (.slice oa no oc)).set 3 (.int .i64 st))
          have y0 := e0.cell 0
          have y1 := e0.cell 1
          have y2 := e0.cell 2
          have y3 := e0.cell 3
          simp only [zeroRun, List.set_cons_zero, List.set_cons_succ, List.getElem?_cons_zero, List.getElem?_cons_succ] at y0 y1 y2 y3
          simp [results, Try.results39, go_sem, y0, y1, y2, y3]
        · exact HEX.out
      exact trivial
    refine wpTree_alt rfl ?_ ?_
    · go_wp2_with fail
      refine ⟨grew_below (hb_y11.alloc hb_y11.size _), ?_⟩
      refine wpTree_gen (fun y => Below y11.heap.size y11 y ∧ Blk y y11.heap.size (ints .u32 (List.replicate c.regs 0)) 42) ⟨(Below.refl _ _).alloc (Nat.le_refl _) _, heap_new1 _ _⟩ ?_
      rintro y14 ⟨hby, Fr_y14⟩
      have hb_y14 : Below W.heap.size W y14 := hb_y11.trans (hby.mono hb_y11.size)
      have t_y14 := Fr_y14.lt
      have Fs_y14 := Fs_y11.below hby Fs_y11.lt
      have s_y14 := hby.size
      have k_y14 : W.heap.size ≤ y14.heap.size := hb_y14.size
      clear hby
      refine wpTree_alt rfl ?_ ?_
      · go_wp2_with fail
        refine (copied_any qa ca cq cc0 arr ctx _ (HG.out.below (HWZ.out _ hb_y14)) (HCTX.out.below (HWZ.out _ hb_y14)) hn H1.out hc).mono ?_
        rintro e y15 ⟨v, τ, ab, ac, cb, cc, rfl, hgo, hcx, tcb, hcb, hby⟩
        obtain ⟨va, vc, rfl⟩ := grid_slice hgo
        have FC_y15 := copy_done hgo hcx tcb hcb hb_y14.size
        clear hgo hcx tcb hcb
        have hb_y15 : Below W.heap.size W y15 := hb_y14.trans (hby.mono hb_y14.size)
        have Fr_y15 := Fr_y14.below hby Fr_y14.lt
        have Fs_y15 := Fs_y14.below hby Fs_y14.lt
        go_wp2_with fail
        refine ⟨grew_below hb_y15, ?_⟩
        have s_y15 := hby.size
        have k_y15 : W.heap.size ≤ y15.heap.size := hb_y15.size
        clear hby
        have l_r := Fr_y15.lt
        have l_s := Fs_y15.lt
        have l_c := FC_y15.hz
        have PP : Parts W.heap.size c arr ctx y11.heap.size z.heap.size cb cc va vc y15 := FC_y15.parts Fr_y15 Fs_y15 (by omega) (by omega) (by omega) (by omega) (by omega) hb_y15.size
        have LF := guard_leaf HR.out (B0 := w.heap.size) HSZ.out PP (arsC := arsC) (codeC := codeC) (ptC := ptC) (HCD.out.below (HWZ.out _ hb_y15)) (HPT.out.below (HWZ.out _ hb_y15)) (HARS.out.below (HWZ.out _ hb_y15)) hn
        have HLF := Lib.hid LF
        clear LF PP
        refine wpTree_alt rfl ?_ trivial
        go_wp2_with fail
        refine ⟨grew_below (by first | exact hb_y15 | exact hb_y15.alloc hb_y15.size _), ?_⟩
        refine wpTree_alt rfl ?_ trivial
        go_wp2_with fail
        refine ⟨grew_below (by first | exact hb_y15 | exact hb_y15.alloc hb_y15.size _), ?_⟩
        refine wpTree_alt rfl ?_ trivial
        go_wp2_with fail
        refine ⟨grew_below (by first | exact hb_y15 | exact hb_y15.alloc hb_y15.size _), ?_⟩
        show Exit.then _ _ _ _ _
        go_wp2_with fail
        refine HLF.out.mono ?_
        intro e w9 hpost
        have HP := HEND.out y15 hb_y15 e w9 hpost
        clear hpost
        obtain ⟨hr9, qa', na, cq', ca', nb, cc', oa, no, oc, st, er, rfl, hex⟩ := HP
        have z0 : w9.cell? ⟨w.heap.size + 1 + 1 + 1, 0, none⟩ = some (.slice none 0 0) := hr9.cell 0
        have z1 : w9.cell? ⟨w.heap.size + 1 + 1 + 1, 0 + 1, none⟩ = some (.slice none 0 0) := hr9.cell 1
        have z2 : w9.cell? ⟨w.heap.size + 1 + 1 + 1, 0 + 1 + 1, none⟩ = some (.slice none 0 0) := hr9.cell 2
        have z3 : w9.cell? ⟨w.heap.size + 1 + 1 + 1, 0 + 1 + 1 + 1, none⟩ = some (.int .i64 0) := hr9.cell 3
        have f0 := hr9.frozen 0
        have f1 := hr9.frozen (0 + 1)
        have f2 := hr9.frozen (0 + 1 + 1)
        have f3 := hr9.frozen (0 + 1 + 1 + 1)
        have HEX := Lib.hid hex
        clear hex
        go_wp2
        refine bodyPost_ret (v := .tuple #[.agg #[.slice qa' na cq', .slice ca' nb cc', .slice oa no oc, .int .i64 st], .int .i64 er]) ?_ rfl ?_
        · have e0 := ((((hr9.set 0 (.slice qa' na cq')).set 1 (.slice ca' nb cc')).set 2 (.slice oa no oc)).set 3 (.int .i64 st))
          have y0 := e0.cell 0
          have y1 := e0.cell 1
          have y2 := e0.cell 2
          have y3 := e0.cell 3
          simp only [zeroRun, List.set_cons_zero, List.set_cons_succ, List.getElem?_cons_zero, List.getElem?_cons_succ] at y0 y1 y2 y3
          simp [results, Try.results39, go_sem, y0, y1, y2, y3]
        · exact HEX.out
      exact trivial
    exact trivial
  exact trivial
end Go.Proofs.Ytefdnjhhaejgbaa
