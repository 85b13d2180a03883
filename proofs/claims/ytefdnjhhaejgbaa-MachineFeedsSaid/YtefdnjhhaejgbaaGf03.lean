/- A part of the proof of MachineFeeds: Mem Rep Rep2 Rep3. No condition. -/
import Derived.Deep.AppendLies
import Derived.Test.YtefdnjhhaejgbaaGf02
import Derived.Test.YtefdnjhhaejgbaaGf01
set_option linter.unusedSimpArgs false
set_option linter.unusedVariables false
namespace Go.Proofs.Ytefdnjhhaejgbaa
open Go.RowKit
set_option linter.unusedVariables false
theorem below_setCell_both {B : Nat} {w w' : World} (h : Below B w w') (a : Addr) (v : Value) : Below B (w.setCell a v) (w'.setCell a v) := by
  refine ⟨h.os, h.tape, h.output, by simp [World.setCell]; exact h.size, fun k hk => ?_⟩
  simp only [World.setCell, Array.getElem?_modify]
  rw [h.block k hk]
theorem below_drewN {B : Nat} {a w : World} (h : Below B a w) (n : Nat) : Below B a (w.drewN n) := ⟨h.os, h.tape, h.output, h.size, h.block⟩
theorem below_undrew {w w' : World} (h : Below w.drew.heap.size w.drew w') : Below w.heap.size w w' := ⟨h.os, h.tape, h.output, h.size, h.block⟩
theorem below_grown {B : Nat} {w w' : World} {row : Option Nat} (hg : w.grownBy w' row) (hB : B ≤ w.heap.size) (hr : ∀ k, row = some k → B ≤ k) : Below B w w' :=
  (Below.refl B w).grown hg hB hr
theorem grownBy_of_below {w w' : World} (h : Below w.heap.size w w') (row : Option Nat) : w.grownBy w' row := ⟨h.os, h.tape, h.output, h.size, fun k hk _ => h.block k hk⟩
theorem grownBy_trans {a b c : World} {row : Option Nat} (h : a.grownBy b row) (k : b.grownBy c row) : a.grownBy c row :=
  ⟨k.os.trans h.os, k.tape.trans h.tape, k.output.trans h.output, Nat.le_trans h.size k.size, fun i hi hr => (k.block i (Nat.lt_of_lt_of_le hi h.size) hr).trans (h.block i hi hr)⟩
theorem heap_new1 (w : World) (o1 : Obj) : (w.alloc o1).heap[w.heap.size]? = some o1 := heap_alloc_new w o1
theorem heap_new2 (w : World) (o1 o2 : Obj) : ((w.alloc o1).alloc o2).heap[w.heap.size + 1]? = some o2 := by
  have := heap_alloc_new (w.alloc o1) o2
  simpa using this
theorem bits_and_255 (v : Int) (h0 : 0 ≤ v) (h1 : v < 4294967296) : bits .and .u32 v 255 = v % 256 := by
  obtain ⟨a, rfl⟩ := Int.eq_ofNat_of_zero_le h0
  have ha : (BitVec.ofInt 32 (a : Int)).toNat = a := by rw [BitVec.ofInt_natCast, BitVec.toNat_ofNat]; exact Nat.mod_eq_of_lt (by omega)
  show IntKind.u32.wrap ((BitVec.ofInt 32 (a : Int) &&& BitVec.ofInt 32 255).toNat : Int) = _
  rw [BitVec.toNat_and, ha]
  have h2 : (BitVec.ofInt 32 255).toNat = 2 ^ 8 - 1 := by decide
  rw [h2, Nat.and_two_pow_sub_one_eq_mod]
  rw [IntKind.wrap_u32]
  omega
theorem run_enter {P : Program} {f : FuncId} {fn : Func} (hf : P.funcs[f]? = some fn) (hname : (fn.name == "runtime.NumGoroutine") = false) (hb : fn.body.isNone = false) (args : Array Value) (w : World) :
    (callFunc f args).run P w = .ok (.enter f args) w := by
  have h1 : fn.name ≠ "runtime.NumGoroutine" := by simpa using hname
  cases hc : fn.body with
  | none => rw [hc] at hb; cases hb
  | some c => simp [callFunc, hf, h1, hc]
theorem wp_gen {P : Program} {c : Code} {Q : Exit → Act → World → Prop} {a : Act} {w : World} (F : World → Prop) (hF : F w) (h : ∀ w', F w' → c.wp P Q a w') : c.wp P Q a w := h w hF
structure ElT (P : Program) (t e : TypeId) (z : Value) (size bytes : Nat) : Prop where
  ht : P.underlying t = some (.slice e)
  info : (P.info? e).map (fun i => (i.zero, i.size, i.bytes)) = some (some z, size, bytes)
  hzs : z.cells.size = size
  hsz : 0 < size
  hby : 0 < bytes
theorem wpList_app1 {P : Program} {t e : TypeId} {z : Value} {size bytes : Nat} (E : ElT P t e z size bytes) {w : World} {ops : Array Oper} {rest : List Oper} {o : Oper} {a : Act} {Q : Exit → Act → World → Prop}
    (hgd : o.guard = none) (s x : Operand) (ho : o.op = .call { callee := .builtin .append, args := #[s, x], argTypes := #[t, t] })
    (base : Nat) (v : Value) (n : Nat) (xs : List Value) (hs : a.eval s = v) (hown : w.ownsRow base e size v n xs)
    (g0 : Nat) (news : List Value) (fr : Nat × Nat) (hx : a.eval x = .slice (some ⟨g0, 0, none⟩) 1 1) (hblk : w.heap[g0]? = some (.cells news.toArray e fr)) (hl : news.length = size)
    (h1 : ∀ u ∈ news, u.oneCell' = true) (hbytes : (n + 1) * bytes ≤ 140737488355328) (hbase : base ≤ w.heap.size)
    (h : ∀ g cap w', w'.ownsRow base e size (.slice (some ⟨g, 0, none⟩) (n + 1) cap) (n + 1) (xs ++ news) → w.grownBy w' v.ownBlock → (v.ownBlock = some g ∨ g = w.heap.size) → g < w'.heap.size →
      wpList P ops Q rest (a.put o.dst (.slice (some ⟨g, 0, none⟩) (n + 1) cap)) w') : wpList P ops Q (o :: rest) a w := by
  obtain ⟨i, hi, hz, h2, h3⟩ := info_parts E.info
  have hm : n + 1 ≤ maxLen := by
    have := Nat.le_mul_of_pos_right (n + 1) E.hby
    unfold maxLen
    omega
  exact wpList_append_lies w hgd s x t ho base e i z size bytes E.ht hi hz h2 h3 E.hzs E.hsz v n xs hs hown ⟨g0, 0, none⟩ 1 1 news hx (by omega)
    (by have := World.news_of_block (w := w) (B := g0) (cs := news.toArray) (t := e) (fr := fr) hblk; simpa using this) h1 (by omega) hm hbytes hbase _ rfl h
end Go.Proofs.Ytefdnjhhaejgbaa

namespace Go.Proofs.Ytefdnjhhaejgbaa
open Go.RowKit
set_option linter.unusedVariables false
def Blk (w : World) (b : Nat) (cs : List Value) (t : TypeId) : Prop := w.heap[b]? = some (.cells cs.toArray t (0, 0))
theorem Blk.cell {w : World} {b : Nat} {cs : List Value} {t : TypeId} (h : Blk w b cs t) (i : Nat) : w.cell? ⟨b, i, none⟩ = cs[i]? := by
  unfold Blk at h
  simp [World.cell?, h]
theorem Blk.frozen {w : World} {b : Nat} {cs : List Value} {t : TypeId} (h : Blk w b cs t) (i : Nat) : w.frozen? ⟨b, i, none⟩ = false := by
  unfold Blk at h
  simp [World.frozen?, h]
theorem Blk.lt {w : World} {b : Nat} {cs : List Value} {t : TypeId} (h : Blk w b cs t) : b < w.heap.size := (Array.getElem?_eq_some_iff.1 h).1
theorem Blk.set {w : World} {b : Nat} {cs : List Value} {t : TypeId} (h : Blk w b cs t) (i : Nat) (v : Value) : Blk (w.setCell ⟨b, i, none⟩ v) b (cs.set i v) t := by
  unfold Blk at *
  simp only [World.setCell, Array.getElem?_modify, if_true, h]
  simp
theorem Blk.other {w : World} {b : Nat} {cs : List Value} {t : TypeId} (h : Blk w b cs t) {a : Addr} (hne : b ≠ a.block) (v : Value) : Blk (w.setCell a v) b cs t := by
  unfold Blk at *
  rw [Below.heap_setCell _ _ _ _ hne]
  exact h
theorem Blk.below {w w' : World} {b : Nat} {cs : List Value} {t : TypeId} (h : Blk w b cs t) {B : Nat} (hb : Below B w w') (hlt : b < B) : Blk w' b cs t := by
  unfold Blk at *
  rw [hb.block b hlt]
  exact h
theorem Blk.grown {w w' : World} {b : Nat} {cs : List Value} {t : TypeId} (h : Blk w b cs t) {row : Option Nat} (hg : w.grownBy w' row) (hne : some b ≠ row) : Blk w' b cs t := by
  have hlt := h.lt
  unfold Blk at *
  rw [hg.block b hlt hne]
  exact h
def ints (k : IntKind) (xs : List Int) : List Value := xs.map (Value.int k)
theorem ints_get {k : IntKind} {xs : List Int} {i : Nat} (h : i < xs.length) : (ints k xs)[i]? = some (.int k (xs.getD i 0)) := by
  simp [ints, h]
theorem ints_set {k : IntKind} (xs : List Int) (i : Nat) (v : Int) : (ints k xs).set i (.int k v) = ints k (xs.set i v) := by
  simp [ints, List.map_set]
theorem ints_get_app {k : IntKind} {xs : List Int} {t : List Value} {i : Nat} (h : i < xs.length) : (ints k xs ++ t)[i]? = some (.int k (xs.getD i 0)) := by
  rw [List.getElem?_append_left (by simpa [ints] using h), ints_get h]
theorem ints_set_app {k : IntKind} (xs : List Int) (t : List Value) (i : Nat) (v : Int) (h : i < xs.length) : (ints k xs ++ t).set i (.int k v) = ints k (xs.set i v) ++ t := by
  rw [List.set_append_left _ _ (by simpa [ints] using h), ints_set]
def RowB (B : Nat) (w : World) (size : Nat) (a : Option Addr) (n : Nat) (f : Nat → Nat → Value) : Prop :=
  ∀ i, i < n → ∃ b off, a = some ⟨b, off, none⟩ ∧ b < B ∧ ∀ j, j < size → w.cell? ⟨b, off + i * size + j, none⟩ = some (f i j)
theorem RowB.below {B : Nat} {w w' : World} {size : Nat} {a : Option Addr} {n : Nat} {f : Nat → Nat → Value} (h : RowB B w size a n f) (hb : Below B w w') : RowB B w' size a n f := by
  intro i hi
  obtain ⟨b, off, ha, hlt, hc⟩ := h i hi
  exact ⟨b, off, ha, hlt, fun j hj => by rw [hb.cell (p := ⟨b, off + i * size + j, none⟩) hlt]; exact hc j hj⟩
theorem RowB.mono {B B' : Nat} {w : World} {size : Nat} {a : Option Addr} {n : Nat} {f : Nat → Nat → Value} (h : RowB B w size a n f) (hB : B ≤ B') : RowB B' w size a n f := by
  intro i hi
  obtain ⟨b, off, ha, hlt, hc⟩ := h i hi
  exact ⟨b, off, ha, Nat.lt_of_lt_of_le hlt hB, hc⟩
def RI.cell (i : RI) (j : Nat) : Value := i.cells.getD j undef
def Ar.cell (i : Ar) (j : Nat) : Value := [Value.bool i.word, .int .i64 i.size].getD j undef
structure Lay where
  mb : Nat
  rb : Nat
  sb : Nat
  cb : Nat
  ab : Nat → Nat
  acap : Nat → Nat
  ccap : Nat
  arsA : Option Addr
  arsC : Nat
  codeA : Option Addr
  codeC : Nat
  ptA : Option Addr
  ptC : Nat
  arrA : Option Addr
  arrC : Nat
def mcells (L : Lay) (c : MC) (s : PS) (lv ov : Value) : List Value :=
  [.slice L.arsA c.ars.length L.arsC, .int .i64 c.regs, .int .i64 c.spills, .slice L.codeA c.cd.length L.codeC, .slice L.ptA c.pt.length L.ptC, .slice L.arrA s.arr.length L.arrC,
   .slice (some ⟨L.cb, 0, none⟩) s.ctx.length L.ccap, .int .u32 c.input, .bool c.ended, .int .i64 c.fuel, .slice (some ⟨L.rb, 0, none⟩) s.regs.length s.regs.length, .slice (some ⟨L.sb, 0, none⟩) s.spl.length s.spl.length,
   lv, ov, .int .i64 s.steps, .int .i64 s.pc]
def flatL (l : List (Nat × Int)) : List Value := l.flatMap fun p => [.int .i64 p.1, .int .u32 p.2]
def u32s (l : List Int) : Prop := ∀ x ∈ l, 0 ≤ x ∧ x < 4294967296
structure RO (B : Nat) (L : Lay) (c : MC) (w : World) : Prop where
  code : RowB B w 5 L.codeA c.cd.length fun i j => (c.cd.getD i default).cell j
  pt : RowB B w 1 L.ptA c.pt.length fun i _ => .int .i64 (c.pt.getD i 0 : Nat)
  ars : RowB B w 2 L.arsA c.ars.length fun i j => (c.ars.getD i default).cell j
structure Rep (B : Nat) (L : Lay) (c : MC) (s : PS) (τ : Nat → Nat) (lv ov : Value) (w : World) : Prop where
  ro : RO B L c w
  hB : B ≤ w.heap.size
  mac : Blk w L.mb (mcells L c s lv ov) 101
  reg : Blk w L.rb (ints .u32 s.regs) 42
  spl : Blk w L.sb (ints .u32 s.spl) 42
  ctx : ∃ t, Blk w L.cb (ints .u32 s.ctx ++ t) 42
  arr : ∀ k, k < s.arr.length → ∃ t, Blk w (L.ab k) (ints .u32 (s.arr.getD k []) ++ t) 42
  outer : ∀ k, k < s.arr.length → ∃ q qo, L.arrA = some ⟨q, qo, none⟩ ∧ τ q = 4 ∧ q < w.heap.size ∧ w.cell? ⟨q, qo + k, none⟩ = some (.slice (some ⟨L.ab k, 0, none⟩) (s.arr.getD k []).length (L.acap k))
  lown : w.ownsRow B 138 2 lv s.loops.length (flatL s.loops)
  oown : w.ownsRow B 5 1 ov s.out.length (ints .u8 s.out)
  tm : τ L.mb = 0
  tr : τ L.rb = 1
  ts : τ L.sb = 2
  tc : τ L.cb = 3
  ta : ∀ k, k < s.arr.length → τ (L.ab k) = 7 + k
  tl : ∀ g, lv.ownBlock = some g → τ g = 5
  to : ∀ g, ov.ownBlock = some g → τ g = 6
  bm : B ≤ L.mb
  br : B ≤ L.rb
  bs : B ≤ L.sb
  bc : B ≤ L.cb
  ba : ∀ k, k < s.arr.length → B ≤ L.ab k
structure Fine (c : MC) (s : PS) : Prop where
  regs : s.regs.length = c.regs
  spl : s.spl.length = c.spills
  arr : s.arr.length = c.ars.length
  ctx : s.ctx.length = 16
  pt : c.pt.length = c.cd.length
  r32 : u32s s.regs
  s32 : u32s s.spl
  a32 : ∀ a ∈ s.arr, u32s a
  asz : ∀ a ∈ s.arr, a.length ≤ 65536
  c32 : u32s s.ctx
  l32 : ∀ p ∈ s.loops, p.1 < c.cd.length ∧ 1 ≤ p.2 ∧ p.2 < 4294967296
  llen : s.loops.length ≤ 16
  o8 : ∀ x ∈ s.out, 0 ≤ x ∧ x < 256
  olen : s.out.length ≤ 65536
  st0 : 0 ≤ s.steps
  st1 : s.steps ≤ c.fuel
  fu : c.fuel ≤ 281474976710656
  pc : s.pc ≤ c.cd.length
  clen : c.cd.length ≤ 16384
  rmax : c.regs ≤ 1024
  smax : c.spills ≤ 1024
  amax : c.ars.length ≤ 8
  in0 : 0 ≤ c.input ∧ c.input < 4294967296
theorem Rep.lt {B : Nat} {L : Lay} {c : MC} {s : PS} {τ : Nat → Nat} {lv ov : Value} {w : World} (h : Rep B L c s τ lv ov w) : L.mb < w.heap.size ∧ L.rb < w.heap.size ∧ L.sb < w.heap.size ∧ L.cb < w.heap.size :=
  ⟨h.mac.lt, h.reg.lt, h.spl.lt, by obtain ⟨t, ht⟩ := h.ctx; exact ht.lt⟩
theorem ne_tag {τ : Nat → Nat} {a b x y : Nat} (ha : τ a = x) (hb : τ b = y) (h : x ≠ y) : a ≠ b := fun e => h (by rw [← ha, ← hb, e])
theorem Rep.below {B : Nat} {L : Lay} {c : MC} {s : PS} {τ : Nat → Nat} {lv ov : Value} {w w' : World} (h : Rep B L c s τ lv ov w) (hb : Below w.heap.size w w') : Rep B L c s τ lv ov w' := by
  have hB := h.hB
  have hbB := hb.mono hB
  have hg : w.grownBy w' none := grownBy_of_below hb none
  exact {
    ro := ⟨h.ro.code.below hbB, h.ro.pt.below hbB, h.ro.ars.below hbB⟩
    hB := Nat.le_trans hB hb.size
    mac := h.mac.below hb h.mac.lt
    reg := h.reg.below hb h.reg.lt
    spl := h.spl.below hb h.spl.lt
    ctx := by obtain ⟨t, ht⟩ := h.ctx; exact ⟨t, ht.below hb ht.lt⟩
    arr := fun k hk => by obtain ⟨t, ht⟩ := h.arr k hk; exact ⟨t, ht.below hb ht.lt⟩
    outer := fun k hk => by
      obtain ⟨q, qo, h1, h2, h3, h4⟩ := h.outer k hk
      exact ⟨q, qo, h1, h2, Nat.lt_of_lt_of_le h3 hb.size, by rw [hb.cell (p := ⟨q, qo + k, none⟩) h3]; exact h4⟩
    lown := h.lown.kept hg (by cases hv : lv.ownBlock <;> simp)
    oown := h.oown.kept hg (by cases hv : ov.ownBlock <;> simp)
    tm := h.tm, tr := h.tr, ts := h.ts, tc := h.tc, ta := h.ta, tl := h.tl, to := h.to, bm := h.bm, br := h.br, bs := h.bs, bc := h.bc, ba := h.ba }
end Go.Proofs.Ytefdnjhhaejgbaa

namespace Go.Proofs.Ytefdnjhhaejgbaa
open Go.RowKit
set_option linter.unusedVariables false
theorem Rep.setReg {B : Nat} {L : Lay} {c : MC} {s : PS} {τ : Nat → Nat} {lv ov : Value} {w : World} (h : Rep B L c s τ lv ov w) {r : Nat} (hr : r < s.regs.length) (v : Int) :
    Rep B L c { s with regs := s.regs.set r v } τ lv ov (w.setCell ⟨L.rb, 0 + r, none⟩ (.int .u32 v)) := by
  have hg : w.grownBy (w.setCell ⟨L.rb, 0 + r, none⟩ (.int .u32 v)) (some L.rb) := ⟨rfl, rfl, rfl, by simp [World.setCell], fun k _ hk => Below.heap_setCell _ _ _ _ (fun e => hk (by rw [e]))⟩
  have hbB : Below B w (w.setCell ⟨L.rb, 0 + r, none⟩ (.int .u32 v)) := (Below.refl _ _).setCell h.br _
  exact {
    ro := ⟨h.ro.code.below hbB, h.ro.pt.below hbB, h.ro.ars.below hbB⟩,
    hB := by simp [World.setCell]; exact h.hB,
    mac := by have := h.mac.other (a := ⟨L.rb, 0 + r, none⟩) (ne_tag h.tm h.tr (by omega)) (.int .u32 v); simpa [mcells] using this,
    reg := by have := h.reg.set (0 + r) (.int .u32 v); rw [Nat.zero_add, ints_set] at this; rw [Nat.zero_add]; exact this,
    spl := h.spl.other (ne_tag h.ts h.tr (by omega)) _,
    ctx := by obtain ⟨t, ht⟩ := h.ctx; exact ⟨t, ht.other (ne_tag h.tc h.tr (by omega)) _⟩,
    arr := fun k hk => by obtain ⟨t, ht⟩ := h.arr k hk; exact ⟨t, ht.other (ne_tag (h.ta k hk) h.tr (by omega)) _⟩,
    outer := fun k hk => by
      obtain ⟨q, qo, h1, h2, h3, h4⟩ := h.outer k hk
      exact ⟨q, qo, h1, h2, by simp [World.setCell]; exact h3, by rw [World.cell?_of_block (Below.heap_setCell _ _ _ _ (ne_tag h2 h.tr (by omega)))]; exact h4⟩,
    lown := h.lown.kept hg (by
      cases hv : lv.ownBlock with
      | none => exact .inl rfl
      | some g => right; intro e; exact (ne_tag (h.tl g hv) h.tr (by omega)) (Option.some.inj e)),
    oown := h.oown.kept hg (by
      cases hv : ov.ownBlock with
      | none => exact .inl rfl
      | some g => right; intro e; exact (ne_tag (h.to g hv) h.tr (by omega)) (Option.some.inj e)),
    tm := h.tm,
    tr := h.tr,
    ts := h.ts,
    tc := h.tc,
    ta := h.ta,
    tl := h.tl,
    to := h.to,
    bm := h.bm,
    br := h.br,
    bs := h.bs,
    bc := h.bc,
    ba := h.ba }
theorem Rep.setSpl {B : Nat} {L : Lay} {c : MC} {s : PS} {τ : Nat → Nat} {lv ov : Value} {w : World} (h : Rep B L c s τ lv ov w) {r : Nat} (hr : r < s.spl.length) (v : Int) :
    Rep B L c { s with spl := s.spl.set r v } τ lv ov (w.setCell ⟨L.sb, 0 + r, none⟩ (.int .u32 v)) := by
  have hg : w.grownBy (w.setCell ⟨L.sb, 0 + r, none⟩ (.int .u32 v)) (some L.sb) := ⟨rfl, rfl, rfl, by simp [World.setCell], fun k _ hk => Below.heap_setCell _ _ _ _ (fun e => hk (by rw [e]))⟩
  have hbB : Below B w (w.setCell ⟨L.sb, 0 + r, none⟩ (.int .u32 v)) := (Below.refl _ _).setCell h.bs _
  exact {
    ro := ⟨h.ro.code.below hbB, h.ro.pt.below hbB, h.ro.ars.below hbB⟩,
    hB := by simp [World.setCell]; exact h.hB,
    mac := by have := h.mac.other (a := ⟨L.sb, 0 + r, none⟩) (ne_tag h.tm h.ts (by omega)) (.int .u32 v); simpa [mcells] using this,
    reg := h.reg.other (ne_tag h.tr h.ts (by omega)) _,
    spl := by have := h.spl.set (0 + r) (.int .u32 v); rw [Nat.zero_add, ints_set] at this; rw [Nat.zero_add]; exact this,
    ctx := by obtain ⟨t, ht⟩ := h.ctx; exact ⟨t, ht.other (ne_tag h.tc h.ts (by omega)) _⟩,
    arr := fun k hk => by obtain ⟨t, ht⟩ := h.arr k hk; exact ⟨t, ht.other (ne_tag (h.ta k hk) h.ts (by omega)) _⟩,
    outer := fun k hk => by
      obtain ⟨q, qo, h1, h2, h3, h4⟩ := h.outer k hk
      exact ⟨q, qo, h1, h2, by simp [World.setCell]; exact h3, by rw [World.cell?_of_block (Below.heap_setCell _ _ _ _ (ne_tag h2 h.ts (by omega)))]; exact h4⟩,
    lown := h.lown.kept hg (by
      cases hv : lv.ownBlock with
      | none => exact .inl rfl
      | some g => right; intro e; exact (ne_tag (h.tl g hv) h.ts (by omega)) (Option.some.inj e)),
    oown := h.oown.kept hg (by
      cases hv : ov.ownBlock with
      | none => exact .inl rfl
      | some g => right; intro e; exact (ne_tag (h.to g hv) h.ts (by omega)) (Option.some.inj e)),
    tm := h.tm,
    tr := h.tr,
    ts := h.ts,
    tc := h.tc,
    ta := h.ta,
    tl := h.tl,
    to := h.to,
    bm := h.bm,
    br := h.br,
    bs := h.bs,
    bc := h.bc,
    ba := h.ba }
theorem Rep.setCtx {B : Nat} {L : Lay} {c : MC} {s : PS} {τ : Nat → Nat} {lv ov : Value} {w : World} (h : Rep B L c s τ lv ov w) {r : Nat} (hr : r < s.ctx.length) (v : Int) :
    Rep B L c { s with ctx := s.ctx.set r v } τ lv ov (w.setCell ⟨L.cb, 0 + r, none⟩ (.int .u32 v)) := by
  have hg : w.grownBy (w.setCell ⟨L.cb, 0 + r, none⟩ (.int .u32 v)) (some L.cb) := ⟨rfl, rfl, rfl, by simp [World.setCell], fun k _ hk => Below.heap_setCell _ _ _ _ (fun e => hk (by rw [e]))⟩
  have hbB : Below B w (w.setCell ⟨L.cb, 0 + r, none⟩ (.int .u32 v)) := (Below.refl _ _).setCell h.bc _
  exact {
    ro := ⟨h.ro.code.below hbB, h.ro.pt.below hbB, h.ro.ars.below hbB⟩,
    hB := by simp [World.setCell]; exact h.hB,
    mac := by have := h.mac.other (a := ⟨L.cb, 0 + r, none⟩) (ne_tag h.tm h.tc (by omega)) (.int .u32 v); simpa [mcells] using this,
    reg := h.reg.other (ne_tag h.tr h.tc (by omega)) _,
    spl := h.spl.other (ne_tag h.ts h.tc (by omega)) _,
    ctx := by obtain ⟨t, ht⟩ := h.ctx; have := ht.set (0 + r) (.int .u32 v); rw [Nat.zero_add, ints_set_app _ _ _ _ hr] at this; rw [Nat.zero_add]; exact ⟨t, this⟩,
    arr := fun k hk => by obtain ⟨t, ht⟩ := h.arr k hk; exact ⟨t, ht.other (ne_tag (h.ta k hk) h.tc (by omega)) _⟩,
    outer := fun k hk => by
      obtain ⟨q, qo, h1, h2, h3, h4⟩ := h.outer k hk
      exact ⟨q, qo, h1, h2, by simp [World.setCell]; exact h3, by rw [World.cell?_of_block (Below.heap_setCell _ _ _ _ (ne_tag h2 h.tc (by omega)))]; exact h4⟩,
    lown := h.lown.kept hg (by
      cases hv : lv.ownBlock with
      | none => exact .inl rfl
      | some g => right; intro e; exact (ne_tag (h.tl g hv) h.tc (by omega)) (Option.some.inj e)),
    oown := h.oown.kept hg (by
      cases hv : ov.ownBlock with
      | none => exact .inl rfl
      | some g => right; intro e; exact (ne_tag (h.to g hv) h.tc (by omega)) (Option.some.inj e)),
    tm := h.tm,
    tr := h.tr,
    ts := h.ts,
    tc := h.tc,
    ta := h.ta,
    tl := h.tl,
    to := h.to,
    bm := h.bm,
    br := h.br,
    bs := h.bs,
    bc := h.bc,
    ba := h.ba }
theorem Rep.setArr {B : Nat} {L : Lay} {c : MC} {s : PS} {τ : Nat → Nat} {lv ov : Value} {w : World} (h : Rep B L c s τ lv ov w) {k0 r : Nat} (hk0 : k0 < s.arr.length) (hr : r < (s.arr.getD k0 []).length) (v : Int) :
    Rep B L c { s with arr := s.arr.set k0 ((s.arr.getD k0 []).set r v) } τ lv ov (w.setCell ⟨L.ab k0, 0 + r, none⟩ (.int .u32 v)) := by
  have hg : w.grownBy (w.setCell ⟨L.ab k0, 0 + r, none⟩ (.int .u32 v)) (some (L.ab k0)) := ⟨rfl, rfl, rfl, by simp [World.setCell], fun k _ hk => Below.heap_setCell _ _ _ _ (fun e => hk (by rw [e]))⟩
  have hbB : Below B w (w.setCell ⟨L.ab k0, 0 + r, none⟩ (.int .u32 v)) := (Below.refl _ _).setCell (h.ba k0 hk0) _
  exact {
    ro := ⟨h.ro.code.below hbB, h.ro.pt.below hbB, h.ro.ars.below hbB⟩,
    hB := by simp [World.setCell]; exact h.hB,
    mac := by have := h.mac.other (a := ⟨L.ab k0, 0 + r, none⟩) (ne_tag h.tm (h.ta k0 hk0) (by omega)) (.int .u32 v); simpa [mcells] using this,
    reg := h.reg.other (ne_tag h.tr (h.ta k0 hk0) (by omega)) _,
    spl := h.spl.other (ne_tag h.ts (h.ta k0 hk0) (by omega)) _,
    ctx := by obtain ⟨t, ht⟩ := h.ctx; exact ⟨t, ht.other (ne_tag h.tc (h.ta k0 hk0) (by omega)) _⟩,
    arr := fun k hk => by
      have hk' : k < s.arr.length := by simpa using hk
      by_cases hkk : k = k0
      · subst hkk
        obtain ⟨t, ht⟩ := h.arr k hk'
        have := ht.set (0 + r) (.int .u32 v)
        rw [Nat.zero_add, ints_set_app _ _ _ _ hr] at this
        rw [Nat.zero_add]
        refine ⟨t, ?_⟩
        simpa [List.getD_eq_getElem?_getD, List.getElem?_set, hk'] using this
      · obtain ⟨t, ht⟩ := h.arr k hk'
        refine ⟨t, ?_⟩
        have h2 := ht.other (a := ⟨L.ab k0, 0 + r, none⟩) (ne_tag (h.ta k hk') (h.ta k0 hk0) (by omega)) (.int .u32 v)
        simpa [List.getD_eq_getElem?_getD, List.getElem?_set, Ne.symm hkk] using h2,
    outer := fun k hk => by
      have hk' : k < s.arr.length := by simpa using hk
      obtain ⟨q, qo, h1, h2, h3, h4⟩ := h.outer k hk'
      refine ⟨q, qo, h1, h2, by simp [World.setCell]; exact h3, ?_⟩
      rw [World.cell?_of_block (Below.heap_setCell _ _ _ _ (ne_tag h2 (h.ta k0 hk0) (by omega))), h4]
      by_cases hkk : k = k0
      · subst hkk; simp [List.getD_eq_getElem?_getD, hk']
      · simp [List.getD_eq_getElem?_getD, Ne.symm hkk],
    lown := h.lown.kept hg (by
      cases hv : lv.ownBlock with
      | none => exact .inl rfl
      | some g => right; intro e; exact (ne_tag (h.tl g hv) (h.ta k0 hk0) (by omega)) (Option.some.inj e)),
    oown := h.oown.kept hg (by
      cases hv : ov.ownBlock with
      | none => exact .inl rfl
      | some g => right; intro e; exact (ne_tag (h.to g hv) (h.ta k0 hk0) (by omega)) (Option.some.inj e)),
    tm := h.tm,
    tr := h.tr,
    ts := h.ts,
    tc := h.tc,
    ta := fun k hk => h.ta k (by simpa using hk),
    tl := h.tl,
    to := h.to,
    bm := h.bm,
    br := h.br,
    bs := h.bs,
    bc := h.bc,
    ba := fun k hk => h.ba k (by simpa using hk) }
theorem Rep.setPc {B : Nat} {L : Lay} {c : MC} {s : PS} {τ : Nat → Nat} {lv ov : Value} {w : World} (h : Rep B L c s τ lv ov w) (p : Nat) :
    Rep B L c { s with pc := p } τ lv ov (w.setCell ⟨L.mb, 15, none⟩ (.int .i64 p)) := by
  have hg : w.grownBy (w.setCell ⟨L.mb, 15, none⟩ (.int .i64 p)) (some L.mb) := ⟨rfl, rfl, rfl, by simp [World.setCell], fun k _ hk => Below.heap_setCell _ _ _ _ (fun e => hk (by rw [e]))⟩
  have hbB : Below B w (w.setCell ⟨L.mb, 15, none⟩ (.int .i64 p)) := (Below.refl _ _).setCell h.bm _
  exact {
    ro := ⟨h.ro.code.below hbB, h.ro.pt.below hbB, h.ro.ars.below hbB⟩,
    hB := by simp [World.setCell]; exact h.hB,
    mac := by have := h.mac.set 15 (.int .i64 p); simpa [mcells] using this,
    reg := h.reg.other (ne_tag h.tr h.tm (by omega)) _,
    spl := h.spl.other (ne_tag h.ts h.tm (by omega)) _,
    ctx := by obtain ⟨t, ht⟩ := h.ctx; exact ⟨t, ht.other (ne_tag h.tc h.tm (by omega)) _⟩,
    arr := fun k hk => by obtain ⟨t, ht⟩ := h.arr k hk; exact ⟨t, ht.other (ne_tag (h.ta k hk) h.tm (by omega)) _⟩,
    outer := fun k hk => by
      obtain ⟨q, qo, h1, h2, h3, h4⟩ := h.outer k hk
      exact ⟨q, qo, h1, h2, by simp [World.setCell]; exact h3, by rw [World.cell?_of_block (Below.heap_setCell _ _ _ _ (ne_tag h2 h.tm (by omega)))]; exact h4⟩,
    lown := h.lown.kept hg (by
      cases hv : lv.ownBlock with
      | none => exact .inl rfl
      | some g => right; intro e; exact (ne_tag (h.tl g hv) h.tm (by omega)) (Option.some.inj e)),
    oown := h.oown.kept hg (by
      cases hv : ov.ownBlock with
      | none => exact .inl rfl
      | some g => right; intro e; exact (ne_tag (h.to g hv) h.tm (by omega)) (Option.some.inj e)),
    tm := h.tm,
    tr := h.tr,
    ts := h.ts,
    tc := h.tc,
    ta := h.ta,
    tl := h.tl,
    to := h.to,
    bm := h.bm,
    br := h.br,
    bs := h.bs,
    bc := h.bc,
    ba := h.ba }
theorem Rep.setSteps {B : Nat} {L : Lay} {c : MC} {s : PS} {τ : Nat → Nat} {lv ov : Value} {w : World} (h : Rep B L c s τ lv ov w) (p : Int) :
    Rep B L c { s with steps := p } τ lv ov (w.setCell ⟨L.mb, 14, none⟩ (.int .i64 p)) := by
  have hg : w.grownBy (w.setCell ⟨L.mb, 14, none⟩ (.int .i64 p)) (some L.mb) := ⟨rfl, rfl, rfl, by simp [World.setCell], fun k _ hk => Below.heap_setCell _ _ _ _ (fun e => hk (by rw [e]))⟩
  have hbB : Below B w (w.setCell ⟨L.mb, 14, none⟩ (.int .i64 p)) := (Below.refl _ _).setCell h.bm _
  exact {
    ro := ⟨h.ro.code.below hbB, h.ro.pt.below hbB, h.ro.ars.below hbB⟩,
    hB := by simp [World.setCell]; exact h.hB,
    mac := by have := h.mac.set 14 (.int .i64 p); simpa [mcells] using this,
    reg := h.reg.other (ne_tag h.tr h.tm (by omega)) _,
    spl := h.spl.other (ne_tag h.ts h.tm (by omega)) _,
    ctx := by obtain ⟨t, ht⟩ := h.ctx; exact ⟨t, ht.other (ne_tag h.tc h.tm (by omega)) _⟩,
    arr := fun k hk => by obtain ⟨t, ht⟩ := h.arr k hk; exact ⟨t, ht.other (ne_tag (h.ta k hk) h.tm (by omega)) _⟩,
    outer := fun k hk => by
      obtain ⟨q, qo, h1, h2, h3, h4⟩ := h.outer k hk
      exact ⟨q, qo, h1, h2, by simp [World.setCell]; exact h3, by rw [World.cell?_of_block (Below.heap_setCell _ _ _ _ (ne_tag h2 h.tm (by omega)))]; exact h4⟩,
    lown := h.lown.kept hg (by
      cases hv : lv.ownBlock with
      | none => exact .inl rfl
      | some g => right; intro e; exact (ne_tag (h.tl g hv) h.tm (by omega)) (Option.some.inj e)),
    oown := h.oown.kept hg (by
      cases hv : ov.ownBlock with
      | none => exact .inl rfl
      | some g => right; intro e; exact (ne_tag (h.to g hv) h.tm (by omega)) (Option.some.inj e)),
    tm := h.tm,
    tr := h.tr,
    ts := h.ts,
    tc := h.tc,
    ta := h.ta,
    tl := h.tl,
    to := h.to,
    bm := h.bm,
    br := h.br,
    bs := h.bs,
    bc := h.bc,
    ba := h.ba }
theorem Rep.foreign {B : Nat} {L : Lay} {c : MC} {s : PS} {τ : Nat → Nat} {lv ov : Value} {w : World} (h : Rep B L c s τ lv ov w) {x : Nat} (hx : 1000 ≤ τ x) (hxB : B ≤ x) (hn : s.arr.length ≤ 900) (j : Nat) (v : Value) :
    Rep B L c s τ lv ov (w.setCell ⟨x, j, none⟩ v) := by
  have hg : w.grownBy (w.setCell ⟨x, j, none⟩ v) (some x) := ⟨rfl, rfl, rfl, by simp [World.setCell], fun k _ hk => Below.heap_setCell _ _ _ _ (fun e => hk (by rw [e]))⟩
  have hbB : Below B w (w.setCell ⟨x, j, none⟩ v) := (Below.refl _ _).setCell hxB _
  exact {
    ro := ⟨h.ro.code.below hbB, h.ro.pt.below hbB, h.ro.ars.below hbB⟩,
    hB := by simp [World.setCell]; exact h.hB,
    mac := h.mac.other (ne_tag (b := x) (y := τ x) h.tm rfl (by omega)) _,
    reg := h.reg.other (ne_tag (b := x) (y := τ x) h.tr rfl (by omega)) _,
    spl := h.spl.other (ne_tag (b := x) (y := τ x) h.ts rfl (by omega)) _,
    ctx := by obtain ⟨t, ht⟩ := h.ctx; exact ⟨t, ht.other (ne_tag (b := x) (y := τ x) h.tc rfl (by omega)) _⟩,
    arr := fun k hk => by obtain ⟨t, ht⟩ := h.arr k hk; exact ⟨t, ht.other (ne_tag (b := x) (y := τ x) (h.ta k hk) rfl (by omega)) _⟩,
    outer := fun k hk => by
      obtain ⟨q, qo, h1, h2, h3, h4⟩ := h.outer k hk
      exact ⟨q, qo, h1, h2, by simp [World.setCell]; exact h3, by rw [World.cell?_of_block (Below.heap_setCell _ _ _ _ (ne_tag (b := x) (y := τ x) h2 rfl (by omega)))]; exact h4⟩,
    lown := h.lown.kept hg (by
      cases hv : lv.ownBlock with
      | none => exact .inl rfl
      | some g => right; intro e; exact (ne_tag (b := x) (y := τ x) (h.tl g hv) rfl (by omega)) (Option.some.inj e)),
    oown := h.oown.kept hg (by
      cases hv : ov.ownBlock with
      | none => exact .inl rfl
      | some g => right; intro e; exact (ne_tag (b := x) (y := τ x) (h.to g hv) rfl (by omega)) (Option.some.inj e)),
    tm := h.tm,
    tr := h.tr,
    ts := h.ts,
    tc := h.tc,
    ta := h.ta,
    tl := h.tl,
    to := h.to,
    bm := h.bm,
    br := h.br,
    bs := h.bs,
    bc := h.bc,
    ba := h.ba }
end Go.Proofs.Ytefdnjhhaejgbaa

namespace Go.Proofs.Ytefdnjhhaejgbaa
open Go.RowKit
set_option linter.unusedVariables false
theorem Rep.growLoops {B : Nat} {L : Lay} {c : MC} {s : PS} {τ : Nat → Nat} {lv ov : Value} {w w1 : World} (h : Rep B L c s τ lv ov w) (at_ : Nat) (x : Int) {g cc : Nat}
    (hown1 : w1.ownsRow B 138 2 (.slice (some ⟨g, 0, none⟩) (s.loops.length + 1) cc) (s.loops.length + 1) (flatL s.loops ++ [.int .i64 at_, .int .u32 x])) (hg : w.grownBy w1 lv.ownBlock) (hat : lv.ownBlock = some g ∨ w.heap.size ≤ g) :
    Rep B L c { s with loops := s.loops ++ [(at_, x)] } (fun x => if x = g then 5 else τ x) (.slice (some ⟨g, 0, none⟩) (s.loops.length + 1) cc) ov (w1.setCell ⟨L.mb, 12, none⟩ (.slice (some ⟨g, 0, none⟩) (s.loops.length + 1) cc)) := by
  have old : ∀ x t, x < w.heap.size → τ x = t → t ≠ 5 → x ≠ g ∧ some x ≠ lv.ownBlock := by
    intro x t hx ht hne
    refine ⟨fun e => ?_, fun e => hne (by rw [← ht]; exact h.tl x e.symm)⟩
    subst e
    rcases hat with hat | hat
    · exact hne (by rw [← ht]; exact h.tl x hat)
    · omega
  have om := old L.mb 0 h.mac.lt h.tm (by omega)
  have orr := old L.rb 1 h.reg.lt h.tr (by omega)
  have os := old L.sb 2 h.spl.lt h.ts (by omega)
  have oc := old L.cb 3 h.lt.2.2.2 h.tc (by omega)
  have oa : ∀ k, k < s.arr.length → L.ab k ≠ g ∧ some (L.ab k) ≠ lv.ownBlock := fun k hk => by
    obtain ⟨t, ht⟩ := h.arr k hk
    exact old (L.ab k) (7 + k) ht.lt (h.ta k hk) (by omega)
  have hgB : Below B w w1 := below_grown hg h.hB (fun k hk => (h.lown.lt k hk).1)
  have hbB : Below B w (w1.setCell ⟨L.mb, 12, none⟩ (.slice (some ⟨g, 0, none⟩) (s.loops.length + 1) cc)) := hgB.setCell h.bm _
  have hgm : g ≠ L.mb := Ne.symm om.1
  have hs2 : w1.grownBy (w1.setCell ⟨L.mb, 12, none⟩ (.slice (some ⟨g, 0, none⟩) (s.loops.length + 1) cc)) (some L.mb) := ⟨rfl, rfl, rfl, by simp [World.setCell], fun k _ hk => Below.heap_setCell _ _ _ _ (fun e => hk (by rw [e]))⟩
  have hown2 := hown1.kept hs2 (.inr (by simp [Value.ownBlock]; exact hgm))
  have hmac := (h.mac.grown hg om.2).set 12 (.slice (some ⟨g, 0, none⟩) (s.loops.length + 1) cc)
  exact {
    ro := ⟨h.ro.code.below hbB, h.ro.pt.below hbB, h.ro.ars.below hbB⟩
    hB := Nat.le_trans h.hB hbB.size
    mac := by simpa [mcells] using hmac
    reg := (h.reg.grown hg orr.2).other (ne_tag h.tr h.tm (by omega)) _
    spl := (h.spl.grown hg os.2).other (ne_tag h.ts h.tm (by omega)) _
    ctx := by obtain ⟨t, ht⟩ := h.ctx; exact ⟨t, (ht.grown hg oc.2).other (ne_tag h.tc h.tm (by omega)) _⟩
    arr := fun k hk => by obtain ⟨t, ht⟩ := h.arr k hk; exact ⟨t, (ht.grown hg (oa k hk).2).other (ne_tag (h.ta k hk) h.tm (by omega)) _⟩
    outer := fun k hk => by
      obtain ⟨q, qo, h1, h2, h3, h4⟩ := h.outer k hk
      have oq := old q 4 h3 h2 (by omega)
      refine ⟨q, qo, h1, by simp [oq.1, h2], Nat.lt_of_lt_of_le h3 hbB.size, ?_⟩
      rw [World.cell?_of_block (Below.heap_setCell _ _ _ _ (ne_tag h2 h.tm (by omega)))]
      exact hg.cell h4 oq.2
    lown := by rw [show flatL (s.loops ++ [(at_, x)]) = flatL s.loops ++ [.int .i64 at_, .int .u32 x] by simp [flatL]]; simpa using hown2
    oown := (h.oown.kept hg (by
      cases hv : ov.ownBlock with
      | none => exact .inl rfl
      | some x => right; exact (old x 6 (h.oown.lt x hv).2 (h.to x hv) (by omega)).2)).kept hs2 (by
      cases hv : ov.ownBlock with
      | none => exact .inl rfl
      | some x => right; intro e; exact ne_tag (h.to x hv) h.tm (by omega) (Option.some.inj e))
    tm := by simp [om.1, h.tm]
    tr := by simp [orr.1, h.tr]
    ts := by simp [os.1, h.ts]
    tc := by simp [oc.1, h.tc]
    ta := fun k hk => by simp [(oa k hk).1, h.ta k hk]
    tl := fun x hx => by simp [Value.ownBlock] at hx; simp [hx]
    to := fun x hx => by simp [(old x 6 (h.oown.lt x hx).2 (h.to x hx) (by omega)).1, h.to x hx]
    bm := h.bm, br := h.br, bs := h.bs, bc := h.bc, ba := h.ba }
theorem Rep.growOut {B : Nat} {L : Lay} {c : MC} {s : PS} {τ : Nat → Nat} {lv ov : Value} {w w1 : World} (h : Rep B L c s τ lv ov w) (x : Int) {g cc : Nat}
    (hown1 : w1.ownsRow B 5 1 (.slice (some ⟨g, 0, none⟩) (s.out.length + 1) cc) (s.out.length + 1) (ints .u8 s.out ++ [.int .u8 x])) (hg : w.grownBy w1 ov.ownBlock) (hat : ov.ownBlock = some g ∨ w.heap.size ≤ g) :
    Rep B L c { s with out := s.out ++ [x] } (fun x => if x = g then 6 else τ x) lv (.slice (some ⟨g, 0, none⟩) (s.out.length + 1) cc) (w1.setCell ⟨L.mb, 13, none⟩ (.slice (some ⟨g, 0, none⟩) (s.out.length + 1) cc)) := by
  have old : ∀ x t, x < w.heap.size → τ x = t → t ≠ 6 → x ≠ g ∧ some x ≠ ov.ownBlock := by
    intro x t hx ht hne
    refine ⟨fun e => ?_, fun e => hne (by rw [← ht]; exact h.to x e.symm)⟩
    subst e
    rcases hat with hat | hat
    · exact hne (by rw [← ht]; exact h.to x hat)
    · omega
  have om := old L.mb 0 h.mac.lt h.tm (by omega)
  have orr := old L.rb 1 h.reg.lt h.tr (by omega)
  have os := old L.sb 2 h.spl.lt h.ts (by omega)
  have oc := old L.cb 3 h.lt.2.2.2 h.tc (by omega)
  have oa : ∀ k, k < s.arr.length → L.ab k ≠ g ∧ some (L.ab k) ≠ ov.ownBlock := fun k hk => by
    obtain ⟨t, ht⟩ := h.arr k hk
    exact old (L.ab k) (7 + k) ht.lt (h.ta k hk) (by omega)
  have hgB : Below B w w1 := below_grown hg h.hB (fun k hk => (h.oown.lt k hk).1)
  have hbB : Below B w (w1.setCell ⟨L.mb, 13, none⟩ (.slice (some ⟨g, 0, none⟩) (s.out.length + 1) cc)) := hgB.setCell h.bm _
  have hgm : g ≠ L.mb := Ne.symm om.1
  have hs2 : w1.grownBy (w1.setCell ⟨L.mb, 13, none⟩ (.slice (some ⟨g, 0, none⟩) (s.out.length + 1) cc)) (some L.mb) := ⟨rfl, rfl, rfl, by simp [World.setCell], fun k _ hk => Below.heap_setCell _ _ _ _ (fun e => hk (by rw [e]))⟩
  have hown2 := hown1.kept hs2 (.inr (by simp [Value.ownBlock]; exact hgm))
  have hmac := (h.mac.grown hg om.2).set 13 (.slice (some ⟨g, 0, none⟩) (s.out.length + 1) cc)
  exact {
    ro := ⟨h.ro.code.below hbB, h.ro.pt.below hbB, h.ro.ars.below hbB⟩
    hB := Nat.le_trans h.hB hbB.size
    mac := by simpa [mcells] using hmac
    reg := (h.reg.grown hg orr.2).other (ne_tag h.tr h.tm (by omega)) _
    spl := (h.spl.grown hg os.2).other (ne_tag h.ts h.tm (by omega)) _
    ctx := by obtain ⟨t, ht⟩ := h.ctx; exact ⟨t, (ht.grown hg oc.2).other (ne_tag h.tc h.tm (by omega)) _⟩
    arr := fun k hk => by obtain ⟨t, ht⟩ := h.arr k hk; exact ⟨t, (ht.grown hg (oa k hk).2).other (ne_tag (h.ta k hk) h.tm (by omega)) _⟩
    outer := fun k hk => by
      obtain ⟨q, qo, h1, h2, h3, h4⟩ := h.outer k hk
      have oq := old q 4 h3 h2 (by omega)
      refine ⟨q, qo, h1, by simp [oq.1, h2], Nat.lt_of_lt_of_le h3 hbB.size, ?_⟩
      rw [World.cell?_of_block (Below.heap_setCell _ _ _ _ (ne_tag h2 h.tm (by omega)))]
      exact hg.cell h4 oq.2
    oown := by rw [show ints .u8 (s.out ++ [x]) = ints .u8 s.out ++ [.int .u8 x] by simp [ints]]; simpa using hown2
    lown := (h.lown.kept hg (by
      cases hv : lv.ownBlock with
      | none => exact .inl rfl
      | some x => right; exact (old x 5 (h.lown.lt x hv).2 (h.tl x hv) (by omega)).2)).kept hs2 (by
      cases hv : lv.ownBlock with
      | none => exact .inl rfl
      | some x => right; intro e; exact ne_tag (h.tl x hv) h.tm (by omega) (Option.some.inj e))
    tm := by simp [om.1, h.tm]
    tr := by simp [orr.1, h.tr]
    ts := by simp [os.1, h.ts]
    tc := by simp [oc.1, h.tc]
    ta := fun k hk => by simp [(oa k hk).1, h.ta k hk]
    to := fun x hx => by simp [Value.ownBlock] at hx; simp [hx]
    tl := fun x hx => by simp [(old x 5 (h.lown.lt x hx).2 (h.tl x hx) (by omega)).1, h.tl x hx]
    bm := h.bm, br := h.br, bs := h.bs, bc := h.bc, ba := h.ba }
theorem flatL_snoc (l : List (Nat × Int)) (p : Nat × Int) : flatL (l ++ [p]) = flatL l ++ [.int .i64 p.1, .int .u32 p.2] := by simp [flatL]
theorem flatL_length (l : List (Nat × Int)) : (flatL l).length = l.length * 2 := by
  induction l with
  | nil => rfl
  | cons p l ih => simp only [flatL, List.flatMap_cons, List.length_append, List.length_cons, List.length_nil] at *; omega
theorem Rep.top {B : Nat} {L : Lay} {c : MC} {s : PS} {τ : Nat → Nat} {lv ov : Value} {w : World} (h : Rep B L c s τ lv ov w) {l : List (Nat × Int)} {p : Nat × Int} (hl : s.loops = l ++ [p]) :
    ∃ g cc, lv = .slice (some ⟨g, 0, none⟩) (l.length + 1) cc ∧ l.length + 1 ≤ cc ∧ cc ≤ maxLen ∧ g < w.heap.size ∧ τ g = 5 ∧
      w.cell? ⟨g, 0 + l.length * 2, none⟩ = some (.int .i64 p.1) ∧ w.cell? ⟨g, 0 + l.length * 2 + 1, none⟩ = some (.int .u32 p.2) ∧ (∀ j, w.frozen? ⟨g, j, none⟩ = false) := by
  have hown := h.lown
  rw [hl, flatL_snoc, List.length_append] at hown
  simp only [List.length_singleton] at hown
  have hfl := flatL_length l
  rcases hown.2 with ⟨_, h0⟩ | ⟨g, cc, cur, hv, hb, hgg, hle, hmx, hcs, htk⟩
  · omega
  · subst hv
    have hlt := hown.lt g (by simp [Value.ownBlock])
    refine ⟨g, cc, rfl, hle, hmx, hlt.2, h.tl g (by simp [Value.ownBlock]), ?_, ?_, fun j => hown.frozenAt j⟩
    · rw [hown.cellAt _ (by omega), Nat.zero_add, List.getElem?_append_right (by omega)]
      simp [hfl]
    · rw [hown.cellAt _ (by omega), Nat.zero_add, List.getElem?_append_right (by omega)]
      simp [hfl]
theorem own_pop {w : World} {base : Nat} {e : TypeId} {g cc n m : Nat} {xs ys : List Value} (h : w.ownsRow base e m (.slice (some ⟨g, 0, none⟩) (n + 1) cc) (n + 1) (xs ++ ys)) (hx : xs.length = n * m) :
    w.ownsRow base e m (.slice (some ⟨g, 0, none⟩) n cc) n xs := by
  refine ⟨hx, ?_⟩
  rcases h.2 with ⟨h1, _⟩ | ⟨g', cc', cur, hv, hb, hgg, hle, hmx, hcs, htk⟩
  · cases h1
  · simp only [Value.slice.injEq, Option.some.injEq, Addr.mk.injEq] at hv
    obtain ⟨⟨rfl, _⟩, _, rfl⟩ := hv
    refine .inr ⟨g, cc, cur, rfl, hb, hgg, by omega, hmx, hcs, ?_⟩
    have : cur.toList.take (n * m) = (cur.toList.take ((n + 1) * m)).take (n * m) := by
      rw [List.take_take, Nat.min_eq_left (Nat.mul_le_mul_right _ (by omega))]
    rw [this, htk, ← hx, List.take_left]
theorem Rep.pop {B : Nat} {L : Lay} {c : MC} {s : PS} {τ : Nat → Nat} {ov : Value} {w : World} {g cc : Nat} {l : List (Nat × Int)} {p : Nat × Int} (hl : s.loops = l ++ [p])
    (h : Rep B L c s τ (.slice (some ⟨g, 0, none⟩) (l.length + 1) cc) ov w) :
    Rep B L c { s with loops := l } τ (.slice (some ⟨g, 0, none⟩) l.length cc) ov (w.setCell ⟨L.mb, 12, none⟩ (.slice (some ⟨g, 0, none⟩) l.length cc)) := by
  have hg : w.grownBy (w.setCell ⟨L.mb, 12, none⟩ (.slice (some ⟨g, 0, none⟩) l.length cc)) (some L.mb) := ⟨rfl, rfl, rfl, by simp [World.setCell], fun k _ hk => Below.heap_setCell _ _ _ _ (fun e => hk (by rw [e]))⟩
  have hbB : Below B w (w.setCell ⟨L.mb, 12, none⟩ (.slice (some ⟨g, 0, none⟩) l.length cc)) := (Below.refl _ _).setCell h.bm _
  have hown := h.lown
  rw [hl, flatL_snoc, List.length_append] at hown
  simp only [List.length_singleton] at hown
  have hpop := own_pop hown (flatL_length l)
  have hgt : τ g = 5 := h.tl g (by simp [Value.ownBlock])
  exact {
    ro := ⟨h.ro.code.below hbB, h.ro.pt.below hbB, h.ro.ars.below hbB⟩
    hB := by simp [World.setCell]; exact h.hB
    mac := by have := h.mac.set 12 (.slice (some ⟨g, 0, none⟩) l.length cc); simpa [mcells] using this
    reg := h.reg.other (ne_tag h.tr h.tm (by omega)) _
    spl := h.spl.other (ne_tag h.ts h.tm (by omega)) _
    ctx := by obtain ⟨t, ht⟩ := h.ctx; exact ⟨t, ht.other (ne_tag h.tc h.tm (by omega)) _⟩
    arr := fun k hk => by obtain ⟨t, ht⟩ := h.arr k hk; exact ⟨t, ht.other (ne_tag (h.ta k hk) h.tm (by omega)) _⟩
    outer := fun k hk => by
      obtain ⟨q, qo, h1, h2, h3, h4⟩ := h.outer k hk
      exact ⟨q, qo, h1, h2, by simp [World.setCell]; exact h3, by rw [World.cell?_of_block (Below.heap_setCell _ _ _ _ (ne_tag h2 h.tm (by omega)))]; exact h4⟩
    lown := hpop.kept hg (.inr (by simp [Value.ownBlock]; exact ne_tag hgt h.tm (by omega)))
    oown := h.oown.kept hg (by
      cases hv : ov.ownBlock with
      | none => exact .inl rfl
      | some x => right; intro e; exact ne_tag (h.to x hv) h.tm (by omega) (Option.some.inj e))
    tm := h.tm, tr := h.tr, ts := h.ts, tc := h.tc, ta := h.ta
    tl := fun x hx => by simp [Value.ownBlock] at hx; subst hx; exact hgt
    to := h.to, bm := h.bm, br := h.br, bs := h.bs, bc := h.bc, ba := h.ba }
theorem Rep.setTop {B : Nat} {L : Lay} {c : MC} {s : PS} {τ : Nat → Nat} {ov : Value} {w : World} {g cc : Nat} {l : List (Nat × Int)} {p : Nat × Int} (hl : s.loops = l ++ [p])
    (h : Rep B L c s τ (.slice (some ⟨g, 0, none⟩) (l.length + 1) cc) ov w) (x : Int) :
    Rep B L c { s with loops := l ++ [(p.1, x)] } τ (.slice (some ⟨g, 0, none⟩) (l.length + 1) cc) ov (w.setCell ⟨g, 0 + l.length * 2 + 1, none⟩ (.int .u32 x)) := by
  have hgt : τ g = 5 := h.tl g (by simp [Value.ownBlock])
  have hgB : B ≤ g := (h.lown.lt g (by simp [Value.ownBlock])).1
  have hg : w.grownBy (w.setCell ⟨g, 0 + l.length * 2 + 1, none⟩ (.int .u32 x)) (some g) := ⟨rfl, rfl, rfl, by simp [World.setCell], fun k _ hk => Below.heap_setCell _ _ _ _ (fun e => hk (by rw [e]))⟩
  have hbB : Below B w (w.setCell ⟨g, 0 + l.length * 2 + 1, none⟩ (.int .u32 x)) := (Below.refl _ _).setCell hgB _
  have hown := h.lown
  rw [hl, flatL_snoc, List.length_append] at hown
  simp only [List.length_singleton] at hown
  have hst := hown.stored (0 + l.length * 2 + 1) (.int .u32 x)
  have hfl := flatL_length l
  exact {
    ro := ⟨h.ro.code.below hbB, h.ro.pt.below hbB, h.ro.ars.below hbB⟩
    hB := by simp [World.setCell]; exact h.hB
    mac := by have := h.mac.other (a := ⟨g, 0 + l.length * 2 + 1, none⟩) (ne_tag h.tm hgt (by omega)) (.int .u32 x); simpa [mcells] using this
    reg := h.reg.other (ne_tag h.tr hgt (by omega)) _
    spl := h.spl.other (ne_tag h.ts hgt (by omega)) _
    ctx := by obtain ⟨t, ht⟩ := h.ctx; exact ⟨t, ht.other (ne_tag h.tc hgt (by omega)) _⟩
    arr := fun k hk => by obtain ⟨t, ht⟩ := h.arr k hk; exact ⟨t, ht.other (ne_tag (h.ta k hk) hgt (by omega)) _⟩
    outer := fun k hk => by
      obtain ⟨q, qo, h1, h2, h3, h4⟩ := h.outer k hk
      exact ⟨q, qo, h1, h2, by simp [World.setCell]; exact h3, by rw [World.cell?_of_block (Below.heap_setCell _ _ _ _ (ne_tag h2 hgt (by omega)))]; exact h4⟩
    lown := by
      rw [flatL_snoc, List.length_append]
      simp only [List.length_singleton]
      have e : (flatL l ++ [Value.int .i64 p.1, .int .u32 p.2]).set (0 + l.length * 2 + 1) (.int .u32 x) = flatL l ++ [.int .i64 p.1, .int .u32 x] := by
        rw [List.set_append_right _ _ (by omega), hfl, show 0 + l.length * 2 + 1 - l.length * 2 = 1 by omega]; rfl
      rw [← e]
      exact hst.1
    oown := h.oown.kept hg (by
      cases hv : ov.ownBlock with
      | none => exact .inl rfl
      | some y => right; intro e; exact ne_tag (h.to y hv) hgt (by omega) (Option.some.inj e))
    tm := h.tm, tr := h.tr, ts := h.ts, tc := h.tc, ta := h.ta, tl := h.tl, to := h.to, bm := h.bm, br := h.br, bs := h.bs, bc := h.bc, ba := h.ba }
end Go.Proofs.Ytefdnjhhaejgbaa
