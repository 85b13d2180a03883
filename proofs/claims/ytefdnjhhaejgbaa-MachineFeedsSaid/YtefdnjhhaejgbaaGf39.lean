/- A part of the proof of MachineFeeds: Sv Sw Fa Fb Fo Fc Fd Sx Da Pi. No condition. -/
import Derived.Test.YtefdnjhhaejgbaaGf37
import Derived.Test.YtefdnjhhaejgbaaGf38
import Derived.Test.YtefdnjhhaejgbaaGf25
import Derived.Test.YtefdnjhhaejgbaaGf35
import Derived.Test.YtefdnjhhaejgbaaGf33
import Derived.Test.YtefdnjhhaejgbaaGf13
import Derived.Test.YtefdnjhhaejgbaaGf16
import Derived.Test.YtefdnjhhaejgbaaGf34
set_option linter.unusedSimpArgs false
set_option linter.unusedVariables false
namespace Go.Proofs.Ytefdnjhhaejgbaa
open Go.RowKit
set_option linter.unusedVariables false
theorem RunVal.res {w : World} {s : PS} {v : Value} (h : RunVal w s v) : ∃ qa cq ca cc oa oc, v = .agg #[.slice qa s.arr.length cq, .slice ca s.ctx.length cc, .slice oa s.out.length oc, .int .i64 s.steps] ∧ GridR w qa s.arr ∧ RowB w.heap.size w 1 ca s.ctx.length (fun j _ => .int .u32 (s.ctx.getD j 0)) ∧
    RowB w.heap.size w 1 oa s.out.length (fun j _ => .int .u8 (s.out.getD j 0)) := by
  obtain ⟨qa, cq, ca, cc, oa, oc, rfl, h1, h2, h3⟩ := h
  exact ⟨qa, cq, ca, cc, oa, oc, rfl, h1.toR, h2.row, h3⟩
theorem zeros_fit {ars : List Ar} (h : ∀ a ∈ ars, 1 ≤ a.size ∧ a.size ≤ 65536) : fitsB ars (zeros ars) 16 = true := by
  refine fits_all (by simp [zeros]) rfl (fun k hk => ?_)
  rw [zeros_getD ars k hk]
  have hm : ars.getD k default ∈ ars := by rw [List.getD_eq_getElem?_getD, List.getElem?_eq_getElem hk]; exact List.getElem_mem hk
  have := h _ hm
  refine fitB_all (by rw [List.length_replicate]; omega) (fun j hj => ?_)
  rw [List.length_replicate] at hj
  generalize (ars.getD k default).size.toNat = n at hj ⊢
  rw [List.getD_eq_getElem?_getD, List.getElem?_replicate, if_pos hj]
  decide
theorem zeros_u32 (ars : List Ar) : ∀ a ∈ zeros ars, u32s a := by
  intro a ha
  simp only [zeros, List.mem_map] at ha
  obtain ⟨x, _, rfl⟩ := ha
  intro y hy
  rw [List.eq_of_mem_replicate hy]; omega
end Go.Proofs.Ytefdnjhhaejgbaa

namespace Go.Proofs.Ytefdnjhhaejgbaa
open Go.RowKit
set_option linter.unusedVariables false
theorem fits_small {ars : List Ar} {arr : List (List Int)} {n : Nat} (h : fitsB ars arr n = true) (hs : ∀ a ∈ ars, 1 ≤ a.size ∧ a.size ≤ 65536) : arr.length = ars.length ∧ n = 16 ∧ ∀ a ∈ arr, a.length ≤ 65536 := by
  obtain ⟨h1, h2, h3⟩ := fits_lens h
  refine ⟨h1, h2, fun a ha => ?_⟩
  obtain ⟨k, hk, rfl⟩ := List.getElem_of_mem ha
  have e := h3 k hk
  have hm := hs (ars.getD k default) (by rw [List.getD_eq_getElem?_getD, List.getElem?_eq_getElem (by omega)]; exact List.getElem_mem _)
  rw [List.getD_eq_getElem?_getD, List.getElem?_eq_getElem hk, Option.getD_some] at e
  omega
theorem u32s_rep (n : Nat) : u32s (List.replicate n 0) := fun x hx => by rw [List.eq_of_mem_replicate hx]; decide
theorem tick_ne {c : MC} {s : PS} {e : Int} (h : tick c s = .error e) : e ≠ 0 := by
  unfold tick at h
  split at h
  · cases h
  · cases h; decide
theorem effect_ne {c : MC} {s : PS} {i : RI} {e : Int} (h : effect c s i = .error e) : e ≠ 0 := by
  unfold effect at h
  by_cases h0 : i.op = 0
  · rw [if_pos h0] at h
    cases h
  rw [if_neg h0] at h
  by_cases h36 : i.op = 36
  · rw [if_pos h36] at h
    cases h
  rw [if_neg h36] at h
  by_cases h37 : i.op = 37
  · rw [if_pos h37] at h
    cases h
  rw [if_neg h37] at h
  by_cases h38 : i.op = 38
  · rw [if_pos h38] at h
    cases h
  rw [if_neg h38] at h
  by_cases h32 : i.op = 32
  · rw [if_pos h32] at h
    cases h
  rw [if_neg h32] at h
  by_cases h33 : i.op = 33
  · rw [if_pos h33] at h
    cases h
  rw [if_neg h33] at h
  by_cases h34 : i.op = 34
  · rw [if_pos h34] at h
    split at h
    · cases h
    · cases h; decide
  rw [if_neg h34] at h
  by_cases h35 : i.op = 35
  · rw [if_pos h35] at h
    cases h
  rw [if_neg h35] at h
  by_cases h3 : i.op = 3
  · rw [if_pos h3] at h
    split at h
    · cases h
    · cases h; decide
  rw [if_neg h3] at h
  by_cases h4 : i.op = 4
  · rw [if_pos h4] at h
    split at h
    · cases h
    · cases h; decide
  rw [if_neg h4] at h
  by_cases h27 : i.op = 27
  · rw [if_pos h27] at h
    cases h
  rw [if_neg h27] at h
  by_cases h28 : i.op = 28
  · rw [if_pos h28] at h
    cases h
  rw [if_neg h28] at h
  by_cases h29 : i.op = 29
  · rw [if_pos h29] at h
    split at h
    · cases h; decide
    · split at h
      · cases h
      · exact tick_ne h
  rw [if_neg h29] at h
  by_cases h30 : i.op = 30
  · rw [if_pos h30] at h
    cases h
  rw [if_neg h30] at h
  by_cases h31 : i.op = 31
  · rw [if_pos h31] at h
    split at h
    · cases h
    · split at h
      · cases h
      · split at h
        · cases h
        · exact tick_ne h
  rw [if_neg h31] at h
  split at h
  · cases h
  · cases h; assumption
theorem mstep_ne {c : MC} {s : PS} {e : Int} (h : mstep c s = .error e) : e ≠ 0 := by
  unfold mstep at h
  dsimp only at h
  split at h
  · cases ht : tick c s with
    | error n => rw [ht] at h; cases h; exact tick_ne ht
    | ok s1 =>
      rw [ht] at h
      cases he : effect c s1 (c.cd.getD s.pc default) with
      | error n => simp only [Except.bind, he] at h; cases h; exact effect_ne he
      | ok s2 => simp only [Except.bind, he] at h; cases h
  · cases he : effect c s (c.cd.getD s.pc default) with
    | error n => simp only [Except.bind, he] at h; cases h; exact effect_ne he
    | ok s2 => simp only [Except.bind, he] at h; cases h
theorem mrun_ne {c : MC} : ∀ (n : Nat) {s : PS} {e : Int}, mrun c n s = .error e → e ≠ 0
  | 0, s, e, h => by cases h
  | n + 1, s, e, h => by
    rw [mrun] at h
    split at h
    · cases hm : mstep c s with
      | error k => rw [hm] at h; cases h; exact mstep_ne hm
      | ok s1 => rw [hm] at h; exact mrun_ne n h
    · cases h
theorem NeedsErr {ars : List Ar} {regs spills : Int} {cd : List RI} {arr : List (List Int)} {ctx : List Int} {input : Int} {ended : Bool} {F n : Int} (h : machRun ars regs spills cd arr ctx input ended F = .error n) : n ≠ 0 := by
  unfold machRun runRes at h
  split at h
  · cases h; assumption
  · split at h
    · cases h; decide
    · split at h
      · cases h; decide
      · exact mrun_ne _ h
end Go.Proofs.Ytefdnjhhaejgbaa

namespace Go.Proofs.Ytefdnjhhaejgbaa
open Go.RowKit
set_option linter.unusedVariables false
theorem run_append_empty {P : Program} {w : World} {base size : Nat} {t ty e : TypeId} {i : TypeInfo} (ht : P.underlying t = some (.slice e)) (hi : P.info? e = some i) {v : Value} {n : Nat} {xs : List Value} (hown : w.ownsRow base e size v n xs) (xa : Option Addr) (c : Nat) :
    (Builtin.append_ #[t, t] ty #[v, .slice xa 0 c]).run P w = .ok v w := by
  rcases hown.2 with ⟨rfl, rfl⟩ | ⟨g, cap, cur, rfl, _, _, hnc, _⟩
  · cases xa <;> simp [Builtin.append_, run_underlying ht, sizeOf, typeInfo, hi, Builtin.lenOf, Builtin.firstCells, loadCells, loadCellsFrom, storeCells]
  · cases xa <;> simp [Builtin.append_, run_underlying ht, sizeOf, typeInfo, hi, Builtin.lenOf, Builtin.firstCells, hnc, loadCells, loadCellsFrom, storeCells]
theorem wpList_app_row {P : Program} {t e : TypeId} {z : Value} {bytes : Nat} (E : ElT P t e z 1 bytes) {w : World} {ops : Array Oper} {rest : List Oper} {o : Oper} {a : Act} {Q : Exit → Act → World → Prop}
    (hgd : o.guard = none) (s x : Operand) (ho : o.op = .call { callee := .builtin .append, args := #[s, x], argTypes := #[t, t] })
    (base : Nat) (v : Value) (n : Nat) (xs : List Value) (hs : a.eval s = v) (hown : w.ownsRow base e 1 v n xs)
    (xa : Option Addr) (m c : Nat) (f : Nat → Value) (hx : a.eval x = .slice xa m c) (hrow : RowB w.heap.size w 1 xa m fun j _ => f j) (h1 : ∀ j, (f j).oneCell' = true) (hbytes : (n + m) * bytes ≤ 140737488355328) (hbase : base ≤ w.heap.size)
    (h : ∀ va cap w', w'.ownsRow base e 1 (.slice va (n + m) cap) (n + m) (xs ++ (List.range m).map f) → w.grownBy w' v.ownBlock → ((Value.slice va (n + m) cap).ownBlock = v.ownBlock ∨ (Value.slice va (n + m) cap).ownBlock = some w.heap.size) →
      wpList P ops Q rest (a.put o.dst (.slice va (n + m) cap)) w') : wpList P ops Q (o :: rest) a w := by
  obtain ⟨i, hi, hz, h2, h3⟩ := info_parts E.info
  have hm : n + m ≤ maxLen := by
    have := Nat.le_mul_of_pos_right (n + m) E.hby
    unfold maxLen
    omega
  by_cases h0 : m = 0
  · subst h0
    have hr := run_append_empty (ty := o.type) E.ht hi hown xa c
    obtain ⟨va, cap, hv⟩ : ∃ va cap, v = .slice va (n + 0) cap := by
      rcases hown.2 with ⟨rfl, rfl⟩ | ⟨g, cap, cur, rfl, _⟩
      · exact ⟨none, 0, rfl⟩
      · exact ⟨_, cap, rfl⟩
    have hk := h va cap w (by rw [← hv]; simpa using hown) ⟨rfl, rfl, rfl, Nat.le_refl _, fun _ _ _ => rfl⟩ (.inl (by rw [hv]))
    refine wpList_plain hgd fun _ hK => ?_
    unfold Oper.wp execOp
    simp only [ho, resolve, invoke, builtin, Sem.run_bind, Sem.run_pure, Result.andThen_ok, List.map_toArray, List.map_cons, List.map_nil, hs, hx, hr]
    rw [hv]
    exact hK _ _ hk
  · obtain ⟨b, off, rfl, _, _⟩ := hrow 0 (by omega)
    refine wpList_append_lies w hgd s x t ho base e i z 1 bytes E.ht hi hz h2 h3 E.hzs E.hsz v n xs hs hown ⟨b, off, none⟩ m c ((List.range m).map f) hx (by simp) (fun j u hj => ?_) (fun u hu => ?_) (by omega) hm hbytes hbase _ rfl ?_
    · rw [List.getElem?_map] at hj
      have hjm : j < m := by
        rcases Nat.lt_or_ge j m with h' | h'
        · exact h'
        · rw [List.getElem?_eq_none (by simpa using h')] at hj; cases hj
      rw [List.getElem?_range hjm] at hj
      cases hj
      obtain ⟨b', off', e', _, h4⟩ := hrow j hjm
      simp only [Option.some.injEq, Addr.mk.injEq] at e'
      obtain ⟨rfl, rfl, _⟩ := e'
      have := h4 0 (by omega)
      rw [addr_add]
      simpa using this
    · simp only [List.mem_map, List.mem_range] at hu
      obtain ⟨j, _, rfl⟩ := hu
      exact h1 j
    · intro g cap w' g1 g2 g3 g4
      refine h _ cap w' g1 g2 ?_
      rcases g3 with g3 | g3
      · exact .inl g3.symm
      · right; rw [g3]; rfl
structure FS where
  arr : List (List Int)
  ctx : List Int
  out : List Int
  steps : Int
def feedStep (ars : List Ar) (regs spills : Int) (cd : List RI) (data : List Int) (fuel : Int) (k : Nat) (a : FS) : Except Int FS :=
  match machRun ars regs spills cd a.arr a.ctx (data.getD k 0) (decide (k = data.length)) (fuel - a.steps) with
  | .error e => .error e
  | .ok s => if 65536 < (a.out ++ s.out).length then .error 5 else .ok ⟨s.arr, s.ctx, a.out ++ s.out, a.steps + s.steps⟩
def feedGo (ars : List Ar) (regs spills : Int) (cd : List RI) (data : List Int) (fuel : Int) : Nat → Nat → FS → Except Int FS
  | 0, _, a => .ok a
  | n + 1, k, a => (feedStep ars regs spills cd data fuel k a).bind (feedGo ars regs spills cd data fuel n (k + 1))
def feedRes (ars : List Ar) (regs spills : Int) (cd : List RI) (data : List Int) (fuel : Int) : Except Int FS :=
  if (chkCode ars regs spills cd).2 ≠ 0 then .error (chkCode ars regs spills cd).2 else if 65536 < data.length then .error 5 else if fuel < 0 ∨ 281474976710656 < fuel then .error 2
  else feedGo ars regs spills cd data fuel (data.length + 1) 0 ⟨zeros ars, List.replicate 16 0, [], 0⟩
structure FGood (ars : List Ar) (fuel : Int) (a : FS) : Prop where
  fit : fitsB ars a.arr a.ctx.length = true
  ua : ∀ x ∈ a.arr, u32s x
  uc : u32s a.ctx
  s0 : 0 ≤ a.steps
  s1 : a.steps ≤ fuel
  ol : a.out.length ≤ 65536
theorem feedStep_good {ars : List Ar} {regs spills : Int} {cd : List RI} {data : List Int} {fuel : Int} {k : Nat} {a b : FS} (harg : ∀ i ∈ cd, 0 ≤ i.arg ∧ i.arg < 4294967296) (hd : ∀ n ∈ data, 0 ≤ n ∧ n < 256) (g : FGood ars fuel a) (h : feedStep ars regs spills cd data fuel k a = .ok b) : FGood ars fuel b := by
  unfold feedStep at h
  split at h
  · cases h
  · rename_i s hs
    split at h
    · cases h
    · rename_i hl
      cases h
      have hi : u32 (data.getD k 0) := by
        rw [List.getD_eq_getElem?_getD]
        cases hk : data[k]? with
        | none => exact ⟨by decide, by decide⟩
        | some x => have := hd x (List.mem_of_getElem? hk); exact ⟨this.1, by simp only [Option.getD_some]; omega⟩
      obtain ⟨n1, n2, n3, n4, n5, _, _⟩ := mach_fuel harg g.ua g.uc hi hs
      have := g.s0
      exact ⟨n3, n4, n5, by show 0 ≤ a.steps + s.steps; omega, by show a.steps + s.steps ≤ fuel; omega, by show (a.out ++ s.out).length ≤ 65536; omega⟩
end Go.Proofs.Ytefdnjhhaejgbaa

namespace Go.Proofs.Ytefdnjhhaejgbaa
open Go.RowKit
set_option linter.unusedVariables false
def Lies (B E : Nat) (W : World) (F : World → Prop) : Prop := ∀ W' : World, E ≤ W'.heap.size → (∀ k, B ≤ k → k < E → W'.heap[k]? = W.heap[k]?) → F W'
theorem Lies.here {B E : Nat} {W : World} {F : World → Prop} (h : Lies B E W F) (hE : E ≤ W.heap.size) : F W := h W hE (fun _ _ _ => rfl)
theorem Lies.move {B E : Nat} {W W' : World} {F : World → Prop} (h : Lies B E W F) (hs : ∀ k, B ≤ k → k < E → W'.heap[k]? = W.heap[k]?) : Lies B E W' F :=
  fun V h1 h2 => h V h1 (fun k a b => (h2 k a b).trans (hs k a b))
theorem Lies.imp {B E : Nat} {W : World} {F G : World → Prop} (h : Lies B E W F) (hi : ∀ W, F W → G W) : Lies B E W G := fun V h1 h2 => hi V (h V h1 h2)
def cutW (W : World) (n : Nat) : World := { W with heap := W.heap.extract 0 n }
theorem cut_size {W : World} {n : Nat} (h : n ≤ W.heap.size) : (cutW W n).heap.size = n := by simp [cutW]; omega
theorem cut_get {W : World} {n k : Nat} (h : n ≤ W.heap.size) (hk : k < n) : (cutW W n).heap[k]? = W.heap[k]? := by
  simp only [cutW, Array.getElem?_extract, Nat.zero_add]
  rw [if_pos (by omega)]
theorem cut_below {W : World} {n : Nat} (h : n ≤ W.heap.size) : Below (cutW W n).heap.size (cutW W n) W :=
  ⟨rfl, rfl, rfl, by rw [cut_size h]; exact h, fun k hk => (cut_get h (by rw [cut_size h] at hk; exact hk)).symm⟩
theorem cut_same {W Y : World} {B : Nat} (hE : Y.heap.size ≤ W.heap.size) (hs : ∀ k, B ≤ k → k < Y.heap.size → W.heap[k]? = Y.heap[k]?) : ∀ k, B ≤ k → (cutW W Y.heap.size).heap[k]? = Y.heap[k]? := by
  intro k hk
  by_cases hk2 : k < Y.heap.size
  · rw [cut_get hE hk2]; exact hs k hk hk2
  · rw [Array.getElem?_eq_none (by rw [cut_size hE]; omega), Array.getElem?_eq_none (by omega)]
def MemRows (qa ca : Option Addr) (arr : List (List Int)) (ctx : List Int) (W : World) : Prop := GridR W qa arr ∧ RowB W.heap.size W 1 ca ctx.length fun j _ => .int .u32 (ctx.getD j 0)
def RunRows (qa ca oa : Option Addr) (s : PS) (W : World) : Prop := MemRows qa ca s.arr s.ctx W ∧ RowB W.heap.size W 1 oa s.out.length fun j _ => .int .u8 (s.out.getD j 0)
theorem RunVal.rows {w : World} {s : PS} {a b o : Option Addr} {n c m d l x : Nat} {st : Int} (h : RunVal w s (.agg #[.slice a n c, .slice b m d, .slice o l x, .int .i64 st])) : RunRows a b o s w := by
  obtain ⟨qa, cq, ca, cc, oa, oc, e, h1, h2, h3⟩ := h
  simp only [Value.agg.injEq, Array.mk.injEq, List.cons.injEq, Value.slice.injEq, and_true] at e
  obtain ⟨⟨rfl, _⟩, ⟨rfl, _⟩, ⟨rfl, _⟩, _⟩ := e
  exact ⟨⟨h1.toR, h2.row⟩, h3⟩
theorem lift_run {B : Nat} {Y : World} {s : PS} {v : Value} (hv : ∀ w2 : World, (∀ k, B ≤ k → w2.heap[k]? = Y.heap[k]?) → w2.heap.size = Y.heap.size → RunVal w2 s v) :
    ∃ qa cq ca cc oa oc, v = .agg #[.slice qa s.arr.length cq, .slice ca s.ctx.length cc, .slice oa s.out.length oc, .int .i64 s.steps] ∧ Lies B Y.heap.size Y (RunRows qa ca oa s) := by
  obtain ⟨qa, cq, ca, cc, oa, oc, rfl, _⟩ := hv Y (fun _ _ => rfl) rfl
  refine ⟨qa, cq, ca, cc, oa, oc, rfl, fun W hE hs => ?_⟩
  obtain ⟨⟨h1, h2⟩, h3⟩ := (hv (cutW W Y.heap.size) (cut_same hE hs) (cut_size hE)).rows
  have hb := cut_below hE
  exact ⟨⟨h1.below hb, (h2.below hb).mono hb.size⟩, (h3.below hb).mono hb.size⟩
theorem lift_copy {Z X : World} {arr : List (List Int)} {ctx : List Int} {e : Ending} (h : CopyPost Z arr ctx e X) :
    ∃ qa cq ca cc, e = .returned (.agg #[.slice qa arr.length cq, .slice ca ctx.length cc]) ∧ Lies Z.heap.size X.heap.size X (MemRows qa ca arr ctx) ∧ Below Z.heap.size Z X := by
  obtain ⟨v, τ, ab, ac, cb, cc, rfl, hgo, ⟨t9, ht9⟩, tcb, hcb, hbX⟩ := h
  obtain ⟨va, vc, rfl⟩ := grid_slice' hgo
  refine ⟨va, vc, some ⟨cb, 0, none⟩, cc, rfl, fun W hE hs => ?_, hbX⟩
  have hb := cut_below hE
  have g1 : GridAt (cutW W X.heap.size) va arr := (hgo.above (cut_same hE hs)).at rfl
  have g2 : NumsAt (cutW W X.heap.size) (some ⟨cb, 0, none⟩) ctx := by
    refine ⟨cb, 0, rfl, fun j hj => ?_⟩
    have ht2 : Blk (cutW W X.heap.size) cb (ints .u32 ctx ++ t9) 42 := by unfold Blk; rw [cut_same hE hs cb hcb]; exact ht9
    rw [Nat.zero_add]
    exact (ht2.cell j).trans (ints_get_app hj)
  exact ⟨g1.toR.below hb, (g2.row.below hb).mono hb.size⟩
theorem exec_is (arsA codeA qa ca : Option Addr) (arsC codeC cq cc : Nat) (ars : List Ar) (regs spills : Int) (cd : List RI) (arr : List (List Int)) (ctx : List Int) (input : Int) (ended : Bool) (fuel : Int) (w : World) (pb : Nat)
    (hchk : (chkCode ars regs spills cd).2 = 0) (harg : ∀ i ∈ cd, 0 ≤ i.arg ∧ i.arg < 4294967296) (hf : fitsB ars arr ctx.length = true) (hF : 0 ≤ fuel ∧ fuel ≤ 281474976710656) (ha : ∀ a ∈ arr, u32s a) (hc : u32s ctx) (hi : u32 input)
    (hpt : Blk w pb (natsV (ptOf cd)) 3) (hars : RowB w.heap.size w 2 arsA ars.length fun i j => (ars.getD i default).cell j) (hcd : RowB w.heap.size w 5 codeA cd.length fun i j => (cd.getD i default).cell j) (hm : MemRows qa ca arr ctx w) :
    Calls Try.prog 39 #[.agg #[.slice arsA ars.length arsC, .int .i64 regs, .int .i64 spills, .slice codeA cd.length codeC], .slice (some ⟨pb, 0, none⟩) cd.length cd.length, .agg #[.slice qa arr.length cq, .slice ca ctx.length cc], .agg #[.int .u32 input, .bool ended, .int .i64 fuel]] w
      (ExecPost w (machRun ars regs spills cd arr ctx input ended fuel)) := by
  have G := chk_good hchk
  obtain ⟨t, R⟩ := good_tree G harg input ended fuel
  rw [mach_is input ended hchk hf hF]
  exact run_exec ars regs spills cd arr ctx input ended fuel _ arsA codeA qa ca arsC codeC cq cc w G (runs_all R (init_inv G hf ha hc hi hF t)) hf pb hpt hpt.lt hars hcd hm.1 hm.2
structure FeedAt (w : World) (cells : List Value) (cd : List RI) (pb ab : Nat) (a : FS) (qa ca oa : Option Addr) (cq cc oc : Nat) (W : World) : Prop where
  bel : Below w.heap.size w W
  code : Blk W w.heap.size cells 25
  res : Blk W (w.heap.size + 1) zeroRun 49
  pt : Blk W pb (natsV (ptOf cd)) 3
  all : Blk W ab [.slice qa a.arr.length cq, .slice ca a.ctx.length cc, .slice oa a.out.length oc, .int .i64 a.steps] 49
  mem : ∃ B E, pb < B ∧ (ab < B ∨ E ≤ ab) ∧ E ≤ W.heap.size ∧ Lies B E W (MemRows qa ca a.arr a.ctx)
  out : W.ownsRow (ab + 1) 5 1 (.slice oa a.out.length oc) a.out.length (ints .u8 a.out)
  l1 : w.heap.size + 1 < pb
  l2 : pb < ab
theorem feed_keep {V1 V3 : World} {o : Obj} {row : Option Nat} (hg : (V1.alloc o).drew.grownBy V3 row) {k : Nat} (hk : k < V1.heap.size) (hne : some k ≠ row) : V3.heap[k]? = V1.heap[k]? := by
  rw [hg.block k (by simp [World.drew]; omega) hne]
  exact Below.heap_alloc _ _ _ hk
theorem feed_round {w Wr V0 V1 V3 : World} {cells : List Value} {cd : List RI} {pb ab : Nat} {a : FS} {qa ca oa qb cb ob on : Option Addr} {cq cc oc cqb ccb ocb ocn : Nat} {s : PS} (F : FeedAt w cells cd pb ab a qa ca oa cq cc oc Wr)
    (hb0 : Below Wr.heap.size Wr V0) (hb1 : Below V0.heap.size V0 V1) (hl : Lies V0.heap.size V1.heap.size V1 (RunRows qb cb ob s))
    (hg : (V1.alloc (.cells #[.slice qb s.arr.length cqb, .slice cb s.ctx.length ccb, .slice ob s.out.length ocb, .int .i64 s.steps] 49)).drew.grownBy V3 (Value.slice oa a.out.length oc).ownBlock)
    (hown : V3.ownsRow (ab + 1) 5 1 (.slice on (a.out.length + s.out.length) ocn) (a.out.length + s.out.length) (ints .u8 a.out ++ (List.range s.out.length).map fun j => .int .u8 (s.out.getD j 0)))
    (hat : (Value.slice on (a.out.length + s.out.length) ocn).ownBlock = (Value.slice oa a.out.length oc).ownBlock ∨ (Value.slice on (a.out.length + s.out.length) ocn).ownBlock = some (V1.heap.size + 1)) :
    Blk V3 V1.heap.size [.slice qb s.arr.length cqb, .slice cb s.ctx.length ccb, .slice ob s.out.length ocb, .int .i64 s.steps] 49 ∧
    Blk V3 ab [.slice qa a.arr.length cq, .slice ca a.ctx.length cc, .slice oa a.out.length oc, .int .i64 a.steps] 49 ∧ ab < V1.heap.size ∧
    ∀ V4 : World, (∀ k, k ≠ V1.heap.size → k ≠ ab → V4.heap[k]? = V3.heap[k]?) → V4.heap.size = V3.heap.size → V4.os = V3.os → V4.tape = V3.tape → V4.output = V3.output →
      Blk V4 ab [.slice qb s.arr.length cqb, .slice cb s.ctx.length ccb, .slice on (a.out.length + s.out.length) ocn, .int .i64 (a.steps + s.steps)] 49 →
      FeedAt w cells cd pb ab ⟨s.arr, s.ctx, a.out ++ s.out, a.steps + s.steps⟩ qb cb on cqb ccb ocn V4 := by
  have s0 := hb0.size
  have s1 := hb1.size
  have hab := F.all.lt
  have hpb := F.l2
  have hw := F.l1
  have hrow : ∀ x, (Value.slice oa a.out.length oc).ownBlock = some x → ab + 1 ≤ x ∧ x < Wr.heap.size := fun x hx => F.out.lt x hx
  have s3 : V1.heap.size + 1 ≤ V3.heap.size := by have := hg.size; simpa [World.drew] using this
  have hne : ∀ k, k ≤ ab → some k ≠ (Value.slice oa a.out.length oc).ownBlock := fun k hk e => by have := (hrow k e.symm).1; omega
  have old : ∀ k, k ≤ ab → V3.heap[k]? = Wr.heap[k]? := fun k hk => by
    rw [feed_keep hg (by omega) (hne k hk), hb1.block k (by omega), hb0.block k (by omega)]
  have rbox : V3.heap[V1.heap.size]? = some (.cells [.slice qb s.arr.length cqb, .slice cb s.ctx.length ccb, .slice ob s.out.length ocb, .int .i64 s.steps].toArray 49 (0, 0)) := by
    rw [hg.block V1.heap.size (by simp [World.drew]) (fun e => by have := (hrow _ e.symm).2; omega)]
    exact heap_new1 _ _
  refine ⟨rbox, ?_, by omega, fun V4 hk hsz h1 h2 h3 hall => ?_⟩
  · unfold Blk; rw [old ab (Nat.le_refl _)]; exact F.all
  have hlen : (a.out ++ s.out).length = a.out.length + s.out.length := List.length_append
  have hlst : ints .u8 a.out ++ ((List.range s.out.length).map fun j => Value.int .u8 (s.out.getD j 0)) = ints .u8 (a.out ++ s.out) := by
    unfold ints
    rw [List.map_append]
    congr 1
    apply List.ext_getElem
    · simp
    · intro i h1 h2
      simp only [List.getElem_map, List.getElem_range]
      have : i < s.out.length := by simpa using h2
      rw [List.getD_eq_getElem?_getD, List.getElem?_eq_getElem this]; rfl
  have keep4 : ∀ k, k < ab → V4.heap[k]? = Wr.heap[k]? := fun k hk' => by rw [hk k (by omega) (by omega), old k (by omega)]
  refine ⟨⟨?_, ?_, ?_, ?_, ?_⟩, ?_, ?_, ?_, by rw [hlen]; exact hall, ⟨V0.heap.size, V1.heap.size, by omega, .inl (by omega), by omega, ?_⟩, ?_, hw, hpb⟩
  · rw [h1, hg.os, ← F.bel.os, ← hb0.os, ← hb1.os]; rfl
  · rw [h2, hg.tape, ← F.bel.tape, ← hb0.tape, ← hb1.tape]; rfl
  · rw [h3, hg.output, ← F.bel.output, ← hb0.output, ← hb1.output]; rfl
  · have := F.bel.size; omega
  · intro k hk'; rw [keep4 k (by omega), F.bel.block k hk']
  · unfold Blk; rw [keep4 _ (by omega)]; exact F.code
  · unfold Blk; rw [keep4 _ (by omega)]; exact F.res
  · unfold Blk; rw [keep4 _ (by omega)]; exact F.pt
  · refine (hl.imp fun W h => h.1).move fun k h5 h6 => ?_
    rw [hk k (by omega) (by omega), feed_keep hg h6 (fun e => by have := (hrow _ e.symm).2; omega)]
  · rw [hlst] at hown
    rw [hlen]
    refine ⟨hown.1, ?_⟩
    rcases hown.2 with hn | ⟨g, cap, cur, hv, hb, hgg, rest⟩
    · exact .inl hn
    · have hgo : (Value.slice on (a.out.length + s.out.length) ocn).ownBlock = some g := by rw [hv]; rfl
      have hg1 : g ≠ V1.heap.size := by
        rw [hgo] at hat
        rcases hat with e | e
        · have := (hrow g e.symm).2; omega
        · simp only [Option.some.injEq] at e; omega
      refine .inr ⟨g, cap, cur, hv, hb, ?_, rest⟩
      rw [hk g hg1 (by omega)]
      exact hgg
end Go.Proofs.Ytefdnjhhaejgbaa

namespace Go.Proofs.Ytefdnjhhaejgbaa
open Go.RowKit
set_option linter.unusedVariables false
theorem effect_out {c : MC} {s s' : PS} {i : RI} (h : effect c s i = .ok s') :
    (i.op = 34 ∧ s'.out.length = s.out.length + 1 ∧ s.out.length < 65536 ∧ s'.steps = s.steps) ∨ (s'.out = s.out ∧ s.steps ≤ s'.steps) := by
  unfold effect at h
  by_cases h34 : i.op = 34
  · simp only [h34, reduceIte, Int.reduceEq] at h
    split at h
    · rename_i hl
      cases h
      exact .inl ⟨h34, by simp, hl, rfl⟩
    · cases h
  · right
    by_cases h0 : i.op = 0
    · rw [if_pos h0] at h
      cases h; exact ⟨rfl, Int.le_refl _⟩
    rw [if_neg h0] at h
    by_cases h36 : i.op = 36
    · rw [if_pos h36] at h
      cases h; exact ⟨rfl, Int.le_refl _⟩
    rw [if_neg h36] at h
    by_cases h37 : i.op = 37
    · rw [if_pos h37] at h
      cases h; exact ⟨rfl, Int.le_refl _⟩
    rw [if_neg h37] at h
    by_cases h38 : i.op = 38
    · rw [if_pos h38] at h
      cases h; exact ⟨rfl, Int.le_refl _⟩
    rw [if_neg h38] at h
    by_cases h32 : i.op = 32
    · rw [if_pos h32] at h
      cases h; exact ⟨rfl, Int.le_refl _⟩
    rw [if_neg h32] at h
    by_cases h33 : i.op = 33
    · rw [if_pos h33] at h
      cases h; exact ⟨rfl, Int.le_refl _⟩
    rw [if_neg h33] at h
    rw [if_neg h34] at h
    by_cases h35 : i.op = 35
    · rw [if_pos h35] at h
      cases h; exact ⟨rfl, Int.le_refl _⟩
    rw [if_neg h35] at h
    by_cases h3 : i.op = 3
    · rw [if_pos h3] at h
      split at h <;> cases h
      exact ⟨rfl, Int.le_refl _⟩
    rw [if_neg h3] at h
    by_cases h4 : i.op = 4
    · rw [if_pos h4] at h
      split at h <;> cases h
      exact ⟨rfl, Int.le_refl _⟩
    rw [if_neg h4] at h
    by_cases h27 : i.op = 27
    · rw [if_pos h27] at h
      cases h
      split <;> exact ⟨rfl, Int.le_refl _⟩
    rw [if_neg h27] at h
    by_cases h28 : i.op = 28
    · rw [if_pos h28] at h
      cases h; exact ⟨rfl, Int.le_refl _⟩
    rw [if_neg h28] at h
    by_cases h29 : i.op = 29
    · rw [if_pos h29] at h
      unfold tick at h
      split at h
      · cases h
      · split at h
        · cases h; exact ⟨rfl, Int.le_refl _⟩
        · split at h <;> cases h
          refine ⟨rfl, ?_⟩
          show s.steps ≤ s.steps + 1
          omega
    rw [if_neg h29] at h
    by_cases h30 : i.op = 30
    · rw [if_pos h30] at h
      cases h
      split <;> exact ⟨rfl, Int.le_refl _⟩
    rw [if_neg h30] at h
    by_cases h31 : i.op = 31
    · rw [if_pos h31] at h
      unfold tick at h
      split at h
      · cases h; exact ⟨rfl, Int.le_refl _⟩
      · split at h
        · cases h; exact ⟨rfl, Int.le_refl _⟩
        · split at h
          · cases h; exact ⟨rfl, Int.le_refl _⟩
          · split at h <;> cases h
            refine ⟨rfl, ?_⟩
            show s.steps ≤ s.steps + 1
            omega
    rw [if_neg h31] at h
    split at h <;> cases h
    exact ⟨rfl, Int.le_refl _⟩
theorem mstep_out {c : MC} {s s' : PS} (h : mstep c s = .ok s') (h1 : s.out.length ≤ 65536) (h2 : (s.out.length : Int) ≤ s.steps) : s'.out.length ≤ 65536 ∧ (s'.out.length : Int) ≤ s'.steps := by
  unfold mstep at h
  dsimp only at h
  split at h
  · rename_i hop
    unfold tick at h
    split at h
    · simp only [Except.bind] at h
      cases he : effect c { s with steps := s.steps + 1 } (c.cd.getD s.pc default) with
      | error n => rw [he] at h; cases h
      | ok s2 =>
        rw [he] at h
        cases h
        rcases effect_out he with ⟨_, e1, e2, e3⟩ | ⟨e1, e2⟩
        · dsimp only at e1 e2 e3 ⊢
          omega
        · dsimp only at e1 e2 ⊢
          rw [e1]
          exact ⟨h1, by omega⟩
    · cases h
  · rename_i hop
    simp only [Except.bind] at h
    cases he : effect c s (c.cd.getD s.pc default) with
    | error n => rw [he] at h; cases h
    | ok s2 =>
      rw [he] at h
      cases h
      rcases effect_out he with ⟨e0, _⟩ | ⟨e1, e2⟩
      · exact absurd ⟨by rw [e0]; decide, by rw [e0]; decide⟩ hop
      · dsimp only at e1 e2 ⊢
        rw [e1]
        exact ⟨h1, by omega⟩
theorem mrun_out {c : MC} : ∀ (n : Nat) {s s' : PS}, mrun c n s = .ok s' → s.out.length ≤ 65536 → (s.out.length : Int) ≤ s.steps → s'.out.length ≤ 65536 ∧ (s'.out.length : Int) ≤ s'.steps
  | 0, s, s', h, h1, h2 => by cases h; exact ⟨h1, h2⟩
  | n + 1, s, s', h, h1, h2 => by
    rw [mrun] at h
    split at h
    · cases hm : mstep c s with
      | error k => rw [hm] at h; cases h
      | ok s1 =>
        rw [hm] at h
        obtain ⟨g1, g2⟩ := mstep_out hm h1 h2
        exact mrun_out n h g1 g2
    · cases h; exact ⟨h1, h2⟩
theorem mach_out {ars : List Ar} {regs spills : Int} {cd : List RI} {arr : List (List Int)} {ctx : List Int} {input : Int} {ended : Bool} {F : Int} {s : PS} (h : machRun ars regs spills cd arr ctx input ended F = .ok s) : s.out.length ≤ 65536 ∧ (s.out.length : Int) ≤ s.steps := by
  obtain ⟨h1, h2, h3, h4⟩ := mach_ok h
  exact mrun_out _ h4 (Nat.zero_le _) (Int.le_refl _)
end Go.Proofs.Ytefdnjhhaejgbaa

namespace Go.Proofs.Ytefdnjhhaejgbaa
open Go.RowKit
set_option linter.unusedVariables false
def FeedPost (w : World) (r : Except Int FS) (e : Ending) (w' : World) : Prop :=
  Below w.heap.size w w' ∧ match r with
  | .ok a => ∃ v, e = .returned (.tuple #[v, .int .i64 0]) ∧ ResAt w' a.arr a.ctx a.out a.steps v
  | .error n => e = .returned (.tuple #[zeroRunV, .int .i64 n])
def FeedBoxes (w : World) (c1 : List Value) (z : World) : Prop :=
  Below w.heap.size w z ∧ Blk z w.heap.size c1 25 ∧ Blk z (w.heap.size + 1) zeroRun 49 ∧ z.heap.size = w.heap.size + 2
theorem feed_boxes (w : World) (c1 : List Value) : FeedBoxes w c1 ((w.alloc (.cells c1.toArray 25)).alloc (.cells #[.slice none 0 0, .slice none 0 0, .slice none 0 0, .int .i64 0] 49)) := by
  refine ⟨((Below.refl _ _).alloc (by simp) _).alloc (by simp) _, ?_, ?_, by simp⟩
  · exact heap_old2 _ _ _
  · have := heap_new1 (w.alloc (.cells c1.toArray 25)) (.cells #[.slice none 0 0, .slice none 0 0, .slice none 0 0, .int .i64 0] 49)
    unfold Blk
    simpa [zeroRun] using this
theorem feedRes_ok {ars : List Ar} {regs spills : Int} {cd : List RI} {data : List Int} {fuel : Int} (h1 : (chkCode ars regs spills cd).2 = 0) (h2 : data.length ≤ 65536) (h3 : 0 ≤ fuel ∧ fuel ≤ 281474976710656) :
    feedRes ars regs spills cd data fuel = feedGo ars regs spills cd data fuel (data.length + 1) 0 ⟨zeros ars, List.replicate 16 0, [], 0⟩ := by
  unfold feedRes
  rw [if_neg (by simpa using h1), if_neg (by omega), if_neg (by omega)]
theorem feedGo_step {ars : List Ar} {regs spills : Int} {cd : List RI} {data : List Int} {fuel : Int} {k : Nat} {a : FS} (hk : k < data.length + 1) :
    feedGo ars regs spills cd data fuel (data.length + 1 - k) k a = (feedStep ars regs spills cd data fuel k a).bind (feedGo ars regs spills cd data fuel (data.length + 1 - (k + 1)) (k + 1)) := by
  rw [show data.length + 1 - k = (data.length + 1 - (k + 1)) + 1 by omega]
  rfl
theorem feed_end {w Y : World} {n : Int} {R : Except Int FS} (hR : R = .error n) (hb : Below w.heap.size w Y) :
    FeedPost w R (.returned (.tuple #[.agg #[.slice none 0 0, .slice none 0 0, .slice none 0 0, .int .i64 0], .int .i64 n])) ((((Y.setCell ⟨w.heap.size + 1, 0, none⟩ (.slice none 0 0)).setCell ⟨w.heap.size + 1, 1, none⟩ (.slice none 0 0)).setCell ⟨w.heap.size + 1, 2, none⟩ (.slice none 0 0)).setCell ⟨w.heap.size + 1, 3, none⟩ (.int .i64 0)) := by
  subst hR
  have hx : w.heap.size ≤ w.heap.size + 1 := by omega
  exact ⟨(((hb.setCell hx _).setCell hx _).setCell hx _).setCell hx _, rfl⟩
def FeedCls (ab rb : Nat) (o : Value) (m n : Int) (x : World) : Prop := x.cell? ⟨ab, 2, none⟩ = some o ∧ x.cell? ⟨ab, 3, none⟩ = some (.int .i64 m) ∧ ∃ l, Blk x rb l 49 ∧ l[3]? = some (.int .i64 n)
theorem FeedCls.set {ab rb : Nat} {o : Value} {m n : Int} {x : World} (h : FeedCls ab rb o m n x) (hne : ab ≠ rb) (v : Value) : FeedCls ab rb o m n (x.setCell ⟨rb, 2, none⟩ v) := by
  have e1 : ∀ i, (x.setCell ⟨rb, 2, none⟩ v).cell? ⟨ab, i, none⟩ = x.cell? ⟨ab, i, none⟩ := fun i => World.cell?_of_block (Below.heap_setCell _ _ _ _ hne)
  obtain ⟨l, h1, h2⟩ := h.2.2
  exact ⟨by rw [e1]; exact h.1, by rw [e1]; exact h.2.1, l.set 2 v, h1.set 2 v, by rw [List.getElem?_set_ne (by decide)]; exact h2⟩
theorem FeedAt.exec {w wr V0 : World} {cells : List Value} {cd : List RI} {pb ab : Nat} {a : FS} {qa ca oa : Option Addr} {cq cc oc : Nat} (F : FeedAt w cells cd pb ab a qa ca oa cq cc oc wr) (hb0 : Below wr.heap.size wr V0) :
    Blk V0 w.heap.size cells 25 ∧ Blk V0 pb (natsV (ptOf cd)) 3 ∧ Blk V0 ab [.slice qa a.arr.length cq, .slice ca a.ctx.length cc, .slice oa a.out.length oc, .int .i64 a.steps] 49 ∧ MemRows qa ca a.arr a.ctx V0 ∧ Below w.heap.size w V0 := by
  refine ⟨F.code.below hb0 F.code.lt, F.pt.below hb0 F.pt.lt, F.all.below hb0 F.all.lt, ?_, F.bel.trans (hb0.mono F.bel.size)⟩
  obtain ⟨B, E, h1, h2, h3, h4⟩ := F.mem
  exact h4 V0 (Nat.le_trans h3 hb0.size) fun k _ hk => hb0.block k (Nat.lt_of_lt_of_le hk h3)
theorem FeedAt.result {w wr w' : World} {cells : List Value} {cd : List RI} {pb ab : Nat} {a : FS} {qa ca oa : Option Addr} {cq cc oc : Nat} (F : FeedAt w cells cd pb ab a qa ca oa cq cc oc wr) (hk : ∀ k, k ≠ w.heap.size + 1 → w'.heap[k]? = wr.heap[k]?) (hs : w'.heap.size = wr.heap.size) :
    ResAt w' a.arr a.ctx a.out a.steps (.agg #[.slice qa a.arr.length cq, .slice ca a.ctx.length cc, .slice oa a.out.length oc, .int .i64 a.steps]) := by
  have h1 := F.l1
  have h2 := F.l2
  obtain ⟨B, E, m1, m2, m3, m4⟩ := F.mem
  have hm := m4 w' (by omega) fun k hB _ => hk k (by omega)
  have ho := own_same (w' := w') F.out fun k hx => hk k (by have := (F.out.lt k hx).1; omega)
  refine ⟨qa, cq, ca, cc, oa, oc, rfl, hm.1, hm.2, ?_⟩
  have hr := own_fits ho (by simp [ints])
  refine hr.congr fun j hj => ?_
  simp [ints, List.getD_eq_getElem?_getD, List.getElem?_eq_getElem hj]
set_option maxRecDepth 100000 in
set_option maxHeartbeats 1000000 in
theorem Feed_main (arsA codeA dA : Option Addr) (arsC codeC dC : Nat) (ars : List Ar) (regs spills : Int) (cd : List RI) (data : List Int) (fuel : Int) (w : World)
    (hars : RowB w.heap.size w 2 arsA ars.length fun i j => (ars.getD i default).cell j) (hcd : RowB w.heap.size w 5 codeA cd.length fun i j => (cd.getD i default).cell j) (hdat : RowB w.heap.size w 1 dA data.length fun j _ => .int .u8 (data.getD j 0))
    (hA : ars.length ≤ 9223372036854775807) (hC : cd.length ≤ 9223372036854775807) (harg : ∀ i ∈ cd, 0 ≤ i.arg ∧ i.arg < 4294967296) (hd8 : ∀ n ∈ data, 0 ≤ n ∧ n < 256) (hchk : (chkCode ars regs spills cd).2 = 0) (hdl : data.length ≤ 65536) (hfu : 0 ≤ fuel ∧ fuel ≤ 281474976710656) :
    Calls Try.prog 25 #[.agg #[.slice arsA ars.length arsC, .int .i64 regs, .int .i64 spills, .slice codeA cd.length codeC], .slice dA data.length dC, .int .i64 fuel] w (FeedPost w (feedRes ars regs spills cd data fuel)) := by
  have G := chk_good hchk
  obtain ⟨R, hR⟩ : ∃ R, feedRes ars regs spills cd data fuel = R := ⟨_, rfl⟩
  rw [hR]
  rw [feedRes_ok hchk hdl hfu] at hR
  obtain ⟨cells, hcells⟩ : ∃ cells : List Value, cells = [.slice arsA ars.length arsC, .int .i64 regs, .int .i64 spills, .slice codeA cd.length codeC] := ⟨_, rfl⟩
  have HR := Lib.hid hR
  have HARS := Lib.hid hars
  have HCD := Lib.hid hcd
  have HDAT := Lib.hid hdat
  have HARG := Lib.hid harg
  have HD8 := Lib.hid hd8
  have HCK := Lib.hid hchk
  have HG := Lib.hid G
  have qd : decide ((65536 : Int) < (data.length : Int)) = false := by simp; omega
  have qf : (decide (0 ≤ fuel) && decide (fuel ≤ 281474976710656)) = true := by simp; omega
  obtain ⟨hf0, hf1⟩ := hfu
  clear hars hcd hdat harg hd8 hchk G hR
  go_enter Try.func25, Try.ntmps25
  go_upto_region 1 with (fail)
  refine wp_gen _ (feed_boxes w [.slice arsA ars.length arsC, .int .i64 regs, .int .i64 spills, .slice codeA cd.length codeC]) ?_
  rintro W ⟨hbW, k1, k2, hsz⟩
  have HCH := Lib.hid (Check_any arsA codeA arsC codeC ars regs spills cd W ((HARS.out.below hbW).mono hbW.size) ((HCD.out.below hbW).mono hbW.size) hA hC HARG.out)
  have a0 : W.cell? ⟨w.heap.size, 0, none⟩ = some (.slice arsA ars.length arsC) := k1.cell 0
  have a1 : W.cell? ⟨w.heap.size, 0 + 1, none⟩ = some (.int .i64 regs) := k1.cell 1
  have a2 : W.cell? ⟨w.heap.size, 0 + 1 + 1, none⟩ = some (.int .i64 spills) := k1.cell 2
  have a3 : W.cell? ⟨w.heap.size, 0 + 1 + 1 + 1, none⟩ = some (.slice codeA cd.length codeC) := k1.cell 3
  have HW := Lib.hid (And.intro hbW (And.intro k1 k2))
  clear hbW k1 k2
  go_wp2_with fail
  refine HCH.out.mono ?_
  rintro e Y ⟨he, hbY⟩
  rw [HCK.out] at he
  subst he
  obtain ⟨hbW, k1, k2⟩ := HW.out
  have kY1 := k1.below hbY k1.lt
  have kY2 := k2.below hbY k2.lt
  have y0 : Y.cell? ⟨w.heap.size, 0, none⟩ = some (.slice arsA ars.length arsC) := kY1.cell 0
  have y3 : Y.cell? ⟨w.heap.size, 3, none⟩ = some (.slice codeA cd.length codeC) := kY1.cell 3
  have hwY : Below w.heap.size w Y := hbW.trans (hbY.mono hbW.size)
  have hlY : w.heap.size + 1 < Y.heap.size := kY2.lt
  have HPA := Lib.hid (partners_any codeA codeC cd Y ((HCD.out.below hwY).mono hwY.size) HG.out.hcd HG.out.hnest)
  have HY := Lib.hid (And.intro hwY (And.intro kY1 kY2))
  clear hbY hbW k1 k2 kY1 kY2 hwY a0 a1 a2 a3 HW HCH hsz
  go_wp2_with fail
  refine (allowed_any fuel Y).mono ?_
  rintro e Y2 ⟨rfl, rfl⟩
  rw [qf]
  go_wp2_with fail
  refine HPA.out.mono ?_
  rintro e Z ⟨rfl, hpk, hbZ⟩
  obtain ⟨hwY, kY1, kY2⟩ := HY.out
  have hwZ : Below w.heap.size w Z := hwY.trans (hbZ.mono hwY.size)
  have kZ1 := kY1.below hbZ kY1.lt
  have kZ2 := kY2.below hbZ kY2.lt
  have z0 : Z.cell? ⟨w.heap.size, 0, none⟩ = some (.slice arsA ars.length arsC) := kZ1.cell 0
  have HST := Lib.hid (start_any arsA arsC ars Z ((HARS.out.below hwZ).mono hwZ.size) HG.out.hnA HG.out.hars)
  have HZ := Lib.hid (And.intro hwZ (And.intro kZ1 (And.intro kZ2 hpk)))
  clear hbZ hwY kY1 kY2 hwZ kZ1 kZ2 hpk y0 y3 HY HPA
  go_wp2_with fail
  refine HST.out.mono ?_
  rintro e X hX
  obtain ⟨qa, cq, ca, cc, rfl, hlie, hbX⟩ := lift_copy hX
  obtain ⟨ms, hms⟩ : ∃ ms, zeros ars = ms := ⟨_, rfl⟩
  obtain ⟨cx, hcx⟩ : ∃ cx : List Int, List.replicate 16 0 = cx := ⟨_, rfl⟩
  have hfit := zeros_fit HG.out.hars
  have hzu := zeros_u32 ars
  have hcu := u32s_rep 16
  rw [hms, hcx] at hlie ⊢
  have hgood : FGood ars fuel ⟨ms, cx, [], 0⟩ := ⟨by rw [← hms, ← hcx]; exact hfit, by rw [← hms]; exact hzu, by rw [← hcx]; exact hcu, Int.le_refl _, hf0, by simp⟩
  have hgo := HR.out
  rw [hms, hcx] at hgo
  have HGO := Lib.hid (And.intro hgood hgo)
  have HX := Lib.hid (And.intro hlie hbX)
  clear hX hlie hbX hms hcx hfit hzu hcu hgood hgo HST z0
  go_upto_region 10 with (fail)
  refine wp_gen (fun W => FeedAt w [.slice arsA ars.length arsC, .int .i64 regs, .int .i64 spills, .slice codeA cd.length codeC] cd Y.heap.size X.heap.size ⟨ms, cx, [], 0⟩ qa ca none cq cc 0 W) ?_ ?_
  · obtain ⟨hlie, hbX⟩ := HX.out
    obtain ⟨hwZ, kZ1, kZ2, hpk⟩ := HZ.out
    have hbb : Below X.heap.size X (X.alloc (.cells #[.slice qa ms.length cq, .slice ca cx.length cc, .slice none 0 0, .int .i64 0] 49)) := (Below.refl _ _).alloc (Nat.le_refl _) _
    have hlt := hpk.lt
    have hsX := hbX.size
    have hb2 := hbX.trans (hbb.mono hbX.size)
    refine ⟨hwZ.trans (hb2.mono hwZ.size), kZ1.below hb2 kZ1.lt, kZ2.below hb2 kZ2.lt, hpk.below hb2 hpk.lt, heap_new1 _ _, ⟨Z.heap.size, X.heap.size, hlt, .inr (Nat.le_refl _), by simp, hlie.move fun k _ hk => Below.heap_alloc _ _ _ hk⟩, World.ownsRow_nil _ _ _ _, hlY, by omega⟩
  rintro W1 F1
  have HF1 := Lib.hid F1
  clear F1 HX HZ
  go_wp2_with fail
  go_loopw [46] (fun i wr => ∃ (k : Nat) (a : FS) (qa ca oa : Option Addr) (cq cc oc : Nat), i = .int .i64 (k : Int) ∧ k ≤ data.length + 1 ∧ FGood ars fuel a ∧ feedGo ars regs spills cd data fuel (data.length + 1 - k) k a = R ∧ FeedAt w [.slice arsA ars.length arsC, .int .i64 regs, .int .i64 spills, .slice codeA cd.length codeC] cd Y.heap.size X.heap.size a qa ca oa cq cc oc wr) (fun i _ => data.length + 1 - (intOf i).toNat)
  case atStart => exact ⟨0, ⟨ms, cx, [], 0⟩, qa, ca, none, cq, cc, 0, rfl, Nat.zero_le _, HGO.out.1, HGO.out.2, HF1.out⟩
  case round =>
    obtain ⟨k, a, qa2, ca2, oa, cq2, cc2, oc, rfl, hk, hgd, hgo, F⟩ := hrel
    have HF := Lib.hid F
    have HGD := Lib.hid hgd
    have HGO2 := Lib.hid hgo
    clear HGO HF1 hgo
    by_cases hlt : k < data.length + 1
    rotate_left
    · have hke : k = data.length + 1 := by omega
      have q : decide ((k : Int) < (data.length : Int) + 1) = false := by simp; omega
      have hRn : R = .ok a := by rw [← HGO2.out, hke, Nat.sub_self]; rfl
      have HRN := Lib.hid hRn
      have kz := F.res
      have r0 : wr.cell? ⟨X.heap.size, 0, none⟩ = some (.slice qa2 a.arr.length cq2) := F.all.cell 0
      have r1 : wr.cell? ⟨X.heap.size, 0 + 1, none⟩ = some (.slice ca2 a.ctx.length cc2) := F.all.cell 1
      have r2 : wr.cell? ⟨X.heap.size, 0 + 1 + 1, none⟩ = some (.slice oa a.out.length oc) := F.all.cell 2
      have r3 : wr.cell? ⟨X.heap.size, 0 + 1 + 1 + 1, none⟩ = some (.int .i64 a.steps) := F.all.cell 3
      have z0 : wr.cell? ⟨w.heap.size + 1, 0, none⟩ = some (.slice none 0 0) := kz.cell 0
      have z1 : wr.cell? ⟨w.heap.size + 1, 0 + 1, none⟩ = some (.slice none 0 0) := kz.cell 1
      have z2 : wr.cell? ⟨w.heap.size + 1, 0 + 1 + 1, none⟩ = some (.slice none 0 0) := kz.cell 2
      have z3 : wr.cell? ⟨w.heap.size + 1, 0 + 1 + 1 + 1, none⟩ = some (.int .i64 0) := kz.cell 3
      have f0 := kz.frozen 0
      have f1 := kz.frozen (0 + 1)
      have f2 := kz.frozen (0 + 1 + 1)
      have f3 := kz.frozen (0 + 1 + 1 + 1)
      clear hRn hke F hgd hlt
      go_wp2
      refine bodyPost_ret (v := .tuple #[.agg #[.slice qa2 a.arr.length cq2, .slice ca2 a.ctx.length cc2, .slice oa a.out.length oc, .int .i64 a.steps], .int .i64 0]) ?_ rfl ?_
      · have e0 := ((((kz.set 0 (.slice qa2 a.arr.length cq2)).set 1 (.slice ca2 a.ctx.length cc2)).set 2 (.slice oa a.out.length oc)).set 3 (.int .i64 a.steps))
        have y0 := e0.cell 0
        have y1 := e0.cell 1
        have y2 := e0.cell 2
        have y3 := e0.cell 3
        simp only [zeroRun, List.set_cons_zero, List.set_cons_succ, List.getElem?_cons_zero, List.getElem?_cons_succ] at y0 y1 y2 y3
        simp [results, Try.results25, go_sem, y0, y1, y2, y3]
      · rw [HRN.out]
        have hx : w.heap.size ≤ w.heap.size + 1 := by omega
        refine ⟨(((HF.out.bel.setCell hx _).setCell hx _).setCell hx _).setCell hx _, _, rfl, HF.out.result (fun k hk => ?_) (by simp)⟩
        rw [Below.heap_setCell _ _ _ _ hk, Below.heap_setCell _ _ _ _ hk, Below.heap_setCell _ _ _ _ hk, Below.heap_setCell _ _ _ _ hk]
    have q : decide ((k : Int) < (data.length : Int) + 1) = true := by simp; omega
    have r3 : wr.cell? ⟨X.heap.size, 3, none⟩ = some (.int .i64 a.steps) := F.all.cell 3
    have rlt : X.heap.size < wr.heap.size := F.all.lt
    have st0 := hgd.s0
    have st1 := hgd.s1
    clear F hgd
    have hcase : k < data.length ∨ k = data.length := by omega
    obtain ⟨inp, hinp⟩ : ∃ inp, data.getD k 0 = inp := ⟨_, rfl⟩
    have hi8 : 0 ≤ inp ∧ inp < 256 := by
      rw [← hinp, List.getD_eq_getElem?_getD]
      cases hkd : data[k]? with
      | none => exact ⟨by decide, by decide⟩
      | some x => exact HD8.out x (List.mem_of_getElem? hkd)
    obtain ⟨i0, i1⟩ := hi8
    rcases hcase with hkd | hkd
    · have e1 : ((k : Int) == (data.length : Int)) = false := by first | (simp; omega) | (subst hkd; simp)
      have hin0 : inp = inp := by
        first
          | rfl
          | (rw [← hinp, hkd, List.getD_eq_getElem?_getD, List.getElem?_eq_none (Nat.le_refl _)]; rfl)
      have hdec : decide (k = data.length) = false := by first | (simp; omega) | (simpa using hkd)
      have hstep := feedGo_step (ars := ars) (regs := regs) (spills := spills) (cd := cd) (data := data) (fuel := fuel) (k := k) (a := a) hlt
      rw [HGO2.out] at hstep
      unfold feedStep at hstep
      rw [hinp, hdec] at hstep
      have HSTEP := Lib.hid hstep
      have HIN := Lib.hid hin0
      clear hstep hin0 hdec
      obtain ⟨db, doff, hdA, hdb, hdc⟩ := HDAT.out k hkd
      have dc : wr.cell? ⟨db, doff + k, none⟩ = some (.int .u8 inp) := by
        rw [HF.out.bel.cell (p := ⟨db, doff + k, none⟩) hdb, ← hinp]
        simpa using hdc 0 (by omega)
      have dlt : db < wr.heap.size := Nat.lt_of_lt_of_le hdb HF.out.bel.size
      have hkk := nat_cast_ltP hkd
      subst hdA
      clear hdb hdc
      clear hlt hinp
      go_upto_region 16 with (fail)
      refine wp_gen (fun V0 => Below wr.heap.size wr V0 ∧ Blk V0 wr.heap.size [.int .u32 inp, .bool false, .int .i64 (fuel - a.steps)] 44) ⟨(Below.refl _ _).alloc (Nat.le_refl _) _, heap_new1 _ _⟩ ?_
      rintro V0 ⟨hb0, kc⟩
      obtain ⟨x1, x2, x3, x4, x5⟩ := HF.out.exec hb0
      have c0 : V0.cell? ⟨w.heap.size, 0, none⟩ = some (.slice arsA ars.length arsC) := x1.cell 0
      have c1 : V0.cell? ⟨w.heap.size, 0 + 1, none⟩ = some (.int .i64 regs) := x1.cell 1
      have c2 : V0.cell? ⟨w.heap.size, 0 + 1 + 1, none⟩ = some (.int .i64 spills) := x1.cell 2
      have c3 : V0.cell? ⟨w.heap.size, 0 + 1 + 1 + 1, none⟩ = some (.slice codeA cd.length codeC) := x1.cell 3
      have m0 : V0.cell? ⟨X.heap.size, 0, none⟩ = some (.slice qa2 a.arr.length cq2) := x3.cell 0
      have m1 : V0.cell? ⟨X.heap.size, 0 + 1, none⟩ = some (.slice ca2 a.ctx.length cc2) := x3.cell 1
      have d0 : V0.cell? ⟨wr.heap.size, 0, none⟩ = some (.int .u32 inp) := kc.cell 0
      have d1 : V0.cell? ⟨wr.heap.size, 0 + 1, none⟩ = some (.bool false) := kc.cell 1
      have d2 : V0.cell? ⟨wr.heap.size, 0 + 1 + 1, none⟩ = some (.int .i64 (fuel - a.steps)) := kc.cell 2
      have HEX := Lib.hid (exec_is arsA codeA qa2 ca2 arsC codeC cq2 cc2 ars regs spills cd a.arr a.ctx inp false (fuel - a.steps) V0 Y.heap.size HCK.out HARG.out HGD.out.fit (by omega) HGD.out.ua HGD.out.uc ⟨by omega, by omega⟩ x2 ((HARS.out.below x5).mono x5.size) ((HCD.out.below x5).mono x5.size) x4)
      have HB0 := Lib.hid (And.intro hb0 x5)
      clear x1 x2 x3 x4 x5 hb0 kc r3 rlt
      go_wp2_with fail
      refine HEX.out.mono ?_
      rintro e V1 ⟨hb1, hpost⟩
      clear HEX c0 c1 c2 c3 m0 m1 d0 d1 d2
      have HB1 := Lib.hid hb1
      cases hr : machRun ars regs spills cd a.arr a.ctx inp false (fuel - a.steps) with
      | error n =>
        rw [hr] at hpost
        replace hpost : e = .returned (.tuple #[.agg #[.slice none 0 0, .slice none 0 0, .slice none 0 0, .int .i64 0], .int .i64 n]) := hpost
        subst hpost
        have hn0 : (n != 0) = true := by simpa using NeedsErr hr
        have hRn : R = .error n := by first | (rw [HSTEP.out, HIN.out, hr]; rfl) | (rw [HSTEP.out, hr]; rfl)
        have HRN := Lib.hid hRn
        clear hr hRn hb1
        go_upto_region 18 with (fail)
        refine wp_gen (fun V2 => Below w.heap.size w V2 ∧ Blk V2 (w.heap.size + 1) zeroRun 49) ?_ ?_
        · have hwv := HB0.out.2.trans (HB1.out.mono HB0.out.2.size)
          exact ⟨hwv.alloc hwv.size _, ((HF.out.res.below HB0.out.1 HF.out.res.lt).below HB1.out (Nat.lt_of_lt_of_le HF.out.res.lt HB0.out.1.size)).below ((Below.refl _ _).alloc (Nat.le_refl _) _) (Nat.lt_of_lt_of_le (Nat.lt_of_lt_of_le HF.out.res.lt HB0.out.1.size) HB1.out.size)⟩
        rintro V2 ⟨hb2, kz⟩
        have z0 : V2.cell? ⟨w.heap.size + 1, 0, none⟩ = some (.slice none 0 0) := kz.cell 0
        have z1 : V2.cell? ⟨w.heap.size + 1, 0 + 1, none⟩ = some (.slice none 0 0) := kz.cell 1
        have z2 : V2.cell? ⟨w.heap.size + 1, 0 + 1 + 1, none⟩ = some (.slice none 0 0) := kz.cell 2
        have z3 : V2.cell? ⟨w.heap.size + 1, 0 + 1 + 1 + 1, none⟩ = some (.int .i64 0) := kz.cell 3
        have f0 := kz.frozen 0
        have f1 := kz.frozen (0 + 1)
        have f2 := kz.frozen (0 + 1 + 1)
        have f3 := kz.frozen (0 + 1 + 1 + 1)
        have HB2 := Lib.hid hb2
        clear hb2
        go_wp2
        refine bodyPost_ret (v := .tuple #[.agg #[.slice none 0 0, .slice none 0 0, .slice none 0 0, .int .i64 0], .int .i64 n]) ?_ rfl ?_
        · have e0 := ((((kz.set 0 (.slice none 0 0)).set 1 (.slice none 0 0)).set 2 (.slice none 0 0)).set 3 (.int .i64 0))
          have y0 := e0.cell 0
          have y1 := e0.cell 1
          have y2 := e0.cell 2
          have y3 := e0.cell 3
          simp only [zeroRun, List.set_cons_zero, List.set_cons_succ, List.getElem?_cons_zero, List.getElem?_cons_succ] at y0 y1 y2 y3
          simp [results, Try.results25, go_sem, y0, y1, y2, y3]
        · exact feed_end HRN.out HB2.out
      | ok s =>
        rw [hr] at hpost
        obtain ⟨v, rfl, hv⟩ := hpost
        obtain ⟨qb, cqb, cb, ccb, ob, ocb, rfl, hl⟩ := lift_run hv
        have hRn : R = if 65536 < (a.out ++ s.out).length then .error 5 else feedGo ars regs spills cd data fuel (data.length + 1 - (k + 1)) (k + 1) ⟨s.arr, s.ctx, a.out ++ s.out, a.steps + s.steps⟩ := by
          first
            | (rw [HSTEP.out, HIN.out, hr]; dsimp only; split <;> rfl)
            | (rw [HSTEP.out, hr]; dsimp only; split <;> rfl)
        have hgood2 : ¬ 65536 < (a.out ++ s.out).length → FGood ars fuel ⟨s.arr, s.ctx, a.out ++ s.out, a.steps + s.steps⟩ := by
          intro hnl
          obtain ⟨n1, n2, n3, n4, n5, _, _⟩ := mach_fuel HARG.out HGD.out.ua HGD.out.uc ⟨by omega, by omega⟩ hr
          exact ⟨n3, n4, n5, by show 0 ≤ a.steps + s.steps; omega, by show a.steps + s.steps ≤ fuel; omega, by show (a.out ++ s.out).length ≤ 65536; omega⟩
        have o1 := (mach_out hr).1
        have n1 := (mach_fuel HARG.out HGD.out.ua HGD.out.uc ⟨by omega, by omega⟩ hr).1
        have n2 := (mach_fuel HARG.out HGD.out.ua HGD.out.uc ⟨by omega, by omega⟩ hr).2.1
        have hol := HGD.out.ol
        have x3 : Blk V1 X.heap.size [.slice qa2 a.arr.length cq2, .slice ca2 a.ctx.length cc2, .slice oa a.out.length oc, .int .i64 a.steps] 49 := (HF.out.all.below HB0.out.1 HF.out.all.lt).below hb1 (Nat.lt_of_lt_of_le HF.out.all.lt HB0.out.1.size)
        have lt1 : X.heap.size < V1.heap.size := x3.lt
        have HRN := Lib.hid hRn
        have HGD2 := Lib.hid hgood2
        have HL := Lib.hid hl
        have HX3 := Lib.hid x3
        clear hr hRn hgood2 hv hl hb1 x3 HSTEP
        go_upto_region 19 with (fail)
        have hcls : FeedCls X.heap.size V1.heap.size (.slice oa a.out.length oc) a.steps s.steps (V1.alloc (.cells #[.slice qb s.arr.length cqb, .slice cb s.ctx.length ccb, .slice ob s.out.length ocb, .int .i64 s.steps] 49)) := by
          have hq := HX3.out.below (w' := (V1.alloc (.cells #[.slice qb s.arr.length cqb, .slice cb s.ctx.length ccb, .slice ob s.out.length ocb, .int .i64 s.steps] 49))) ((Below.refl _ _).alloc (Nat.le_refl _) _) lt1
          exact ⟨hq.cell 2, hq.cell 3, _, heap_new1 _ _, rfl⟩
        have _inst : Nonempty (CWorld (FeedCls X.heap.size V1.heap.size (.slice oa a.out.length oc) a.steps s.steps)) := ⟨⟨_, hcls⟩⟩
        have p0 : ∀ p : CWorld (FeedCls X.heap.size V1.heap.size (.slice oa a.out.length oc) a.steps s.steps), p.w.cell? ⟨X.heap.size, 2, none⟩ = some (.slice oa a.out.length oc) := fun p => p.h.1
        have p1 : ∀ p : CWorld (FeedCls X.heap.size V1.heap.size (.slice oa a.out.length oc) a.steps s.steps), p.w.cell? ⟨X.heap.size, 3, none⟩ = some (.int .i64 a.steps) := fun p => p.h.2.1
        have p3 : ∀ p : CWorld (FeedCls X.heap.size V1.heap.size (.slice oa a.out.length oc) a.steps s.steps), p.w.cell? ⟨V1.heap.size, 3, none⟩ = some (.int .i64 s.steps) := fun p => by
          obtain ⟨l, h1, h2⟩ := p.h.2.2
          exact (h1.cell 3).trans h2
        refine wp_region_mix (Cls (FeedCls X.heap.size V1.heap.size (.slice oa a.out.length oc) a.steps s.steps)) [1, 6, 8] [0, 2, 5, 7, 9, 10, 12] [(2, 0), (2, 2), (2, 5), (2, 7), (1, 1), (1, 6), (1, 8), (2, 9), (0, 3), (0, 4), (2, 10), (0, 11), (2, 12), (0, 13)] (by kernel_rfl) (by kernel_rfl) (fun c a d v w h => by cases d <;> exact h) ⟨⟨(V1.alloc (.cells #[.slice qb s.arr.length cqb, .slice cb s.ctx.length ccb, .slice ob s.out.length ocb, .int .i64 s.steps] 49)).drew, hcls⟩, rfl⟩ ?_
        simp only [getPlan, List.filterMap_cons, List.filterMap_nil, List.getElem?_toArray, List.getElem?_cons_succ, List.getElem?_cons_zero, Option.map_some]
        repeat ((first | refine wpPlan_pure (fun K hK => ?_) | refine wpPlan_float (fun K hK => ?_)); go_simp; refine hK _ ?_; clear hK K)
        clear p0 p1 p3
        have HCLS := Lib.hid hcls
        clear hcls _inst
        have hown := own_same (w' := (V1.alloc (.cells #[.slice qb s.arr.length cqb, .slice cb s.ctx.length ccb, .slice ob s.out.length ocb, .int .i64 s.steps] 49)).drew) HF.out.out (fun k hk => by
          have h1 := (HF.out.out.lt k hk).2
          have h2 : k < V0.heap.size := Nat.lt_of_lt_of_le h1 HB0.out.1.size
          show (V1.alloc _).heap[k]? = _
          rw [Below.heap_alloc _ _ _ (Nat.lt_of_lt_of_le h2 HB1.out.size), HB1.out.block k h2, HB0.out.1.block k h1])
        have hrow : RowB (V1.alloc (.cells #[.slice qb s.arr.length cqb, .slice cb s.ctx.length ccb, .slice ob s.out.length ocb, .int .i64 s.steps] 49)).drew.heap.size (V1.alloc (.cells #[.slice qb s.arr.length cqb, .slice cb s.ctx.length ccb, .slice ob s.out.length ocb, .int .i64 s.steps] 49)).drew 1 ob s.out.length fun j _ => .int .u8 (s.out.getD j 0) :=
          (HL.out _ (by simp [World.drew]) (fun k _ hk => Below.heap_alloc _ _ _ hk)).2
        have HOWN := Lib.hid hown
        have HROW := Lib.hid hrow
        have hbase : X.heap.size + 1 ≤ (V1.alloc (.cells #[.slice qb s.arr.length cqb, .slice cb s.ctx.length ccb, .slice ob s.out.length ocb, .int .i64 s.steps] 49)).drew.heap.size := by simp [World.drew]; omega
        clear hown hrow
        refine wpPlan_keep ?_
        go_wp2_with fail
        refine ⟨⟨⟨(V1.alloc (.cells #[.slice qb s.arr.length cqb, .slice cb s.ctx.length ccb, .slice ob s.out.length ocb, .int .i64 s.steps] 49)).drew, HCLS.out⟩, rfl⟩, ?_⟩
        refine wpPlan_keep ?_
        refine wpList_app_row Try.elU8 rfl (.tmp 81) (.tmp 83) rfl (X.heap.size + 1) (.slice oa a.out.length oc) a.out.length (ints .u8 a.out) rfl HOWN.out ob s.out.length ocb (fun j => .int .u8 (s.out.getD j 0)) rfl HROW.out (fun _ => rfl) (by omega) hbase ?_
        intro va vcap V3 hown3 hg3 hat3
        have hat4 : (Value.slice va (a.out.length + s.out.length) vcap).ownBlock = (Value.slice oa a.out.length oc).ownBlock ∨ (Value.slice va (a.out.length + s.out.length) vcap).ownBlock = some (V1.heap.size + 1) := by simpa [World.drew] using hat3
        obtain ⟨y1, y2, y3, y4⟩ := feed_round HF.out HB0.out.1 HB1.out HL.out hg3 hown3 hat4
        have Y1 := Lib.hid y1
        have Y2 := Lib.hid y2
        have Y4 := Lib.hid y4
        have r2 : V3.cell? ⟨V1.heap.size, 2, none⟩ = some (.slice ob s.out.length ocb) := y1.cell 2
        have r3 : V3.cell? ⟨V1.heap.size, 3, none⟩ = some (.int .i64 s.steps) := y1.cell 3
        have f2 := y1.frozen 2
        have f3 := y1.frozen 3
        have hw3 : Below w.heap.size w V3 := by
          have hwv := HB0.out.2.trans (HB1.out.mono HB0.out.2.size)
          have hs3 := hg3.size
          refine ⟨?_, ?_, ?_, ?_, ?_⟩
          · rw [hg3.os]; exact hwv.os
          · rw [hg3.tape]; exact hwv.tape
          · rw [hg3.output]; exact hwv.output
          · have := hwv.size
            simp [World.drew] at hs3
            omega
          · intro k hk
            have h0 := hwv.size
            rw [feed_keep hg3 (by omega) (fun e => by
              have h1 := (HF.out.out.lt k e.symm).1
              have h2 := HF.out.l1
              have h3 := HF.out.l2
              omega)]
            exact hwv.block k hk
        have kz3 : Blk V3 (w.heap.size + 1) zeroRun 49 := by
          have h2 := HF.out.l1
          have h3 := HF.out.l2
          unfold Blk
          rw [feed_keep hg3 (by omega) (fun e => by have h1 := (HF.out.out.lt _ e.symm).1; omega)]
          exact (HF.out.res.below HB0.out.1 HF.out.res.lt).below HB1.out (Nat.lt_of_lt_of_le HF.out.res.lt HB0.out.1.size)
        have HW3 := Lib.hid hw3
        have KZ3 := Lib.hid kz3
        clear y1 y2 y4 hown3 hg3 hat3 hat4 HOWN HROW HCLS hw3 kz3
        have cls3 : FeedCls X.heap.size V1.heap.size (.slice oa a.out.length oc) a.steps s.steps V3 := ⟨Y2.out.cell 2, Y2.out.cell 3, _, Y1.out, rfl⟩
        have CL3 := Lib.hid cls3
        clear cls3
        refine ⟨⟨⟨V3, CL3.out⟩, rfl⟩, ?_⟩
        repeat ((first | refine wpPlan_pure (fun K hK => ?_) | refine wpPlan_float (fun K hK => ?_)); go_simp; refine hK _ ?_; clear hK K)
        refine wpPlan_keep ?_
        go_wp2_with fail
        refine ⟨⟨⟨_, CL3.out.set (Nat.ne_of_lt lt1) _⟩, rfl⟩, ?_⟩
        repeat ((first | refine wpPlan_pure (fun K hK => ?_) | refine wpPlan_float (fun K hK => ?_)); go_simp; refine hK _ ?_; clear hK K)
        refine wpPlan_sees (by kernel_rfl) ?_
        go_wp2_with fail
        refine wpPlan_nil ?_
        go_upto_region 20 with (fail)
        refine wp_gen (fun W => Blk W V1.heap.size [.slice qb s.arr.length cqb, .slice cb s.ctx.length ccb, .slice va (a.out.length + s.out.length) vcap, .int .i64 (a.steps + s.steps)] 49 ∧ Blk W X.heap.size [.slice qa2 a.arr.length cq2, .slice ca2 a.ctx.length cc2, .slice oa a.out.length oc, .int .i64 a.steps] 49 ∧ (∀ k, k ≠ V1.heap.size → W.heap[k]? = V3.heap[k]?) ∧ W.heap.size = V3.heap.size ∧ W.os = V3.os ∧ W.tape = V3.tape ∧ W.output = V3.output) ?_ ?_
        · have hne : X.heap.size ≠ V1.heap.size := Nat.ne_of_lt lt1
          exact ⟨(Y1.out.set 2 _).set 3 _, (Y2.out.other (a := ⟨V1.heap.size, 2, none⟩) hne _).other (a := ⟨V1.heap.size, 3, none⟩) hne _, fun k hk => by rw [Below.heap_setCell _ _ _ _ hk, Below.heap_setCell _ _ _ _ hk], by simp, rfl, rfl, rfl⟩
        rintro W4 ⟨ka, kb, kk, ks, ko, kt, kp⟩
        have r0 : W4.cell? ⟨V1.heap.size, 0, none⟩ = some (.slice qb s.arr.length cqb) := ka.cell 0
        have r1 : W4.cell? ⟨V1.heap.size, 0 + 1, none⟩ = some (.slice cb s.ctx.length ccb) := ka.cell 1
        have r2 : W4.cell? ⟨V1.heap.size, 0 + 1 + 1, none⟩ = some (.slice va (a.out.length + s.out.length) vcap) := ka.cell 2
        have r3 : W4.cell? ⟨V1.heap.size, 0 + 1 + 1 + 1, none⟩ = some (.int .i64 (a.steps + s.steps)) := ka.cell 3
        have b0 : W4.cell? ⟨X.heap.size, 0, none⟩ = some (.slice qa2 a.arr.length cq2) := kb.cell 0
        have b1 : W4.cell? ⟨X.heap.size, 0 + 1, none⟩ = some (.slice ca2 a.ctx.length cc2) := kb.cell 1
        have b2 : W4.cell? ⟨X.heap.size, 0 + 1 + 1, none⟩ = some (.slice oa a.out.length oc) := kb.cell 2
        have b3 : W4.cell? ⟨X.heap.size, 0 + 1 + 1 + 1, none⟩ = some (.int .i64 a.steps) := kb.cell 3
        have g0 := kb.frozen 0
        have g1 := kb.frozen (0 + 1)
        have g2 := kb.frozen (0 + 1 + 1)
        have g3 := kb.frozen (0 + 1 + 1 + 1)
        have H4 := Lib.hid (And.intro kb (And.intro kk (And.intro ks (And.intro ko (And.intro kt kp)))))
        clear ka kb kk ks ko kt kp f2 f3
        go_upto_region 21 with (fail)
        refine wp_gen (fun W => FeedAt w [.slice arsA ars.length arsC, .int .i64 regs, .int .i64 spills, .slice codeA cd.length codeC] cd Y.heap.size X.heap.size ⟨s.arr, s.ctx, a.out ++ s.out, a.steps + s.steps⟩ qb cb va cqb ccb vcap W) ?_ ?_
        · obtain ⟨kb, kk, ks, ko, kt, kp⟩ := H4.out
          refine Y4.out _ (fun k h1 h2 => ?_) ?_ ?_ ?_ ?_ ?_
          · rw [Below.heap_setCell _ _ _ _ h2, Below.heap_setCell _ _ _ _ h2, Below.heap_setCell _ _ _ _ h2, Below.heap_setCell _ _ _ _ h2]
            exact kk k h1
          · simpa using ks
          · exact ko
          · exact kt
          · exact kp
          · exact (((kb.set 0 _).set 1 _).set 2 _).set 3 _
        rintro W5 F5
        have hlen : (a.out ++ s.out).length = a.out.length + s.out.length := List.length_append
        have r2 : W5.cell? ⟨X.heap.size, 2, none⟩ = some (.slice va (a.out.length + s.out.length) vcap) := by rw [← hlen]; exact F5.all.cell 2
        have HF5 := Lib.hid F5
        clear F5 H4 r0 r1 r3 b0 b1 b2 b3 g0 g1 g2 g3
        by_cases hlong : 65536 < a.out.length + s.out.length
        · have q5 : decide ((65536 : Int) < ((a.out.length + s.out.length : Nat) : Int)) = true := by simp; omega
          have q6 : decide ((65536 : Int) < (a.out.length : Int) + (s.out.length : Int)) = true := by simp; omega
          have hRn : R = .error 5 := by rw [HRN.out, if_pos (by rw [hlen]; exact hlong)]
          have HRN2 := Lib.hid hRn
          clear hRn
          have kz := HF5.out.res
          have z0 : W5.cell? ⟨w.heap.size + 1, 0, none⟩ = some (.slice none 0 0) := kz.cell 0
          have z1 : W5.cell? ⟨w.heap.size + 1, 0 + 1, none⟩ = some (.slice none 0 0) := kz.cell 1
          have z2 : W5.cell? ⟨w.heap.size + 1, 0 + 1 + 1, none⟩ = some (.slice none 0 0) := kz.cell 2
          have z3 : W5.cell? ⟨w.heap.size + 1, 0 + 1 + 1 + 1, none⟩ = some (.int .i64 0) := kz.cell 3
          have f0 := kz.frozen 0
          have f1 := kz.frozen (0 + 1)
          have f2 := kz.frozen (0 + 1 + 1)
          have f3 := kz.frozen (0 + 1 + 1 + 1)
          go_wp2
          refine bodyPost_ret (v := .tuple #[.agg #[.slice none 0 0, .slice none 0 0, .slice none 0 0, .int .i64 0], .int .i64 5]) ?_ rfl ?_
          · have e0 := ((((kz.set 0 (.slice none 0 0)).set 1 (.slice none 0 0)).set 2 (.slice none 0 0)).set 3 (.int .i64 0))
            have y0 := e0.cell 0
            have y1 := e0.cell 1
            have y2 := e0.cell 2
            have y3 := e0.cell 3
            simp only [zeroRun, List.set_cons_zero, List.set_cons_succ, List.getElem?_cons_zero, List.getElem?_cons_succ] at y0 y1 y2 y3
            simp [results, Try.results25, go_sem, y0, y1, y2, y3]
          · exact feed_end HRN2.out HF5.out.bel
        · have q5 : decide ((65536 : Int) < ((a.out.length + s.out.length : Nat) : Int)) = false := by simp; omega
          have q6 : decide ((65536 : Int) < (a.out.length : Int) + (s.out.length : Int)) = false := by simp; omega
          have hnl : ¬ 65536 < (a.out ++ s.out).length := by rw [hlen]; exact hlong
          have hRn := HRN.out
          rw [if_neg hnl] at hRn
          have HRN2 := Lib.hid hRn
          have HNL := Lib.hid hnl
          clear hRn hnl
          go_wp2
          go_roundw
          case rel => exact ⟨k + 1, ⟨s.arr, s.ctx, a.out ++ s.out, a.steps + s.steps⟩, qb, cb, va, cqb, ccb, vcap, by first | (simp; done) | (simp; omega), by omega, HGD2.out HNL.out, HRN2.out.symm, HF5.out⟩
          case measure => simp [intOf]; omega
    · have e1 : ((k : Int) == (data.length : Int)) = true := by first | (simp; omega) | (subst hkd; simp)
      have hin0 : inp = 0 := by
        first
          | rfl
          | (rw [← hinp, hkd, List.getD_eq_getElem?_getD, List.getElem?_eq_none (Nat.le_refl _)]; rfl)
      have hdec : decide (k = data.length) = true := by first | (simp; omega) | (simpa using hkd)
      have hstep := feedGo_step (ars := ars) (regs := regs) (spills := spills) (cd := cd) (data := data) (fuel := fuel) (k := k) (a := a) hlt
      rw [HGO2.out] at hstep
      unfold feedStep at hstep
      rw [hinp, hdec] at hstep
      have HSTEP := Lib.hid hstep
      have HIN := Lib.hid hin0
      clear hstep hin0 hdec
      clear hlt hinp
      go_upto_region 16 with (fail)
      refine wp_gen (fun V0 => Below wr.heap.size wr V0 ∧ Blk V0 wr.heap.size [.int .u32 0, .bool true, .int .i64 (fuel - a.steps)] 44) ⟨(Below.refl _ _).alloc (Nat.le_refl _) _, heap_new1 _ _⟩ ?_
      rintro V0 ⟨hb0, kc⟩
      obtain ⟨x1, x2, x3, x4, x5⟩ := HF.out.exec hb0
      have c0 : V0.cell? ⟨w.heap.size, 0, none⟩ = some (.slice arsA ars.length arsC) := x1.cell 0
      have c1 : V0.cell? ⟨w.heap.size, 0 + 1, none⟩ = some (.int .i64 regs) := x1.cell 1
      have c2 : V0.cell? ⟨w.heap.size, 0 + 1 + 1, none⟩ = some (.int .i64 spills) := x1.cell 2
      have c3 : V0.cell? ⟨w.heap.size, 0 + 1 + 1 + 1, none⟩ = some (.slice codeA cd.length codeC) := x1.cell 3
      have m0 : V0.cell? ⟨X.heap.size, 0, none⟩ = some (.slice qa2 a.arr.length cq2) := x3.cell 0
      have m1 : V0.cell? ⟨X.heap.size, 0 + 1, none⟩ = some (.slice ca2 a.ctx.length cc2) := x3.cell 1
      have d0 : V0.cell? ⟨wr.heap.size, 0, none⟩ = some (.int .u32 0) := kc.cell 0
      have d1 : V0.cell? ⟨wr.heap.size, 0 + 1, none⟩ = some (.bool true) := kc.cell 1
      have d2 : V0.cell? ⟨wr.heap.size, 0 + 1 + 1, none⟩ = some (.int .i64 (fuel - a.steps)) := kc.cell 2
      have HEX := Lib.hid (exec_is arsA codeA qa2 ca2 arsC codeC cq2 cc2 ars regs spills cd a.arr a.ctx 0 true (fuel - a.steps) V0 Y.heap.size HCK.out HARG.out HGD.out.fit (by omega) HGD.out.ua HGD.out.uc ⟨by omega, by omega⟩ x2 ((HARS.out.below x5).mono x5.size) ((HCD.out.below x5).mono x5.size) x4)
      have HB0 := Lib.hid (And.intro hb0 x5)
      clear x1 x2 x3 x4 x5 hb0 kc r3 rlt
      go_wp2_with fail
      refine HEX.out.mono ?_
      rintro e V1 ⟨hb1, hpost⟩
      clear HEX c0 c1 c2 c3 m0 m1 d0 d1 d2
      have HB1 := Lib.hid hb1
      cases hr : machRun ars regs spills cd a.arr a.ctx 0 true (fuel - a.steps) with
      | error n =>
        rw [hr] at hpost
        replace hpost : e = .returned (.tuple #[.agg #[.slice none 0 0, .slice none 0 0, .slice none 0 0, .int .i64 0], .int .i64 n]) := hpost
        subst hpost
        have hn0 : (n != 0) = true := by simpa using NeedsErr hr
        have hRn : R = .error n := by first | (rw [HSTEP.out, HIN.out, hr]; rfl) | (rw [HSTEP.out, hr]; rfl)
        have HRN := Lib.hid hRn
        clear hr hRn hb1
        go_upto_region 18 with (fail)
        refine wp_gen (fun V2 => Below w.heap.size w V2 ∧ Blk V2 (w.heap.size + 1) zeroRun 49) ?_ ?_
        · have hwv := HB0.out.2.trans (HB1.out.mono HB0.out.2.size)
          exact ⟨hwv.alloc hwv.size _, ((HF.out.res.below HB0.out.1 HF.out.res.lt).below HB1.out (Nat.lt_of_lt_of_le HF.out.res.lt HB0.out.1.size)).below ((Below.refl _ _).alloc (Nat.le_refl _) _) (Nat.lt_of_lt_of_le (Nat.lt_of_lt_of_le HF.out.res.lt HB0.out.1.size) HB1.out.size)⟩
        rintro V2 ⟨hb2, kz⟩
        have z0 : V2.cell? ⟨w.heap.size + 1, 0, none⟩ = some (.slice none 0 0) := kz.cell 0
        have z1 : V2.cell? ⟨w.heap.size + 1, 0 + 1, none⟩ = some (.slice none 0 0) := kz.cell 1
        have z2 : V2.cell? ⟨w.heap.size + 1, 0 + 1 + 1, none⟩ = some (.slice none 0 0) := kz.cell 2
        have z3 : V2.cell? ⟨w.heap.size + 1, 0 + 1 + 1 + 1, none⟩ = some (.int .i64 0) := kz.cell 3
        have f0 := kz.frozen 0
        have f1 := kz.frozen (0 + 1)
        have f2 := kz.frozen (0 + 1 + 1)
        have f3 := kz.frozen (0 + 1 + 1 + 1)
        have HB2 := Lib.hid hb2
        clear hb2
        go_wp2
        refine bodyPost_ret (v := .tuple #[.agg #[.slice none 0 0, .slice none 0 0, .slice none 0 0, .int .i64 0], .int .i64 n]) ?_ rfl ?_
        · have e0 := ((((kz.set 0 (.slice none 0 0)).set 1 (.slice none 0 0)).set 2 (.slice none 0 0)).set 3 (.int .i64 0))
          have y0 := e0.cell 0
          have y1 := e0.cell 1
          have y2 := e0.cell 2
          have y3 := e0.cell 3
          simp only [zeroRun, List.set_cons_zero, List.set_cons_succ, List.getElem?_cons_zero, List.getElem?_cons_succ] at y0 y1 y2 y3
          simp [results, Try.results25, go_sem, y0, y1, y2, y3]
        · exact feed_end HRN.out HB2.out
      | ok s =>
        rw [hr] at hpost
        obtain ⟨v, rfl, hv⟩ := hpost
        obtain ⟨qb, cqb, cb, ccb, ob, ocb, rfl, hl⟩ := lift_run hv
        have hRn : R = if 65536 < (a.out ++ s.out).length then .error 5 else feedGo ars regs spills cd data fuel (data.length + 1 - (k + 1)) (k + 1) ⟨s.arr, s.ctx, a.out ++ s.out, a.steps + s.steps⟩ := by
          first
            | (rw [HSTEP.out, HIN.out, hr]; dsimp only; split <;> rfl)
            | (rw [HSTEP.out, hr]; dsimp only; split <;> rfl)
        have hgood2 : ¬ 65536 < (a.out ++ s.out).length → FGood ars fuel ⟨s.arr, s.ctx, a.out ++ s.out, a.steps + s.steps⟩ := by
          intro hnl
          obtain ⟨n1, n2, n3, n4, n5, _, _⟩ := mach_fuel HARG.out HGD.out.ua HGD.out.uc ⟨by omega, by omega⟩ hr
          exact ⟨n3, n4, n5, by show 0 ≤ a.steps + s.steps; omega, by show a.steps + s.steps ≤ fuel; omega, by show (a.out ++ s.out).length ≤ 65536; omega⟩
        have o1 := (mach_out hr).1
        have n1 := (mach_fuel HARG.out HGD.out.ua HGD.out.uc ⟨by omega, by omega⟩ hr).1
        have n2 := (mach_fuel HARG.out HGD.out.ua HGD.out.uc ⟨by omega, by omega⟩ hr).2.1
        have hol := HGD.out.ol
        have x3 : Blk V1 X.heap.size [.slice qa2 a.arr.length cq2, .slice ca2 a.ctx.length cc2, .slice oa a.out.length oc, .int .i64 a.steps] 49 := (HF.out.all.below HB0.out.1 HF.out.all.lt).below hb1 (Nat.lt_of_lt_of_le HF.out.all.lt HB0.out.1.size)
        have lt1 : X.heap.size < V1.heap.size := x3.lt
        have HRN := Lib.hid hRn
        have HGD2 := Lib.hid hgood2
        have HL := Lib.hid hl
        have HX3 := Lib.hid x3
        clear hr hRn hgood2 hv hl hb1 x3 HSTEP
        go_upto_region 19 with (fail)
        have hcls : FeedCls X.heap.size V1.heap.size (.slice oa a.out.length oc) a.steps s.steps (V1.alloc (.cells #[.slice qb s.arr.length cqb, .slice cb s.ctx.length ccb, .slice ob s.out.length ocb, .int .i64 s.steps] 49)) := by
          have hq := HX3.out.below (w' := (V1.alloc (.cells #[.slice qb s.arr.length cqb, .slice cb s.ctx.length ccb, .slice ob s.out.length ocb, .int .i64 s.steps] 49))) ((Below.refl _ _).alloc (Nat.le_refl _) _) lt1
          exact ⟨hq.cell 2, hq.cell 3, _, heap_new1 _ _, rfl⟩
        have _inst : Nonempty (CWorld (FeedCls X.heap.size V1.heap.size (.slice oa a.out.length oc) a.steps s.steps)) := ⟨⟨_, hcls⟩⟩
        have p0 : ∀ p : CWorld (FeedCls X.heap.size V1.heap.size (.slice oa a.out.length oc) a.steps s.steps), p.w.cell? ⟨X.heap.size, 2, none⟩ = some (.slice oa a.out.length oc) := fun p => p.h.1
        have p1 : ∀ p : CWorld (FeedCls X.heap.size V1.heap.size (.slice oa a.out.length oc) a.steps s.steps), p.w.cell? ⟨X.heap.size, 3, none⟩ = some (.int .i64 a.steps) := fun p => p.h.2.1
        have p3 : ∀ p : CWorld (FeedCls X.heap.size V1.heap.size (.slice oa a.out.length oc) a.steps s.steps), p.w.cell? ⟨V1.heap.size, 3, none⟩ = some (.int .i64 s.steps) := fun p => by
          obtain ⟨l, h1, h2⟩ := p.h.2.2
          exact (h1.cell 3).trans h2
        refine wp_region_mix (Cls (FeedCls X.heap.size V1.heap.size (.slice oa a.out.length oc) a.steps s.steps)) [1, 6, 8] [0, 2, 5, 7, 9, 10, 12] [(2, 0), (2, 2), (2, 5), (2, 7), (1, 1), (1, 6), (1, 8), (2, 9), (0, 3), (0, 4), (2, 10), (0, 11), (2, 12), (0, 13)] (by kernel_rfl) (by kernel_rfl) (fun c a d v w h => by cases d <;> exact h) ⟨⟨(V1.alloc (.cells #[.slice qb s.arr.length cqb, .slice cb s.ctx.length ccb, .slice ob s.out.length ocb, .int .i64 s.steps] 49)).drew, hcls⟩, rfl⟩ ?_
        simp only [getPlan, List.filterMap_cons, List.filterMap_nil, List.getElem?_toArray, List.getElem?_cons_succ, List.getElem?_cons_zero, Option.map_some]
        repeat ((first | refine wpPlan_pure (fun K hK => ?_) | refine wpPlan_float (fun K hK => ?_)); go_simp; refine hK _ ?_; clear hK K)
        clear p0 p1 p3
        have HCLS := Lib.hid hcls
        clear hcls _inst
        have hown := own_same (w' := (V1.alloc (.cells #[.slice qb s.arr.length cqb, .slice cb s.ctx.length ccb, .slice ob s.out.length ocb, .int .i64 s.steps] 49)).drew) HF.out.out (fun k hk => by
          have h1 := (HF.out.out.lt k hk).2
          have h2 : k < V0.heap.size := Nat.lt_of_lt_of_le h1 HB0.out.1.size
          show (V1.alloc _).heap[k]? = _
          rw [Below.heap_alloc _ _ _ (Nat.lt_of_lt_of_le h2 HB1.out.size), HB1.out.block k h2, HB0.out.1.block k h1])
        have hrow : RowB (V1.alloc (.cells #[.slice qb s.arr.length cqb, .slice cb s.ctx.length ccb, .slice ob s.out.length ocb, .int .i64 s.steps] 49)).drew.heap.size (V1.alloc (.cells #[.slice qb s.arr.length cqb, .slice cb s.ctx.length ccb, .slice ob s.out.length ocb, .int .i64 s.steps] 49)).drew 1 ob s.out.length fun j _ => .int .u8 (s.out.getD j 0) :=
          (HL.out _ (by simp [World.drew]) (fun k _ hk => Below.heap_alloc _ _ _ hk)).2
        have HOWN := Lib.hid hown
        have HROW := Lib.hid hrow
        have hbase : X.heap.size + 1 ≤ (V1.alloc (.cells #[.slice qb s.arr.length cqb, .slice cb s.ctx.length ccb, .slice ob s.out.length ocb, .int .i64 s.steps] 49)).drew.heap.size := by simp [World.drew]; omega
        clear hown hrow
        refine wpPlan_keep ?_
        go_wp2_with fail
        refine ⟨⟨⟨(V1.alloc (.cells #[.slice qb s.arr.length cqb, .slice cb s.ctx.length ccb, .slice ob s.out.length ocb, .int .i64 s.steps] 49)).drew, HCLS.out⟩, rfl⟩, ?_⟩
        refine wpPlan_keep ?_
        refine wpList_app_row Try.elU8 rfl (.tmp 81) (.tmp 83) rfl (X.heap.size + 1) (.slice oa a.out.length oc) a.out.length (ints .u8 a.out) rfl HOWN.out ob s.out.length ocb (fun j => .int .u8 (s.out.getD j 0)) rfl HROW.out (fun _ => rfl) (by omega) hbase ?_
        intro va vcap V3 hown3 hg3 hat3
        have hat4 : (Value.slice va (a.out.length + s.out.length) vcap).ownBlock = (Value.slice oa a.out.length oc).ownBlock ∨ (Value.slice va (a.out.length + s.out.length) vcap).ownBlock = some (V1.heap.size + 1) := by simpa [World.drew] using hat3
        obtain ⟨y1, y2, y3, y4⟩ := feed_round HF.out HB0.out.1 HB1.out HL.out hg3 hown3 hat4
        have Y1 := Lib.hid y1
        have Y2 := Lib.hid y2
        have Y4 := Lib.hid y4
        have r2 : V3.cell? ⟨V1.heap.size, 2, none⟩ = some (.slice ob s.out.length ocb) := y1.cell 2
        have r3 : V3.cell? ⟨V1.heap.size, 3, none⟩ = some (.int .i64 s.steps) := y1.cell 3
        have f2 := y1.frozen 2
        have f3 := y1.frozen 3
        have hw3 : Below w.heap.size w V3 := by
          have hwv := HB0.out.2.trans (HB1.out.mono HB0.out.2.size)
          have hs3 := hg3.size
          refine ⟨?_, ?_, ?_, ?_, ?_⟩
          · rw [hg3.os]; exact hwv.os
          · rw [hg3.tape]; exact hwv.tape
          · rw [hg3.output]; exact hwv.output
          · have := hwv.size
            simp [World.drew] at hs3
            omega
          · intro k hk
            have h0 := hwv.size
            rw [feed_keep hg3 (by omega) (fun e => by
              have h1 := (HF.out.out.lt k e.symm).1
              have h2 := HF.out.l1
              have h3 := HF.out.l2
              omega)]
            exact hwv.block k hk
        have kz3 : Blk V3 (w.heap.size + 1) zeroRun 49 := by
          have h2 := HF.out.l1
          have h3 := HF.out.l2
          unfold Blk
          rw [feed_keep hg3 (by omega) (fun e => by have h1 := (HF.out.out.lt _ e.symm).1; omega)]
          exact (HF.out.res.below HB0.out.1 HF.out.res.lt).below HB1.out (Nat.lt_of_lt_of_le HF.out.res.lt HB0.out.1.size)
        have HW3 := Lib.hid hw3
        have KZ3 := Lib.hid kz3
        clear y1 y2 y4 hown3 hg3 hat3 hat4 HOWN HROW HCLS hw3 kz3
        have cls3 : FeedCls X.heap.size V1.heap.size (.slice oa a.out.length oc) a.steps s.steps V3 := ⟨Y2.out.cell 2, Y2.out.cell 3, _, Y1.out, rfl⟩
        have CL3 := Lib.hid cls3
        clear cls3
        refine ⟨⟨⟨V3, CL3.out⟩, rfl⟩, ?_⟩
        repeat ((first | refine wpPlan_pure (fun K hK => ?_) | refine wpPlan_float (fun K hK => ?_)); go_simp; refine hK _ ?_; clear hK K)
        refine wpPlan_keep ?_
        go_wp2_with fail
        refine ⟨⟨⟨_, CL3.out.set (Nat.ne_of_lt lt1) _⟩, rfl⟩, ?_⟩
        repeat ((first | refine wpPlan_pure (fun K hK => ?_) | refine wpPlan_float (fun K hK => ?_)); go_simp; refine hK _ ?_; clear hK K)
        refine wpPlan_sees (by kernel_rfl) ?_
        go_wp2_with fail
        refine wpPlan_nil ?_
        go_upto_region 20 with (fail)
        refine wp_gen (fun W => Blk W V1.heap.size [.slice qb s.arr.length cqb, .slice cb s.ctx.length ccb, .slice va (a.out.length + s.out.length) vcap, .int .i64 (a.steps + s.steps)] 49 ∧ Blk W X.heap.size [.slice qa2 a.arr.length cq2, .slice ca2 a.ctx.length cc2, .slice oa a.out.length oc, .int .i64 a.steps] 49 ∧ (∀ k, k ≠ V1.heap.size → W.heap[k]? = V3.heap[k]?) ∧ W.heap.size = V3.heap.size ∧ W.os = V3.os ∧ W.tape = V3.tape ∧ W.output = V3.output) ?_ ?_
        · have hne : X.heap.size ≠ V1.heap.size := Nat.ne_of_lt lt1
          exact ⟨(Y1.out.set 2 _).set 3 _, (Y2.out.other (a := ⟨V1.heap.size, 2, none⟩) hne _).other (a := ⟨V1.heap.size, 3, none⟩) hne _, fun k hk => by rw [Below.heap_setCell _ _ _ _ hk, Below.heap_setCell _ _ _ _ hk], by simp, rfl, rfl, rfl⟩
        rintro W4 ⟨ka, kb, kk, ks, ko, kt, kp⟩
        have r0 : W4.cell? ⟨V1.heap.size, 0, none⟩ = some (.slice qb s.arr.length cqb) := ka.cell 0
        have r1 : W4.cell? ⟨V1.heap.size, 0 + 1, none⟩ = some (.slice cb s.ctx.length ccb) := ka.cell 1
        have r2 : W4.cell? ⟨V1.heap.size, 0 + 1 + 1, none⟩ = some (.slice va (a.out.length + s.out.length) vcap) := ka.cell 2
        have r3 : W4.cell? ⟨V1.heap.size, 0 + 1 + 1 + 1, none⟩ = some (.int .i64 (a.steps + s.steps)) := ka.cell 3
        have b0 : W4.cell? ⟨X.heap.size, 0, none⟩ = some (.slice qa2 a.arr.length cq2) := kb.cell 0
        have b1 : W4.cell? ⟨X.heap.size, 0 + 1, none⟩ = some (.slice ca2 a.ctx.length cc2) := kb.cell 1
        have b2 : W4.cell? ⟨X.heap.size, 0 + 1 + 1, none⟩ = some (.slice oa a.out.length oc) := kb.cell 2
        have b3 : W4.cell? ⟨X.heap.size, 0 + 1 + 1 + 1, none⟩ = some (.int .i64 a.steps) := kb.cell 3
        have g0 := kb.frozen 0
        have g1 := kb.frozen (0 + 1)
        have g2 := kb.frozen (0 + 1 + 1)
        have g3 := kb.frozen (0 + 1 + 1 + 1)
        have H4 := Lib.hid (And.intro kb (And.intro kk (And.intro ks (And.intro ko (And.intro kt kp)))))
        clear ka kb kk ks ko kt kp f2 f3
        go_upto_region 21 with (fail)
        refine wp_gen (fun W => FeedAt w [.slice arsA ars.length arsC, .int .i64 regs, .int .i64 spills, .slice codeA cd.length codeC] cd Y.heap.size X.heap.size ⟨s.arr, s.ctx, a.out ++ s.out, a.steps + s.steps⟩ qb cb va cqb ccb vcap W) ?_ ?_
        · obtain ⟨kb, kk, ks, ko, kt, kp⟩ := H4.out
          refine Y4.out _ (fun k h1 h2 => ?_) ?_ ?_ ?_ ?_ ?_
          · rw [Below.heap_setCell _ _ _ _ h2, Below.heap_setCell _ _ _ _ h2, Below.heap_setCell _ _ _ _ h2, Below.heap_setCell _ _ _ _ h2]
            exact kk k h1
          · simpa using ks
          · exact ko
          · exact kt
          · exact kp
          · exact (((kb.set 0 _).set 1 _).set 2 _).set 3 _
        rintro W5 F5
        have hlen : (a.out ++ s.out).length = a.out.length + s.out.length := List.length_append
        have r2 : W5.cell? ⟨X.heap.size, 2, none⟩ = some (.slice va (a.out.length + s.out.length) vcap) := by rw [← hlen]; exact F5.all.cell 2
        have HF5 := Lib.hid F5
        clear F5 H4 r0 r1 r3 b0 b1 b2 b3 g0 g1 g2 g3
        by_cases hlong : 65536 < a.out.length + s.out.length
        · have q5 : decide ((65536 : Int) < ((a.out.length + s.out.length : Nat) : Int)) = true := by simp; omega
          have q6 : decide ((65536 : Int) < (a.out.length : Int) + (s.out.length : Int)) = true := by simp; omega
          have hRn : R = .error 5 := by rw [HRN.out, if_pos (by rw [hlen]; exact hlong)]
          have HRN2 := Lib.hid hRn
          clear hRn
          have kz := HF5.out.res
          have z0 : W5.cell? ⟨w.heap.size + 1, 0, none⟩ = some (.slice none 0 0) := kz.cell 0
          have z1 : W5.cell? ⟨w.heap.size + 1, 0 + 1, none⟩ = some (.slice none 0 0) := kz.cell 1
          have z2 : W5.cell? ⟨w.heap.size + 1, 0 + 1 + 1, none⟩ = some (.slice none 0 0) := kz.cell 2
          have z3 : W5.cell? ⟨w.heap.size + 1, 0 + 1 + 1 + 1, none⟩ = some (.int .i64 0) := kz.cell 3
          have f0 := kz.frozen 0
          have f1 := kz.frozen (0 + 1)
          have f2 := kz.frozen (0 + 1 + 1)
          have f3 := kz.frozen (0 + 1 + 1 + 1)
          go_wp2
          refine bodyPost_ret (v := .tuple #[.agg #[.slice none 0 0, .slice none 0 0, .slice none 0 0, .int .i64 0], .int .i64 5]) ?_ rfl ?_
          · have e0 := ((((kz.set 0 (.slice none 0 0)).set 1 (.slice none 0 0)).set 2 (.slice none 0 0)).set 3 (.int .i64 0))
            have y0 := e0.cell 0
            have y1 := e0.cell 1
            have y2 := e0.cell 2
            have y3 := e0.cell 3
            simp only [zeroRun, List.set_cons_zero, List.set_cons_succ, List.getElem?_cons_zero, List.getElem?_cons_succ] at y0 y1 y2 y3
            simp [results, Try.results25, go_sem, y0, y1, y2, y3]
          · exact feed_end HRN2.out HF5.out.bel
        · have q5 : decide ((65536 : Int) < ((a.out.length + s.out.length : Nat) : Int)) = false := by simp; omega
          have q6 : decide ((65536 : Int) < (a.out.length : Int) + (s.out.length : Int)) = false := by simp; omega
          have hnl : ¬ 65536 < (a.out ++ s.out).length := by rw [hlen]; exact hlong
          have hRn := HRN.out
          rw [if_neg hnl] at hRn
          have HRN2 := Lib.hid hRn
          have HNL := Lib.hid hnl
          clear hRn hnl
          go_wp2
          go_roundw
          case rel => exact ⟨k + 1, ⟨s.arr, s.ctx, a.out ++ s.out, a.steps + s.steps⟩, qb, cb, va, cqb, ccb, vcap, by first | (simp; done) | (simp; omega), by omega, HGD2.out HNL.out, HRN2.out.symm, HF5.out⟩
          case measure => simp [intOf]; omega
end Go.Proofs.Ytefdnjhhaejgbaa

namespace Go.Proofs.Ytefdnjhhaejgbaa
open Go.RowKit
set_option linter.unusedVariables false
set_option maxRecDepth 100000 in
set_option maxHeartbeats 1000000 in
theorem Feed_e1 (arsA codeA dA : Option Addr) (arsC codeC dC : Nat) (ars : List Ar) (regs spills : Int) (cd : List RI) (dl : Nat) (fuel : Int) (w : World)
    (hars : RowB w.heap.size w 2 arsA ars.length fun i j => (ars.getD i default).cell j) (hcd : RowB w.heap.size w 5 codeA cd.length fun i j => (cd.getD i default).cell j)
    (hA : ars.length ≤ 9223372036854775807) (hC : cd.length ≤ 9223372036854775807) (harg : ∀ i ∈ cd, 0 ≤ i.arg ∧ i.arg < 4294967296)
    (R : Except Int FS) (n : Int) (hR : R = .error n)
    (hn : (chkCode ars regs spills cd).2 = n) (hn0 : (n != 0) = true) :
    Calls Try.prog 25 #[.agg #[.slice arsA ars.length arsC, .int .i64 regs, .int .i64 spills, .slice codeA cd.length codeC], .slice dA dl dC, .int .i64 fuel] w (FeedPost w R) := by
  have HARS := Lib.hid hars
  have HCD := Lib.hid hcd
  have HARG := Lib.hid harg
  have HCK := Lib.hid hn
  have HRN := Lib.hid hR
  clear hars hcd harg hn hR
  go_enter Try.func25, Try.ntmps25
  go_upto_region 1 with (fail)
  refine wp_gen _ (feed_boxes w [.slice arsA ars.length arsC, .int .i64 regs, .int .i64 spills, .slice codeA cd.length codeC]) ?_
  rintro W ⟨hbW, k1, k2, hsz⟩
  have HCH := Lib.hid (Check_any arsA codeA arsC codeC ars regs spills cd W ((HARS.out.below hbW).mono hbW.size) ((HCD.out.below hbW).mono hbW.size) hA hC HARG.out)
  have a0 : W.cell? ⟨w.heap.size, 0, none⟩ = some (.slice arsA ars.length arsC) := k1.cell 0
  have a1 : W.cell? ⟨w.heap.size, 0 + 1, none⟩ = some (.int .i64 regs) := k1.cell 1
  have a2 : W.cell? ⟨w.heap.size, 0 + 1 + 1, none⟩ = some (.int .i64 spills) := k1.cell 2
  have a3 : W.cell? ⟨w.heap.size, 0 + 1 + 1 + 1, none⟩ = some (.slice codeA cd.length codeC) := k1.cell 3
  have HW := Lib.hid (And.intro hbW (And.intro k1 k2))
  clear hbW k1 k2
  go_wp2_with fail
  refine HCH.out.mono ?_
  rintro e Y ⟨he, hbY⟩
  rw [HCK.out] at he
  subst he
  obtain ⟨hbW, k1, k2⟩ := HW.out
  have kz := k2.below hbY k2.lt
  have hwY : Below w.heap.size w Y := hbW.trans (hbY.mono hbW.size)
  have z0 : Y.cell? ⟨w.heap.size + 1, 0, none⟩ = some (.slice none 0 0) := kz.cell 0
  have z1 : Y.cell? ⟨w.heap.size + 1, 0 + 1, none⟩ = some (.slice none 0 0) := kz.cell 1
  have z2 : Y.cell? ⟨w.heap.size + 1, 0 + 1 + 1, none⟩ = some (.slice none 0 0) := kz.cell 2
  have z3 : Y.cell? ⟨w.heap.size + 1, 0 + 1 + 1 + 1, none⟩ = some (.int .i64 0) := kz.cell 3
  have f0 := kz.frozen 0
  have f1 := kz.frozen (0 + 1)
  have f2 := kz.frozen (0 + 1 + 1)
  have f3 := kz.frozen (0 + 1 + 1 + 1)
  have HY := Lib.hid hwY
  clear hbY hbW k1 k2 hwY a0 a1 a2 a3 HW HCH hsz
  go_wp2
  refine bodyPost_ret (v := .tuple #[.agg #[.slice none 0 0, .slice none 0 0, .slice none 0 0, .int .i64 0], .int .i64 n]) ?_ rfl ?_
  rotate_left
  · exact feed_end HRN.out HY.out
  · have e0 := ((((kz.set 0 (.slice none 0 0)).set 1 (.slice none 0 0)).set 2 (.slice none 0 0)).set 3 (.int .i64 0))
    have y0 := e0.cell 0
    have y1 := e0.cell 1
    have y2 := e0.cell 2
    have y3 := e0.cell 3
    simp only [zeroRun, List.set_cons_zero, List.set_cons_succ, List.getElem?_cons_zero, List.getElem?_cons_succ] at y0 y1 y2 y3
    simp [results, Try.results25, go_sem, y0, y1, y2, y3]
set_option maxRecDepth 100000 in
set_option maxHeartbeats 1000000 in
theorem Feed_e2 (arsA codeA dA : Option Addr) (arsC codeC dC : Nat) (ars : List Ar) (regs spills : Int) (cd : List RI) (dl : Nat) (fuel : Int) (w : World)
    (hars : RowB w.heap.size w 2 arsA ars.length fun i j => (ars.getD i default).cell j) (hcd : RowB w.heap.size w 5 codeA cd.length fun i j => (cd.getD i default).cell j)
    (hA : ars.length ≤ 9223372036854775807) (hC : cd.length ≤ 9223372036854775807) (harg : ∀ i ∈ cd, 0 ≤ i.arg ∧ i.arg < 4294967296)
    (R : Except Int FS) (n : Int) (hR : R = .error n)
    (hn : (chkCode ars regs spills cd).2 = 0) (hn5 : n = 5) (qd : decide ((65536 : Int) < (dl : Int)) = true) :
    Calls Try.prog 25 #[.agg #[.slice arsA ars.length arsC, .int .i64 regs, .int .i64 spills, .slice codeA cd.length codeC], .slice dA dl dC, .int .i64 fuel] w (FeedPost w R) := by
  have HARS := Lib.hid hars
  have HCD := Lib.hid hcd
  have HARG := Lib.hid harg
  have HCK := Lib.hid hn
  have HRN := Lib.hid hR
  clear hars hcd harg hn hR
  subst hn5
  go_enter Try.func25, Try.ntmps25
  go_upto_region 1 with (fail)
  refine wp_gen _ (feed_boxes w [.slice arsA ars.length arsC, .int .i64 regs, .int .i64 spills, .slice codeA cd.length codeC]) ?_
  rintro W ⟨hbW, k1, k2, hsz⟩
  have HCH := Lib.hid (Check_any arsA codeA arsC codeC ars regs spills cd W ((HARS.out.below hbW).mono hbW.size) ((HCD.out.below hbW).mono hbW.size) hA hC HARG.out)
  have a0 : W.cell? ⟨w.heap.size, 0, none⟩ = some (.slice arsA ars.length arsC) := k1.cell 0
  have a1 : W.cell? ⟨w.heap.size, 0 + 1, none⟩ = some (.int .i64 regs) := k1.cell 1
  have a2 : W.cell? ⟨w.heap.size, 0 + 1 + 1, none⟩ = some (.int .i64 spills) := k1.cell 2
  have a3 : W.cell? ⟨w.heap.size, 0 + 1 + 1 + 1, none⟩ = some (.slice codeA cd.length codeC) := k1.cell 3
  have HW := Lib.hid (And.intro hbW (And.intro k1 k2))
  clear hbW k1 k2
  go_wp2_with fail
  refine HCH.out.mono ?_
  rintro e Y ⟨he, hbY⟩
  rw [HCK.out] at he
  subst he
  obtain ⟨hbW, k1, k2⟩ := HW.out
  have kz := k2.below hbY k2.lt
  have hwY : Below w.heap.size w Y := hbW.trans (hbY.mono hbW.size)
  have z0 : Y.cell? ⟨w.heap.size + 1, 0, none⟩ = some (.slice none 0 0) := kz.cell 0
  have z1 : Y.cell? ⟨w.heap.size + 1, 0 + 1, none⟩ = some (.slice none 0 0) := kz.cell 1
  have z2 : Y.cell? ⟨w.heap.size + 1, 0 + 1 + 1, none⟩ = some (.slice none 0 0) := kz.cell 2
  have z3 : Y.cell? ⟨w.heap.size + 1, 0 + 1 + 1 + 1, none⟩ = some (.int .i64 0) := kz.cell 3
  have f0 := kz.frozen 0
  have f1 := kz.frozen (0 + 1)
  have f2 := kz.frozen (0 + 1 + 1)
  have f3 := kz.frozen (0 + 1 + 1 + 1)
  have HY := Lib.hid hwY
  clear hbY hbW k1 k2 hwY a0 a1 a2 a3 HW HCH hsz
  go_wp2
  refine bodyPost_ret (v := .tuple #[.agg #[.slice none 0 0, .slice none 0 0, .slice none 0 0, .int .i64 0], .int .i64 5]) ?_ rfl ?_
  rotate_left
  · exact feed_end HRN.out HY.out
  · have e0 := ((((kz.set 0 (.slice none 0 0)).set 1 (.slice none 0 0)).set 2 (.slice none 0 0)).set 3 (.int .i64 0))
    have y0 := e0.cell 0
    have y1 := e0.cell 1
    have y2 := e0.cell 2
    have y3 := e0.cell 3
    simp only [zeroRun, List.set_cons_zero, List.set_cons_succ, List.getElem?_cons_zero, List.getElem?_cons_succ] at y0 y1 y2 y3
    simp [results, Try.results25, go_sem, y0, y1, y2, y3]
set_option maxRecDepth 100000 in
set_option maxHeartbeats 1000000 in
theorem Feed_e3 (arsA codeA dA : Option Addr) (arsC codeC dC : Nat) (ars : List Ar) (regs spills : Int) (cd : List RI) (dl : Nat) (fuel : Int) (w : World)
    (hars : RowB w.heap.size w 2 arsA ars.length fun i j => (ars.getD i default).cell j) (hcd : RowB w.heap.size w 5 codeA cd.length fun i j => (cd.getD i default).cell j)
    (hA : ars.length ≤ 9223372036854775807) (hC : cd.length ≤ 9223372036854775807) (harg : ∀ i ∈ cd, 0 ≤ i.arg ∧ i.arg < 4294967296)
    (R : Except Int FS) (n : Int) (hR : R = .error n)
    (hn : (chkCode ars regs spills cd).2 = 0) (hn2 : n = 2) (qd : decide ((65536 : Int) < (dl : Int)) = false) (qf : (decide (0 ≤ fuel) && decide (fuel ≤ 281474976710656)) = false) :
    Calls Try.prog 25 #[.agg #[.slice arsA ars.length arsC, .int .i64 regs, .int .i64 spills, .slice codeA cd.length codeC], .slice dA dl dC, .int .i64 fuel] w (FeedPost w R) := by
  have HARS := Lib.hid hars
  have HCD := Lib.hid hcd
  have HARG := Lib.hid harg
  have HCK := Lib.hid hn
  have HRN := Lib.hid hR
  clear hars hcd harg hn hR
  subst hn2
  go_enter Try.func25, Try.ntmps25
  go_upto_region 1 with (fail)
  refine wp_gen _ (feed_boxes w [.slice arsA ars.length arsC, .int .i64 regs, .int .i64 spills, .slice codeA cd.length codeC]) ?_
  rintro W ⟨hbW, k1, k2, hsz⟩
  have HCH := Lib.hid (Check_any arsA codeA arsC codeC ars regs spills cd W ((HARS.out.below hbW).mono hbW.size) ((HCD.out.below hbW).mono hbW.size) hA hC HARG.out)
  have a0 : W.cell? ⟨w.heap.size, 0, none⟩ = some (.slice arsA ars.length arsC) := k1.cell 0
  have a1 : W.cell? ⟨w.heap.size, 0 + 1, none⟩ = some (.int .i64 regs) := k1.cell 1
  have a2 : W.cell? ⟨w.heap.size, 0 + 1 + 1, none⟩ = some (.int .i64 spills) := k1.cell 2
  have a3 : W.cell? ⟨w.heap.size, 0 + 1 + 1 + 1, none⟩ = some (.slice codeA cd.length codeC) := k1.cell 3
  have HW := Lib.hid (And.intro hbW (And.intro k1 k2))
  clear hbW k1 k2
  go_wp2_with fail
  refine HCH.out.mono ?_
  rintro e Y ⟨he, hbY⟩
  rw [HCK.out] at he
  subst he
  obtain ⟨hbW, k1, k2⟩ := HW.out
  have kz := k2.below hbY k2.lt
  have hwY : Below w.heap.size w Y := hbW.trans (hbY.mono hbW.size)
  have z0 : Y.cell? ⟨w.heap.size + 1, 0, none⟩ = some (.slice none 0 0) := kz.cell 0
  have z1 : Y.cell? ⟨w.heap.size + 1, 0 + 1, none⟩ = some (.slice none 0 0) := kz.cell 1
  have z2 : Y.cell? ⟨w.heap.size + 1, 0 + 1 + 1, none⟩ = some (.slice none 0 0) := kz.cell 2
  have z3 : Y.cell? ⟨w.heap.size + 1, 0 + 1 + 1 + 1, none⟩ = some (.int .i64 0) := kz.cell 3
  have f0 := kz.frozen 0
  have f1 := kz.frozen (0 + 1)
  have f2 := kz.frozen (0 + 1 + 1)
  have f3 := kz.frozen (0 + 1 + 1 + 1)
  have HY := Lib.hid hwY
  clear hbY hbW k1 k2 hwY a0 a1 a2 a3 HW HCH hsz
  go_wp2_with fail
  refine (allowed_any fuel Y).mono ?_
  rintro e Y2 ⟨rfl, rfl⟩
  rw [qf]
  go_wp2
  refine bodyPost_ret (v := .tuple #[.agg #[.slice none 0 0, .slice none 0 0, .slice none 0 0, .int .i64 0], .int .i64 2]) ?_ rfl ?_
  rotate_left
  · exact feed_end HRN.out HY.out
  · have e0 := ((((kz.set 0 (.slice none 0 0)).set 1 (.slice none 0 0)).set 2 (.slice none 0 0)).set 3 (.int .i64 0))
    have y0 := e0.cell 0
    have y1 := e0.cell 1
    have y2 := e0.cell 2
    have y3 := e0.cell 3
    simp only [zeroRun, List.set_cons_zero, List.set_cons_succ, List.getElem?_cons_zero, List.getElem?_cons_succ] at y0 y1 y2 y3
    simp [results, Try.results25, go_sem, y0, y1, y2, y3]
theorem Feed_any (arsA codeA dA : Option Addr) (arsC codeC dC : Nat) (ars : List Ar) (regs spills : Int) (cd : List RI) (data : List Int) (fuel : Int) (w : World)
    (hars : RowB w.heap.size w 2 arsA ars.length fun i j => (ars.getD i default).cell j) (hcd : RowB w.heap.size w 5 codeA cd.length fun i j => (cd.getD i default).cell j) (hdat : RowB w.heap.size w 1 dA data.length fun j _ => .int .u8 (data.getD j 0))
    (hA : ars.length ≤ 9223372036854775807) (hC : cd.length ≤ 9223372036854775807) (harg : ∀ i ∈ cd, 0 ≤ i.arg ∧ i.arg < 4294967296) (hd8 : ∀ n ∈ data, 0 ≤ n ∧ n < 256) :
    Calls Try.prog 25 #[.agg #[.slice arsA ars.length arsC, .int .i64 regs, .int .i64 spills, .slice codeA cd.length codeC], .slice dA data.length dC, .int .i64 fuel] w (FeedPost w (feedRes ars regs spills cd data fuel)) := by
  by_cases h1 : (chkCode ars regs spills cd).2 = 0
  rotate_left
  · exact Feed_e1 arsA codeA dA arsC codeC dC ars regs spills cd data.length fuel w hars hcd hA hC harg _ _ (by unfold feedRes; rw [if_pos (by simpa using h1)]) rfl (by simpa using h1)
  by_cases h2 : 65536 < data.length
  · exact Feed_e2 arsA codeA dA arsC codeC dC ars regs spills cd data.length fuel w hars hcd hA hC harg _ 5 (by unfold feedRes; rw [if_neg (by simpa using h1), if_pos h2]) h1 rfl (by simp; omega)
  by_cases h3 : fuel < 0 ∨ 281474976710656 < fuel
  · refine Feed_e3 arsA codeA dA arsC codeC dC ars regs spills cd data.length fuel w hars hcd hA hC harg _ 2 (by unfold feedRes; rw [if_neg (by simpa using h1), if_neg h2, if_pos h3]) h1 rfl (by simp; omega) ?_
    by_cases h : 0 ≤ fuel
    · simp [h]; omega
    · simp [h]
  · exact Feed_main arsA codeA dA arsC codeC dC ars regs spills cd data fuel w hars hcd hdat hA hC harg hd8 h1 (by omega) (by omega)
end Go.Proofs.Ytefdnjhhaejgbaa

namespace Go.Proofs.Ytefdnjhhaejgbaa
open Go.RowKit
set_option linter.unusedVariables false
end Go.Proofs.Ytefdnjhhaejgbaa

namespace Go.Proofs.Ytefdnjhhaejgbaa
open Go.RowKit
set_option linter.unusedVariables false
structure DivAt (X0 : World) (a : FS) (qa ca oa : Option Addr) (cq cc oc : Nat) (W : World) : Prop where
  bel : Below X0.heap.size X0 W
  all : Blk W X0.heap.size [.slice qa a.arr.length cq, .slice ca a.ctx.length cc, .slice oa a.out.length oc, .int .i64 a.steps] 49
  mem : ∃ B E, (X0.heap.size < B ∨ E ≤ X0.heap.size) ∧ E ≤ W.heap.size ∧ Lies B E W (MemRows qa ca a.arr a.ctx)
  out : W.ownsRow (X0.heap.size + 1) 5 1 (.slice oa a.out.length oc) a.out.length (ints .u8 a.out)
theorem DivAt.rows {X0 W V0 : World} {a : FS} {qa ca oa : Option Addr} {cq cc oc : Nat} (F : DivAt X0 a qa ca oa cq cc oc W) (hb0 : Below W.heap.size W V0) : MemRows qa ca a.arr a.ctx V0 := by
  obtain ⟨B, E, h2, h3, h4⟩ := F.mem
  exact h4 V0 (Nat.le_trans h3 hb0.size) fun k _ hk => hb0.block k (Nat.lt_of_lt_of_le hk h3)
theorem DivAt.res {X0 W : World} {a : FS} {qa ca oa : Option Addr} {cq cc oc : Nat} (F : DivAt X0 a qa ca oa cq cc oc W) :
    ResAt W a.arr a.ctx a.out a.steps (.agg #[.slice qa a.arr.length cq, .slice ca a.ctx.length cc, .slice oa a.out.length oc, .int .i64 a.steps]) := by
  have hm := F.rows (Below.refl _ _)
  refine ⟨qa, cq, ca, cc, oa, oc, rfl, hm.1, hm.2, ?_⟩
  have hr := own_fits F.out (by simp [ints])
  refine hr.congr fun j hj => ?_
  simp [ints, List.getD_eq_getElem?_getD, List.getElem?_eq_getElem hj]
def DivCls (ab rb : Nat) (ca cb : List Value) (x : World) : Prop := Blk x ab ca 49 ∧ Blk x rb cb 49
end Go.Proofs.Ytefdnjhhaejgbaa

namespace Go.Proofs.Ytefdnjhhaejgbaa
open Go.RowKit
set_option linter.unusedVariables false
set_option maxRecDepth 100000 in
set_option maxHeartbeats 1000000 in
theorem zero_any (qa : Option Addr) (cq : Nat) (ars : List Ar) (w : World) (hars : RowB w.heap.size w 2 qa ars.length fun i j => (ars.getD i default).cell j)
    (hn : ars.length ≤ 8) (h1 : ∀ a ∈ ars, 1 ≤ a.size ∧ a.size ≤ 65536) :
    Calls Try.prog 32 #[.slice qa ars.length cq] w (CopyPost w (zeros ars) (List.replicate 16 0)) := by
  have m16 := run_make_16
  have HARS := Lib.hid hars
  have H1 := Lib.hid h1
  clear hars h1
  have start : ∀ wr, wr = ((w.alloc (.cells #[.slice none 0 0, .slice none 0 0] 31)).alloc (.cells (ints .u32 (List.replicate 16 0)).toArray 42)).alloc (.cells #[.slice none 0 0, .slice (some ⟨w.heap.size + 1, 0, none⟩) 16 16] 31) →
      CopyRel w (zeros ars) (List.replicate 16 0) w.heap.size (w.heap.size + 1 + 1) (w.heap.size + 1) 16 (.int .i64 0) wr := by
    rintro wr rfl
    refine ⟨0, fun x => if x = w.heap.size + 1 then 3 else if x = w.heap.size then 2000 else 2001, fun _ => 0, fun _ => 0, .slice none 0 0, rfl, ⟨by omega, ⟨?_, fun k hk => by simp at hk, fun k hk => by simp at hk, fun g hg => by simp [Value.ownBlock] at hg, fun k hk => by simp at hk⟩, ?_, ?_, ⟨[], ?_⟩, by simp, ?_, ?_, by omega, by omega, by omega, ((((Below.refl _ _).alloc (by simp) _).alloc (by simp) _).alloc (by simp; omega) _)⟩⟩
    · exact World.ownsRow_nil _ _ _ _
    · have := heap_new1 ((w.alloc (.cells #[.slice none 0 0, .slice none 0 0] 31)).alloc (.cells (ints .u32 (List.replicate 16 0)).toArray 42)) (.cells #[.slice none 0 0, .slice (some ⟨w.heap.size + 1, 0, none⟩) 16 16] 31)
      unfold Blk
      simpa using this
    · unfold Blk
      rw [Below.heap_alloc _ _ _ (by simp; omega), Below.heap_alloc _ _ _ (by simp)]
      exact heap_new1 _ _
    · unfold Blk
      rw [Below.heap_alloc _ _ _ (by simp), List.append_nil]
      exact heap_new2 _ _ _
    · rw [if_neg (by omega)]; simp
    · rw [if_neg (by omega), if_neg (by omega)]
  have HST := Lib.hid start
  clear start
  go_enter Try.func32, Try.ntmps32
  go_wp2_with fail
  go_loopw [4] (fun i wr => CopyRel w (zeros ars) (List.replicate 16 0) w.heap.size (w.heap.size + 1 + 1) (w.heap.size + 1) 16 i wr) (fun i _ => ars.length - (intOf i).toNat)
  case atStart => exact HST.out _ rfl
  case round =>
    obtain ⟨k, τ, ab, ac, v, rfl, CA⟩ := hrel
    have hzl : (zeros ars).length = ars.length := by simp [zeros]
    by_cases hk : k < ars.length
    · obtain ⟨b, off, rfl, hb, hcells⟩ := HARS.out k hk
      have hx := H1.out (ars.getD k default) (by rw [List.getD_eq_getElem?_getD, List.getElem?_eq_getElem hk]; exact List.getElem_mem hk)
      have hZ := zeros_take ars k hk
      have c0 : w.cell? ⟨b, off + k * 2 + 0, none⟩ = some ((ars.getD k default).cell 0) := hcells 0 (by omega)
      have c1 : w.cell? ⟨b, off + k * 2 + 1, none⟩ = some ((ars.getD k default).cell 1) := hcells 1 (by omega)
      clear hcells
      generalize hA : ars.getD k default = A at *
      obtain ⟨wd, sz⟩ := A
      obtain ⟨n, rfl⟩ : ∃ n : Nat, sz = (n : Int) := ⟨sz.toNat, by simp at hx; omega⟩
      have hx1 : 1 ≤ n ∧ n ≤ 65536 := by simp at hx; omega
      have hk' := nat_cast_lt hk
      have hbw : b < wr.heap.size := Nat.lt_of_lt_of_le hb CA.bel.size
      have q0 : wr.cell? ⟨b, off + k * 2, none⟩ = some (.bool wd) := by rw [CA.bel.cell (p := ⟨b, off + k * 2, none⟩) hb]; exact c0
      have q1 : wr.cell? ⟨b, off + k * 2 + 1, none⟩ = some (.int .i64 (n : Int)) := by rw [CA.bel.cell (p := ⟨b, off + k * 2 + 1, none⟩) hb]; exact c1
      have mk := run_make_u32 n (by omega)
      have c3 : wr.cell? ⟨w.heap.size + 1 + 1, 0, none⟩ = some v := CA.out.cell 0
      have z3 := CA.out.frozen 0
      have hol := CA.out.lt
      obtain ⟨va, vc, rfl⟩ : ∃ va vc, v = .slice va k vc := by
        have hl : ((zeros ars).take k).length = k := by simp [hzl]; omega
        have hown := CA.grid.own
        rw [hl] at hown
        rcases hown.2 with ⟨h1, h2⟩ | ⟨g, cc, cur, h1, _⟩
        · exact ⟨none, 0, by rw [h1, h2]⟩
        · exact ⟨_, cc, h1⟩
      have HZ := Lib.hid hZ
      have HA := Lib.hid hA
      clear hZ hA c0 c1 hx
      go_wp2_with fail
      refine wp_region_grew [1, 6] [0, 2, 3, 4, 5] [(2, 0), (2, 2), (2, 3), (2, 4), (2, 5), (1, 1), (1, 6), (0, 7), (0, 8), (0, 9), (0, 10), (0, 11)] (by kernel_rfl) (by kernel_rfl) (fun c a d v w h => by cases d <;> exact h) ?_
      simp only [getPlan, List.filterMap_cons, List.filterMap_nil, List.getElem?_toArray, List.getElem?_cons_succ, List.getElem?_cons_zero, Option.map_some]
      repeat ((first | refine wpPlan_pure (fun K hK => ?_) | refine wpPlan_float (fun K hK => ?_)); go_simp; refine hK _ ?_; clear hK K)
      refine wpPlan_keep ?_
      go_wp2_with fail
      refine ⟨grew_below (((Below.refl _ _).drew).alloc (by simp) _), ?_⟩
      refine wpPlan_keep ?_
      go_wp2_with fail
      refine ⟨grew_below ((((Below.refl _ _).drew).alloc (by simp) _).alloc (by simp) _), ?_⟩
      refine wpPlan_gen (fun z => Below wr.heap.size wr z ∧ Blk z (wr.heap.size) (ints .u32 (List.replicate n 0) ++ []) 42 ∧ z.heap[wr.heap.size + 1]? = some (.cells [.slice (some ⟨wr.heap.size, 0, none⟩) n n].toArray 29 (0, 0)) ∧ wr.heap.size + 1 < z.heap.size) ?_ ?_
      · refine ⟨(((Below.refl _ _).alloc (by simp) _).alloc (by simp) _).drew, ?_, ?_, ?_⟩
        · unfold Blk
          rw [drew_heap, Below.heap_alloc _ _ _ (by simp), List.append_nil]
          exact heap_new1 _ _
        · rw [drew_heap]
          have := heap_new1 (wr.alloc (.cells (ints .u32 (List.replicate n 0)).toArray 42)) (.cells #[.slice (some ⟨wr.heap.size, 0, none⟩) n n] 29)
          simpa using this
        · simp
      rintro z ⟨hb5, hblk4, hnew, hs4⟩
      have hl : ((zeros ars).take k).length = k := by simp [hzl]; omega
      have hown4 : z.ownsRow w.heap.size 29 1 (.slice va k vc) k ((List.range k).map fun j => .slice (some ⟨ab j, 0, none⟩) (((zeros ars).take k).getD j []).length (ac j)) := by
        have h9 := CA.grid.own.kept (grownBy_of_below hb5 none) (by cases hv : (Value.slice va ((zeros ars).take k).length vc).ownBlock <;> simp_all)
        rw [hl] at h9
        exact h9
      refine wpPlan_sees (by kernel_rfl) ?_
      refine wpList_app1 Try.elSl rfl _ _ rfl w.heap.size (.slice va k vc) k _ rfl hown4 (wr.heap.size + 1) [.slice (some ⟨wr.heap.size, 0, none⟩) n n] (0, 0) rfl hnew rfl ?_ ?_ ?_ ?_
      · simp [Value.oneCell']
      · omega
      · have := CA.bel.size; omega
      intro g6 c6 w6 hown6 hg5 hat5 hlt6
      have hB := CA.bel.size
      have vto : ∀ x, (Value.slice va k vc).ownBlock = some x → τ x = 4 := CA.grid.to
      have vlt : ∀ x, (Value.slice va k vc).ownBlock = some x → x < wr.heap.size := fun x hx => (CA.grid.own.lt x hx).2
      have hat6 : (Value.slice va k vc).ownBlock = some g6 ∨ z.heap.size ≤ g6 := by
        rcases hat5 with h | h
        · exact .inl h
        · right; omega
      have P := CA.grid.push (List.replicate n 0) hB hb5 hblk4 (by omega) (by rw [hl]; simpa using hown6) hg5 hat6
      rw [hl] at P
      have fr : ∀ y t, y < wr.heap.size → τ y = t → t ≠ 4 → y ≠ wr.heap.size ∧ y ≠ g6 ∧ w6.heap[y]? = wr.heap[y]? := by
        intro y t hy ht hne
        have hne2 : some y ≠ (Value.slice va k vc).ownBlock := fun e => hne (by rw [← ht]; exact vto y e.symm)
        refine ⟨by omega, fun e => ?_, ?_⟩
        · rcases hat6 with h | h
          · exact hne2 (by rw [h, e])
          · omega
        · rw [hg5.block y (by omega) hne2, hb5.block y hy]
      have f3 := fr (w.heap.size + 1 + 1) 2001 hol CA.t3 (by omega)
      have c6' : w6.cell? ⟨w.heap.size + 1 + 1, 0, none⟩ = some (.slice va k vc) := by rw [World.cell?_of_block f3.2.2]; exact c3
      have z6 : w6.frozen? ⟨w.heap.size + 1 + 1, 0, none⟩ = false := by rw [World.frozen?_of_block f3.2.2]; exact z3
      have f2 := fr w.heap.size 2000 CA.res.lt CA.t2 (by omega)
      have fc := fr (w.heap.size + 1) 3 (by obtain ⟨t, ht⟩ := CA.ctx; exact ht.lt) CA.tc (by omega)
      have rel : CopyRel w (zeros ars) (List.replicate 16 0) w.heap.size (w.heap.size + 1 + 1) (w.heap.size + 1) 16 (.int .i64 ((k : Int) + 1)) (w6.setCell ⟨w.heap.size + 1 + 1, 0, none⟩ (.slice (some ⟨g6, 0, none⟩) (k + 1) c6)) := by
        have hP2 := P.foreign (by simp [hzl]; omega) (y := w.heap.size + 1 + 1) (by show 1000 ≤ (if _ then _ else if _ then _ else _); rw [if_neg f3.1, if_neg f3.2.1, CA.t3]; omega) 0 (.slice (some ⟨g6, 0, none⟩) (k + 1) c6)
        have hne : ∀ y, y ≠ w.heap.size + 1 + 1 → (w6.setCell ⟨w.heap.size + 1 + 1, 0, none⟩ (.slice (some ⟨g6, 0, none⟩) (k + 1) c6)).heap[y]? = w6.heap[y]? := fun y hy => Below.heap_setCell _ _ _ _ hy
        refine ⟨k + 1, _, _, _, _, by simp, ⟨by omega, by rw [HZ.out]; exact hP2, ?_, ?_, ?_, by show (if _ then _ else if _ then _ else _) = _; rw [if_neg fc.1, if_neg fc.2.1]; exact CA.tc, by show (if _ then _ else if _ then _ else _) = _; rw [if_neg f2.1, if_neg f2.2.1]; exact CA.t2, by show (if _ then _ else if _ then _ else _) = _; rw [if_neg f3.1, if_neg f3.2.1]; exact CA.t3, CA.bc, CA.b2, CA.b3, ?_⟩⟩
        · have o6 : Blk w6 (w.heap.size + 1 + 1) [.slice va k vc, .slice (some ⟨w.heap.size + 1, 0, none⟩) (List.replicate 16 (0 : Int)).length 16] 31 := by unfold Blk; rw [f3.2.2]; exact CA.out
          exact o6.set 0 _
        · unfold Blk; rw [hne _ (by omega), f2.2.2]; exact CA.res
        · obtain ⟨t, ht⟩ := CA.ctx
          exact ⟨t, by unfold Blk; rw [hne _ (by omega), fc.2.2]; exact ht⟩
        · exact ((CA.bel.trans (hb5.mono hB)).trans (below_grown hg5 (by omega) (fun x hx => (CA.grid.own.lt x hx).1))).setCell CA.b3 _
      have HREL := Lib.hid rel
      clear fr P hown6 hg5 hat6 hat5 hown4 f3 f2 fc c3 z3 rel hb5 hblk4 hnew vto vlt q0 q1
      go_wp2
      refine wpPlan_tail (by kernel_rfl) ?_
      simp only [List.map_cons, List.map_nil]
      go_wp2
      go_roundw
      case rel => exact HREL.out
      case measure => simp [intOf]; omega
    · have hkk : k = ars.length := by have := CA.le; omega
      subst hkk
      obtain ⟨va, vc, rfl⟩ : ∃ va vc, v = .slice va ars.length vc := by
        have hown := CA.grid.own
        rw [← hzl, List.take_length] at hown
        rw [← hzl]
        rcases hown.2 with ⟨h1, h2⟩ | ⟨g, cc, cur, h1, _⟩
        · exact ⟨none, 0, by rw [h1, h2]⟩
        · exact ⟨_, cc, h1⟩
      have c0 : wr.cell? ⟨w.heap.size + 1 + 1, 0, none⟩ = some (.slice va ars.length vc) := CA.out.cell 0
      have c1 : wr.cell? ⟨w.heap.size + 1 + 1, 0 + 1, none⟩ = some (.slice (some ⟨w.heap.size + 1, 0, none⟩) 16 16) := CA.out.cell 1
      have y0 : wr.cell? ⟨w.heap.size, 0, none⟩ = some (.slice none 0 0) := CA.res.cell 0
      have y1 : wr.cell? ⟨w.heap.size, 0 + 1, none⟩ = some (.slice none 0 0) := CA.res.cell 1
      have z0 := CA.res.frozen 0
      have z1 := CA.res.frozen (0 + 1)
      have HZL := Lib.hid hzl
      clear hzl
      go_wp2
      refine bodyPost_ret (v := .agg #[.slice va ars.length vc, .slice (some ⟨w.heap.size + 1, 0, none⟩) 16 16]) ?_ rfl ?_
      · have e0 := (CA.res.set 0 (.slice va ars.length vc)).set 1 (.slice (some ⟨w.heap.size + 1, 0, none⟩) 16 16)
        have x0 := e0.cell 0
        have x1 := e0.cell 1
        simp only [List.set_cons_zero, List.set_cons_succ, List.getElem?_cons_zero, List.getElem?_cons_succ] at x0 x1
        simp [results, Try.results32, go_sem, x0, x1]
      · have hgr := CA.grid
        rw [← HZL.out, List.take_length] at hgr
        have g1 := (hgr.foreign (by rw [HZL.out]; omega) (y := w.heap.size) (by rw [CA.t2]; omega) 0 (.slice va ars.length vc)).foreign (by rw [HZL.out]; omega) (y := w.heap.size) (by rw [CA.t2]; omega) 1 (.slice (some ⟨w.heap.size + 1, 0, none⟩) 16 16)
        obtain ⟨t9, ht9⟩ := CA.ctx
        have hgn : w.heap.size + 1 ≠ w.heap.size := by omega
        rw [HZL.out] at g1
        exact ⟨_, τ, ab, ac, w.heap.size + 1, 16, rfl, g1, ⟨t9, (ht9.other hgn _).other hgn _⟩, CA.tc, CA.bc, (CA.bel.setCell CA.b2 _).setCell CA.b2 _⟩
end Go.Proofs.Ytefdnjhhaejgbaa
