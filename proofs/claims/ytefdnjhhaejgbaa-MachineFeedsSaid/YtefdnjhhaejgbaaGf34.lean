/- A part of the proof of MachineFeeds: Ry. No condition. -/
import Derived.Test.YtefdnjhhaejgbaaGf33
import Derived.Test.YtefdnjhhaejgbaaGf24
import Derived.Test.YtefdnjhhaejgbaaGf13
set_option linter.unusedSimpArgs false
set_option linter.unusedVariables false
namespace Go.Proofs.Ytefdnjhhaejgbaa
open Go.ChangeShapes Go.WideShapes Go.ChangeAt Go.RowKit Go.Deep Go.Joins
set_option linter.unusedVariables false
def vInt : Value → Int
  | .int _ n => n
  | _ => 0
def vBool : Value → Bool
  | .bool b => b
  | _ => false
def i64 (n : Int) : Prop := -9223372036854775808 ≤ n ∧ n ≤ 9223372036854775807
theorem wf_i64 {n : Int} (h : (Lit.int .i64 n).wf = true) : i64 n := by
  have h2 : IntKind.i64.min ≤ n ∧ n ≤ IntKind.i64.max := by simpa [Lit.wf] using h
  have e1 : IntKind.i64.min = -9223372036854775808 := by decide
  have e2 : IntKind.i64.max = 9223372036854775807 := by decide
  unfold i64; omega
theorem wf_u32 {n : Int} (h : (Lit.int .u32 n).wf = true) : u32 n := by
  have h2 : IntKind.u32.min ≤ n ∧ n ≤ IntKind.u32.max := by simpa [Lit.wf] using h
  have e1 : IntKind.u32.min = 0 := by decide
  have e2 : IntKind.u32.max = 4294967295 := by decide
  unfold u32; omega
theorem wf_u8 {n : Int} (h : (Lit.int .u8 n).wf = true) : 0 ≤ n ∧ n < 256 := by
  have h2 : IntKind.u8.min ≤ n ∧ n ≤ IntKind.u8.max := by simpa [Lit.wf] using h
  have e1 : IntKind.u8.min = 0 := by decide
  have e2 : IntKind.u8.max = 255 := by decide
  omega
def CodeAt (w : World) (ars : List Ar) (regs spills : Int) (cd : List RI) (v : Value) : Prop :=
  ∃ arsA arsC codeA codeC, v = .agg #[.slice arsA ars.length arsC, .int .i64 regs, .int .i64 spills, .slice codeA cd.length codeC] ∧ RowB w.heap.size w 2 arsA ars.length (fun i j => (ars.getD i default).cell j) ∧
    RowB w.heap.size w 5 codeA cd.length (fun i j => (cd.getD i default).cell j)
structure CodeOk (ars : List Ar) (regs spills : Int) (cd : List RI) : Prop where
  la : ars.length ≤ 9223372036854775807
  lc : cd.length ≤ 9223372036854775807
  hr : i64 regs
  hs : i64 spills
  sz : ∀ a ∈ ars, i64 a.size
  ins : ∀ i ∈ cd, i64 i.op ∧ i64 i.to ∧ i64 i.a ∧ i64 i.b
  arg : ∀ i ∈ cd, 0 ≤ i.arg ∧ i.arg < 4294967296
theorem getD_range_map {α : Type} [Inhabited α] (n i : Nat) (f : Nat → α) (h : i < n) : ((List.range n).map f).getD i default = f i := by
  rw [List.getD_eq_getElem?_getD, List.getElem?_map, List.getElem?_range h]; rfl
theorem open_ars {H : Type} {enc : TypeId × Value → H} {w : World} {base : Nat} {spare : Nat → Bool} {held : Bool} {fuel : Nat} {cs : List Value} {x : DataW H × List MemPlace} (h : DataW.trod enc Try.prog w base spare held fuel 22 cs = some x) :
    ∃ (a : Option Addr) (cap : Nat) (ars : List Ar), cs = [.slice a ars.length cap] ∧ ars.length ≤ 9223372036854775807 ∧ RowB w.heap.size w 2 a ars.length (fun i j => (ars.getD i default).cell j) ∧ ∀ x ∈ ars, i64 x.size := by
  obtain ⟨a, len, cap, n, V, rfl, hl, hV, ht⟩ := open_rows (P := Try.prog) Try.underlying22 Try.underlying59 (by kernel_rfl) (by kernel_rfl) (by decide) h
  refine ⟨a, cap, (List.range len).map fun i => ⟨vBool (V i 0), vInt (V i 1)⟩, by simp, by simpa using hl, ?_, ?_⟩
  · rw [List.length_map, List.length_range]
    replace hV : RowB w.heap.size w 2 a len V := hV
    refine hV.congr fun i hi j hj => ?_
    rw [getD_range_map _ _ _ hi]
    obtain ⟨y0, h0⟩ := ht i hi 0 _ rfl
    obtain ⟨y1, h1⟩ := ht i hi 1 _ rfl
    obtain ⟨b, e0, _⟩ := DataW.trod_bool (by kernel_rfl) h0
    obtain ⟨m, e1, _, _⟩ := DataW.trod_int (k := .i64) (by kernel_rfl) h1
    simp only [List.cons.injEq, and_true] at e0 e1
    have hj2 : j = 0 ∨ j = 1 := by omega
    rcases hj2 with rfl | rfl
    · rw [e0]; rfl
    · rw [e1]; rfl
  · intro x hx
    simp only [List.mem_map, List.mem_range] at hx
    obtain ⟨i, hi, rfl⟩ := hx
    obtain ⟨y1, h1⟩ := ht i hi 1 _ rfl
    obtain ⟨m, e1, _, hw⟩ := DataW.trod_int (k := .i64) (by kernel_rfl) h1
    simp only [List.cons.injEq, and_true] at e1
    rw [e1]; exact wf_i64 hw
theorem open_ins {H : Type} {enc : TypeId × Value → H} {w : World} {base : Nat} {spare : Nat → Bool} {held : Bool} {fuel : Nat} {cs : List Value} {x : DataW H × List MemPlace} (h : DataW.trod enc Try.prog w base spare held fuel 23 cs = some x) :
    ∃ (a : Option Addr) (cap : Nat) (cd : List RI), cs = [.slice a cd.length cap] ∧ cd.length ≤ 9223372036854775807 ∧ RowB w.heap.size w 5 a cd.length (fun i j => (cd.getD i default).cell j) ∧ ∀ i ∈ cd, (i64 i.op ∧ i64 i.to ∧ i64 i.a ∧ i64 i.b) ∧ 0 ≤ i.arg ∧ i.arg < 4294967296 := by
  obtain ⟨a, len, cap, n, V, rfl, hl, hV, ht⟩ := open_rows (P := Try.prog) Try.underlying23 Try.underlying61 (by kernel_rfl) (by kernel_rfl) (by decide) h
  have key : ∀ i, i < len → ∃ op to a b arg, V i 0 = .int .i64 op ∧ V i 1 = .int .i64 to ∧ V i 2 = .int .i64 a ∧ V i 3 = .int .i64 b ∧ V i 4 = .int .u32 arg ∧ i64 op ∧ i64 to ∧ i64 a ∧ i64 b ∧ u32 arg := by
    intro i hi
    obtain ⟨y0, h0⟩ := ht i hi 0 _ rfl
    obtain ⟨y1, h1⟩ := ht i hi 1 _ rfl
    obtain ⟨y2, h2⟩ := ht i hi 2 _ rfl
    obtain ⟨y3, h3⟩ := ht i hi 3 _ rfl
    obtain ⟨y4, h4⟩ := ht i hi 4 _ rfl
    obtain ⟨m0, e0, _, w0⟩ := DataW.trod_int (k := .i64) (by kernel_rfl) h0
    obtain ⟨m1, e1, _, w1⟩ := DataW.trod_int (k := .i64) (by kernel_rfl) h1
    obtain ⟨m2, e2, _, w2⟩ := DataW.trod_int (k := .i64) (by kernel_rfl) h2
    obtain ⟨m3, e3, _, w3⟩ := DataW.trod_int (k := .i64) (by kernel_rfl) h3
    obtain ⟨m4, e4, _, w4⟩ := DataW.trod_int (k := .u32) (by kernel_rfl) h4
    simp only [List.cons.injEq, and_true] at e0 e1 e2 e3 e4
    exact ⟨m0, m1, m2, m3, m4, e0, e1, e2, e3, e4, wf_i64 w0, wf_i64 w1, wf_i64 w2, wf_i64 w3, wf_u32 w4⟩
  refine ⟨a, cap, (List.range len).map fun i => ⟨vInt (V i 0), vInt (V i 1), vInt (V i 2), vInt (V i 3), vInt (V i 4)⟩, by simp, by simpa using hl, ?_, ?_⟩
  · rw [List.length_map, List.length_range]
    replace hV : RowB w.heap.size w 5 a len V := hV
    refine hV.congr fun i hi j hj => ?_
    rw [getD_range_map _ _ _ hi]
    obtain ⟨op, to, a, b, arg, e0, e1, e2, e3, e4, _⟩ := key i hi
    have hj2 : j = 0 ∨ j = 1 ∨ j = 2 ∨ j = 3 ∨ j = 4 := by omega
    rcases hj2 with rfl | rfl | rfl | rfl | rfl
    · rw [e0]; rfl
    · rw [e1]; rfl
    · rw [e2]; rfl
    · rw [e3]; rfl
    · rw [e4]; rfl
  · intro x hx
    simp only [List.mem_map, List.mem_range] at hx
    obtain ⟨i, hi, rfl⟩ := hx
    obtain ⟨op, to, a, b, arg, e0, e1, e2, e3, e4, w0, w1, w2, w3, w4⟩ := key i hi
    simp only [e0, e1, e2, e3, e4, vInt]
    exact ⟨⟨w0, w1, w2, w3⟩, w4⟩
set_option maxRecDepth 100000 in
set_option maxHeartbeats 1000000 in
theorem open_code {H : Type} {enc : TypeId × Value → H} {w : World} {base : Nat} {spare : Nat → Bool} {held : Bool} {r : Reach} {b0 : Nat} {v : Value} {d : DataW H} {p : List MemPlace}
    (hv : Value.okWide Try.prog w r b0 25 v) (h : DataW.Trod enc Try.prog w base spare held 25 v d p) :
    ∃ ars regs spills cd, CodeAt w ars regs spills cd v ∧ CodeOk ars regs spills cd := by
  obtain ⟨v0, v1, v2, v3, y0, y1, y2, y3, n, rfl, _, _, h0, h1, h2, h3⟩ := open_agg4 (P := Try.prog) Try.underlying25 (by kernel_rfl) (by kernel_rfl) hv h
  obtain ⟨a, cap, ars, e0, hl, hR, hsz⟩ := open_ars h0
  obtain ⟨a', cap', cd, e3, hl', hR', hin⟩ := open_ins h3
  obtain ⟨m1, e1, _, w1⟩ := DataW.trod_int (k := .i64) (by kernel_rfl) h1
  obtain ⟨m2, e2, _, w2⟩ := DataW.trod_int (k := .i64) (by kernel_rfl) h2
  simp only [List.cons.injEq, and_true] at e0 e1 e2 e3
  subst e0 e1 e2 e3
  exact ⟨ars, m1, m2, cd, ⟨a, cap, a', cap', rfl, hR, hR'⟩, ⟨hl, hl', wf_i64 w1, wf_i64 w2, hsz, fun i hi => (hin i hi).1, fun i hi => (hin i hi).2⟩⟩
theorem open_nums {H : Type} {enc : TypeId × Value → H} {P : Program} {w : World} {base : Nat} {spare : Nat → Bool} {held : Bool} {t e : TypeId} {k : IntKind} {fuel : Nat} {cs : List Value} {x : DataW H × List MemPlace} (ht : P.underlying t = some (.slice e)) (he : P.underlying e = some (.int k)) (hc : P.cellsOf e = 1)
    (h : DataW.trod enc P w base spare held fuel t cs = some x) :
    ∃ (a : Option Addr) (cap : Nat) (xs : List Int), cs = [.slice a xs.length cap] ∧ xs.length ≤ 9223372036854775807 ∧ RowB w.heap.size w 1 a xs.length (fun j _ => .int k (xs.getD j 0)) ∧ ∀ n ∈ xs, (Lit.int k n).wf = true := by
  rcases open_ints ht he hc h with ⟨rfl, _⟩ | ⟨a, len, cap, zs, rfl, hb, hl, hm, hz, _, hcell, hw⟩
  · exact ⟨none, 0, [], rfl, by simp, fun i hi => by simp at hi, fun n hn => by cases hn⟩
  · have hle : len ≤ zs.length := by rw [hz]; split <;> omega
    have hlen : (zs.take len).length = len := by rw [List.length_take]; omega
    refine ⟨some a, cap, zs.take len, by rw [hlen], by rw [hlen]; unfold maxLen at hm; omega, fun i hi => ?_, fun n hn => hw n (List.mem_of_mem_take hn)⟩
    rw [hlen] at hi
    obtain ⟨b, off, sp⟩ := a
    have hci := hcell i (by omega)
    have hc0 := hcell 0 (by omega)
    have hsp : sp = none := by
      unfold World.cell? Addr.add at hc0
      split at hc0
      · cases sp with
        | none => rfl
        | some _ => simp at hc0
      · cases hc0
    subst hsp
    rw [addr_add] at hci
    refine ⟨b, off, rfl, World.block_lt_of_cell? w _ hci, fun j hj => ?_⟩
    have hj0 : j = 0 := by omega
    subst hj0
    rw [Nat.mul_one, Nat.add_zero, hci]
    simp [List.getD_eq_getElem?_getD, hi]
structure MemOk (arr : List (List Int)) (ctx : List Int) : Prop where
  la : arr.length ≤ 9223372036854775807
  lc : ctx.length ≤ 9223372036854775807
  lr : ∀ a ∈ arr, a.length ≤ 9223372036854775807
  u : ∀ a ∈ arr, u32s a
  uc : u32s ctx
set_option maxRecDepth 100000 in
set_option maxHeartbeats 1000000 in
theorem open_bytes {H : Type} {enc : TypeId × Value → H} {w : World} {base : Nat} {spare : Nat → Bool} {held : Bool} {r : Reach} {b0 : Nat} {v : Value} {d : DataW H} {p : List MemPlace}
    (hv : Value.okWide Try.prog w r b0 47 v) (h : DataW.Trod enc Try.prog w base spare held 47 v d p) :
    ∃ (a : Option Addr) (cap : Nat) (xs : List Int), v = .slice a xs.length cap ∧ xs.length ≤ 9223372036854775807 ∧ RowB w.heap.size w 1 a xs.length (fun j _ => .int .u8 (xs.getD j 0)) ∧ ∀ n ∈ xs, 0 ≤ n ∧ n < 256 := by
  obtain ⟨a, len, cap, rfl⟩ : ∃ a len cap, v = .slice a len cap := by
    have := okWide_slice (Try.underlying47) hv
    obtain ⟨a, len, cap, rfl⟩ := this
    exact ⟨a, len, cap, rfl⟩
  obtain ⟨n, hn⟩ := h
  obtain ⟨a', cap', xs, e, hl, hR, hw⟩ := open_nums (P := Try.prog) (e := 5) (k := .u8) (by kernel_rfl) (by kernel_rfl) (by kernel_rfl) hn
  have e' : [Value.slice a len cap] = [.slice a' xs.length cap'] := e
  simp only [List.cons.injEq, and_true] at e'
  exact ⟨a', cap', xs, e', hl, hR, fun n hn => wf_u8 (hw n hn)⟩
end Go.Proofs.Ytefdnjhhaejgbaa
