/- A part of the proof of MachineCalculates: Pure Pm Pn Reg Mem Rep Rep2 Rep3 Map Map2 Pt. No condition. -/
import Derived.BigQuiet
import Derived.Deep.AppendLies
import Derived.Deep.QuietTactic
import Derived.Lib.QuietBelow
import Derived.MapKept
import Derived.OrdersHeld
import Derived.StillTail
import Derived.WalkKit
namespace Go.Proofs.Ytefdnjhhaejgbaa
open Go.RowKit

/-- an instruction of compiled code -/
structure RI where
  op : Int
  to : Int
  a : Int
  b : Int
  arg : Int

/-- an array of a program -/
structure Ar where
  word : Bool
  size : Int

def RI.cells (i : RI) : List Value := [.int .i64 i.op, .int .i64 i.to, .int .i64 i.a, .int .i64 i.b, .int .u32 i.arg]
def RI.val (i : RI) : Value := .agg #[.int .i64 i.op, .int .i64 i.to, .int .i64 i.a, .int .i64 i.b, .int .u32 i.arg]
def Ar.val (i : Ar) : Value := .agg #[.bool i.word, .int .i64 i.size]

/-- the slice with address 'a' holds, cell by cell, n elements of 'size' cells -/
def RowAt (w : World) (size : Nat) (a : Option Addr) (n : Nat) (f : Nat → Nat → Value) : Prop :=
  ∀ i j, i < n → j < size → ∃ b off, a = some ⟨b, off, none⟩ ∧ w.cell? ⟨b, off + i * size + j, none⟩ = some (f i j)

def flagI (b : Bool) : Int := if b then 1 else 0
def hash32 (a b : Int) : Int :=
  bits .xor .u32 (IntKind.u32.wrap (bits .xor .u32 a (IntKind.u32.wrap (b * 2654435761)) * 2246822519)) (IntKind.u32.wrap (bits .xor .u32 a (IntKind.u32.wrap (b * 2654435761)) * 2246822519) / 65536)

/-- the arithmetic of an operation (8 to 26) -/
def arith (op a b : Int) : Int :=
  if op = 8 then (a + b) % 4294967296 else if op = 9 then (a - b) % 4294967296 else if op = 10 then (a * b) % 4294967296
  else if op = 11 then a / b else if op = 12 then a % b else if op = 13 then bits .and .u32 a b else if op = 14 then bits .or .u32 a b
  else if op = 15 then bits .xor .u32 a b else if op = 16 then a * 2 ^ (b % 32).toNat % 4294967296 else if op = 17 then a / 2 ^ (b % 32).toNat
  else if op = 18 then min a b else if op = 19 then max a b else if op = 20 then hash32 a b else if op = 21 then flagI (a == b)
  else if op = 22 then flagI (decide (a < b)) else if op = 23 then flagI (a == 0) else if op = 24 then flagI (a != 0 && b != 0)
  else if op = 25 then flagI (a != 0 || b != 0) else flagI (a != 0)

/-- the error of an operation of the arithmetic: 0 for none -/
def arithErr (op b : Int) : Int := if op < 8 ∨ 26 < op then 1 else if b = 0 ∧ (op = 11 ∨ op = 12) then 17 else 0

end Go.Proofs.Ytefdnjhhaejgbaa

namespace Go.Proofs.Ytefdnjhhaejgbaa
open Go.RowKit

/-- code that is executed: instructions, arrays, partners, and the call -/
structure MC where
  cd : List RI
  ars : List Ar
  regs : Nat
  spills : Nat
  pt : List Nat
  input : Int
  ended : Bool
  fuel : Int

/-- the state of a run -/
structure PS where
  regs : List Int
  spl : List Int
  arr : List (List Int)
  ctx : List Int
  loops : List (Nat × Int)
  out : List Int
  steps : Int
  pc : Nat

def RI.zero : RI := ⟨0, 0, 0, 0, 0⟩
instance : Inhabited RI := ⟨RI.zero⟩
instance : Inhabited Ar := ⟨⟨false, 0⟩⟩

def PS.get (s : PS) (r : Int) : Int := if r < 0 then 0 else s.regs.getD r.toNat 0
def PS.put (s : PS) (r v : Int) : PS := { s with regs := s.regs.set r.toNat v }

/-- which registers an operation uses -/
def usesTo (op : Int) : Bool := decide (op = 0 ∨ op = 32 ∨ op = 33 ∨ op = 38 ∨ op = 3 ∨ op = 23 ∨ op = 26 ∨ op = 36 ∨ (8 ≤ op ∧ op ≤ 25))
def usesA (op : Int) : Bool := decide (op = 3 ∨ op = 23 ∨ op = 26 ∨ op = 36 ∨ op = 27 ∨ op = 30 ∨ op = 29 ∨ op = 34 ∨ op = 35 ∨ op = 37 ∨ op = 4 ∨ (8 ≤ op ∧ op ≤ 25))
def usesB (op : Int) : Bool := decide (op = 4 ∨ (8 ≤ op ∧ op ≤ 25 ∧ op ≠ 23))
def isOp (op : Int) : Bool := decide (op = 0 ∨ op = 3 ∨ op = 4 ∨ (8 ≤ op ∧ op ≤ 38))

/-- the greatest Arg of an operation -/
def mostArg (nA spills : Int) (op : Int) : Int :=
  if op = 0 then 4294967295 else if op = 3 ∨ op = 4 then nA - 1 else if op = 35 then 15 else if op = 29 then 65536 else if op = 37 ∨ op = 38 then spills - 1 else 0

def rightReg (regs : Int) (n : Int) (used : Bool) : Bool := if used then decide (0 ≤ n ∧ n < regs) else decide (n = -1)

/-- the error of an instruction -/
def chkI (regs spills nA : Int) (i : RI) : Int :=
  if isOp i.op = false then 1
  else if rightReg regs i.to (usesTo i.op) = false ∨ rightReg regs i.a (usesA i.op) = false ∨ rightReg regs i.b (usesB i.op) = false ∨ mostArg nA spills i.op < i.arg then 2 else 0

/-- one step is counted, or the fuel is used up -/
def tick (c : MC) (s : PS) : Except Int PS := if s.steps < c.fuel then .ok { s with steps := s.steps + 1 } else .error 19

/-- what an instruction does, but for the place's own step forward -/
def effect (c : MC) (s : PS) (i : RI) : Except Int PS :=
  if i.op = 0 then .ok (s.put i.to i.arg)
  else if i.op = 36 then .ok (s.put i.to (s.get i.a))
  else if i.op = 37 then .ok { s with spl := s.spl.set i.arg.toNat (s.get i.a) }
  else if i.op = 38 then .ok (s.put i.to (s.spl.getD i.arg.toNat 0))
  else if i.op = 32 then .ok (s.put i.to c.input)
  else if i.op = 33 then .ok (s.put i.to (if c.ended then 1 else 0))
  else if i.op = 34 then (if s.out.length < 65536 then .ok { s with out := s.out ++ [s.get i.a % 256] } else .error 5)
  else if i.op = 35 then .ok { s with ctx := s.ctx.set i.arg.toNat (s.get i.a) }
  else if i.op = 3 then
    (if (s.get i.a).toNat < (s.arr.getD i.arg.toNat []).length then .ok (s.put i.to ((s.arr.getD i.arg.toNat []).getD (s.get i.a).toNat 0)) else .error 16)
  else if i.op = 4 then
    (if (s.get i.a).toNat < (s.arr.getD i.arg.toNat []).length then
      .ok { s with arr := s.arr.set i.arg.toNat ((s.arr.getD i.arg.toNat []).set (s.get i.a).toNat (if (c.ars.getD i.arg.toNat default).word then s.get i.b else s.get i.b % 256)) } else .error 16)
  else if i.op = 27 then .ok (if s.get i.a = 0 then { s with pc := c.pt.getD s.pc 0 } else s)
  else if i.op = 28 then .ok { s with pc := c.pt.getD s.pc 0 }
  else if i.op = 29 then
    (if i.arg < s.get i.a then .error 18 else if s.get i.a = 0 then .ok { s with pc := c.pt.getD s.pc 0 } else tick c { s with loops := s.loops ++ [(s.pc, s.get i.a)] })
  else if i.op = 30 then .ok (if s.get i.a = 0 then s else { s with pc := c.pt.getD s.pc 0, loops := s.loops.dropLast })
  else if i.op = 31 then
    (match s.loops.getLast? with
      | none => .ok s
      | some (b, l) => if c.pt.getD b 0 ≠ s.pc then .ok s else if l = 1 then .ok { s with loops := s.loops.dropLast }
        else tick c { s with loops := s.loops.dropLast ++ [(b, l - 1)], pc := b })
  else (if arithErr i.op (s.get i.b) = 0 then .ok (s.put i.to (arith i.op (s.get i.a) (s.get i.b))) else .error (arithErr i.op (s.get i.b)))

/-- the instruction at the current place -/
def mstep (c : MC) (s : PS) : Except Int PS :=
  let i := c.cd.getD s.pc default
  (if i.op ≠ 28 ∧ i.op ≠ 31 then tick c s else .ok s) |>.bind fun s => (effect c s i).bind fun s => .ok { s with pc := s.pc + 1 }

/-- a run, with so many rounds at most -/
def mrun (c : MC) : Nat → PS → Except Int PS
  | 0, s => .ok s
  | n + 1, s => if s.pc < c.cd.length then (mstep c s).bind (mrun c n) else .ok s

end Go.Proofs.Ytefdnjhhaejgbaa

namespace Go.Proofs.Ytefdnjhhaejgbaa
open Go.RowKit

/-- a block that is open -/
structure NB where
  loop : Bool
  within : Bool
  other : Bool
deriving DecidableEq

def nbTop (o : List NB) : NB := o.getLast?.getD ⟨false, false, false⟩

/-- the open blocks behind an operation; none: it is not nested correctly -/
def nestStep (op : Int) (o : List NB) : Option (List NB) :=
  if op = 27 then (if o.length < 8 then some (o ++ [⟨false, (nbTop o).within, false⟩]) else none)
  else if op = 29 then (if o.length < 8 then some (o ++ [⟨true, true, false⟩]) else none)
  else if op = 28 then (if o ≠ [] ∧ (nbTop o).loop = false ∧ (nbTop o).other = false then some (o.dropLast ++ [⟨(nbTop o).loop, (nbTop o).within, true⟩]) else none)
  else if op = 30 then (if (nbTop o).within = true then some o else none)
  else if op = 31 then (if o ≠ [] then some o.dropLast else none)
  else some o

/-- the place of the first instruction that is not nested correctly; false: there is none -/
def nestRun : List RI → Nat → List NB → Int × Bool
  | [], k, o => (k, decide (0 < o.length))
  | i :: l, k, o => match nestStep i.op o with
    | some o' => nestRun l (k + 1) o'
    | none => (k, true)

theorem nestStep_len {op : Int} {o o' : List NB} (h : nestStep op o = some o') (hl : o.length ≤ 8) : o'.length ≤ 8 := by
  unfold nestStep at h
  (repeat' split at h) <;> first | (cases h; done) | (cases h; simp_all; try omega) | (simp at h)
  all_goals (try (subst h)) <;> simp_all <;> omega

theorem nest_next (cd : List RI) (k : Nat) (hk : k < cd.length) (o o' : List NB) (h : nestStep (cd.getD k default).op o = some o') : nestRun (cd.drop k) k o = nestRun (cd.drop (k + 1)) (k + 1) o' := by
  rw [List.drop_eq_getElem_cons hk, nestRun]
  rw [List.getD_eq_getElem?_getD, List.getElem?_eq_getElem hk, Option.getD_some] at h
  rw [h]
theorem nest_bad (cd : List RI) (k : Nat) (hk : k < cd.length) (o : List NB) (h : nestStep (cd.getD k default).op o = none) : nestRun (cd.drop k) k o = ((k : Int), true) := by
  rw [List.drop_eq_getElem_cons hk, nestRun]
  rw [List.getD_eq_getElem?_getD, List.getElem?_eq_getElem hk, Option.getD_some] at h
  rw [h]
theorem nest_end (cd : List RI) (o : List NB) : nestRun (cd.drop cd.length) cd.length o = ((cd.length : Int), decide (0 < o.length)) := by
  rw [List.drop_length, nestRun]

def flatNB (o : List NB) : List Value := o.flatMap fun b => [.bool b.loop, .bool b.within, .bool b.other]
theorem flatNB_snoc (l : List NB) (p : NB) : flatNB (l ++ [p]) = flatNB l ++ [.bool p.loop, .bool p.within, .bool p.other] := by simp [flatNB]
theorem flatNB_length (l : List NB) : (flatNB l).length = l.length * 3 := by
  induction l with
  | nil => rfl
  | cons p l ih => simp only [flatNB, List.flatMap_cons, List.length_append, List.length_cons, List.length_nil] at *; omega
theorem nbTop_snoc (l : List NB) (p : NB) : nbTop (l ++ [p]) = p := by simp [nbTop]

/-- arrays: the error, and the sum of the sizes -/
def chkArs : List Ar → Int → Option Int
  | [], n => some n
  | a :: l, n => if a.size < 1 ∨ 65536 < a.size then none else chkArs l (n + a.size)

/-- the instructions: the place and the error of the first that is not in order -/
def chkAll (regs spills nA : Int) : List RI → Nat → Option (Int × Int)
  | [], _ => none
  | i :: l, k => if chkI regs spills nA i ≠ 0 then some ((k : Int), chkI regs spills nA i) else chkAll regs spills nA l (k + 1)

/-- **CHECK OF CODE** -/
def chkCode (ars : List Ar) (regs spills : Int) (cd : List RI) : Int × Int :=
  if 8 < ars.length then (0, 6) else
  match chkArs ars 0 with
  | none => (0, 2)
  | some n => if 65536 < n ∨ regs < 0 ∨ 1024 < regs ∨ spills < 0 ∨ 1024 < spills then (0, 2) else
    if 16384 < cd.length then (0, 6) else
    match chkAll regs spills ars.length cd 0 with
    | some r => r
    | none => if (nestRun cd 0 []).2 then ((nestRun cd 0 []).1, 15) else (0, 0)

end Go.Proofs.Ytefdnjhhaejgbaa

namespace Go.Proofs.Ytefdnjhhaejgbaa
open Go.RowKit

section
variable {P : Program} {ops : Array Oper} {Q : Exit → Act → World → Prop} {md : Region.Mode} {S : World → Prop} {fl : List Nat}

/-- operation j comes behind operation i, by the region's edges -/
def reach (md : Region.Mode) (ops : Array Oper) : Nat → Nat → Nat → Bool
  | 0, _, _ => false
  | n + 1, j, i => match ops[j]? with
    | none => false
    | some o => o.after.any fun e => Region.binds md e && (e.on == i || reach md ops n e.on i)

/-- operation j comes behind all floats -/
def sees (md : Region.Mode) (ops : Array Oper) (fl : List Nat) (j : Nat) : Bool := fl.all fun i => reach md ops ops.size j i

def Closed (md : Region.Mode) (ops : Array Oper) (listed : Array Bool) : Prop :=
  ∀ j oj, ops[j]? = some oj → listed.getD j false = true → ∀ e ∈ oj.after, Region.binds md e = true → listed.getD e.on false = true

theorem closed_none (n : Nat) : Closed md ops (Array.replicate n false) := fun j _ _ hl => by
  rw [getD_replicate_false] at hl; cases hl

theorem Closed.set {i : Nat} {listed : Array Bool} (h : Closed md ops listed) (hi : i ∈ Region.ready md ops listed) : Closed md ops (listed.setIfInBounds i true) := by
  obtain ⟨_, oi, hoi, hall⟩ := mem_ready.1 hi
  intro j oj hj hl e he hb
  by_cases hij : i = j
  · subst hij
    have : oj = oi := Option.some.inj (hj.symm.trans hoi)
    subst this
    exact getD_set_true (hall e he hb)
  · rw [getD_set_ne false hij] at hl
    exact getD_set_true (h j oj hj hl e he hb)

theorem Closed.reach {listed : Array Bool} (h : Closed md ops listed) : ∀ (n j i : Nat), listed.getD j false = true → reach md ops n j i = true → listed.getD i false = true
  | 0, _, _, _, hr => by simp [Proofs.Ytefdnjhhaejgbaa.reach] at hr
  | n + 1, j, i, hl, hr => by
    unfold Proofs.Ytefdnjhhaejgbaa.reach at hr
    split at hr
    · cases hr
    · rename_i o ho
      obtain ⟨e, he, hb⟩ := Array.any_eq_true'.1 hr
      simp only [Bool.and_eq_true, Bool.or_eq_true, beq_iff_eq] at hb
      have h1 := h j o ho hl e he hb.1
      rcases hb.2 with rfl | h2
      · exact h1
      · exact Closed.reach h n e.on i h1 h2

theorem Closed.reach_ready {listed : Array Bool} (h : Closed md ops listed) {n j i : Nat} (hj : j ∈ Region.ready md ops listed) (hr : Proofs.Ytefdnjhhaejgbaa.reach md ops n j i = true) : listed.getD i false = true := by
  obtain ⟨_, oj, hoj, hall⟩ := mem_ready.1 hj
  cases n with
  | zero => simp [Proofs.Ytefdnjhhaejgbaa.reach] at hr
  | succ n =>
    unfold Proofs.Ytefdnjhhaejgbaa.reach at hr
    rw [hoj] at hr
    obtain ⟨e, he, hb⟩ := Array.any_eq_true'.1 hr
    simp only [Bool.and_eq_true, Bool.or_eq_true, beq_iff_eq] at hb
    have h1 := hall e he hb.1
    rcases hb.2 with rfl | h2
    · exact h1
    · exact h.reach n e.on i h1 h2

/-- whatever order is picked from here on; behind an operation that does not come behind all floats the class holds, or nothing has turned -/
def wpMix (P : Program) (md : Region.Mode) (ops : Array Oper) (Q : Exit → Act → World → Prop) (S : World → Prop) (fl pu : List Nat) : Nat → Array Bool → Act → World → Prop
  | 0, listed, a, w => Region.ready md ops listed = [] ∧ Q .normal a w
  | fuel + 1, listed, a, w =>
    (Region.ready md ops listed = [] → Q .normal a w) ∧
    ∀ i ∈ Region.ready md ops listed, wpOp P ops Q i (fun a' w' => (sees md ops fl i = false → (pu.contains i = true ∧ w' = w) ∨ S w') ∧ wpMix P md ops Q S fl pu fuel (listed.setIfInBounds i true) a' w') a w

theorem wpAny_of_mix {pu : List Nat} : ∀ (fuel : Nat) (listed : Array Bool) (a : Act) (w : World), wpMix P md ops Q S fl pu fuel listed a w → wpAny P md ops Q fuel listed a w
  | 0, _, _, _, h => h
  | fuel + 1, _, _, _, h => ⟨h.1, fun i hi => wpOp_mono (fun a' w' h' => wpAny_of_mix fuel _ a' w' h'.2) (h.2 i hi)⟩

theorem wpMix_first {pu : List Nat} {i : Nat} {oi : Oper} {v : Value} (hi : ops[i]? = some oi) (hfl : i ∈ fl) (hsel : ∀ (j : Nat) (o : Oper) cs b, ops[j]? = some o → o.op ≠ .select cs b)
    (hQ : ∀ c a w, Q (.panic c) (a.put oi.dst v) w → Q (.panic c) a w) :
    ∀ (fuel : Nat) (listed : Array Bool) (a : Act) (w : World), Closed md ops listed →
      (∀ j oj, ops[j]? = some oj → j ≠ i → listed.getD j true = false → (∀ e ∈ oj.after, Region.binds md e = true → e.on ≠ i) → oi.apart ops oj = true) →
      i ∈ Region.ready md ops listed → YieldsIf P ops S oi v a → S w →
      wpMix P md ops Q S fl pu fuel (listed.setIfInBounds i true) (a.put oi.dst v) w → wpMix P md ops Q S fl pu (fuel + 1) listed a w := by
  intro fuel
  induction fuel with
  | zero =>
    intro listed a w _ _ hr hy hS H
    refine ⟨fun h => (by rw [h] at hr; cases hr), fun j hj => ?_⟩
    by_cases hji : j = i
    · subst hji; exact hy.wpOp hi hS ⟨fun _ => .inr hS, H⟩
    · have := ready_mono hj hji
      rw [H.1] at this
      cases this
  | succ fuel ih =>
    intro listed a w hcl hfree hr hy hS H
    refine ⟨fun h => (by rw [h] at hr; cases hr), fun j hj => ?_⟩
    by_cases hji : j = i
    · subst hji; exact hy.wpOp hi hS ⟨fun _ => .inr hS, H⟩
    · have h1 := H.2 j (ready_mono hj hji)
      obtain ⟨hjun, oj, hoj, hall⟩ := mem_ready.1 hj
      have hiun : listed.getD i false = false := getD_both (mem_ready.1 hr).1
      have hnot : ∀ e ∈ oj.after, Region.binds md e = true → e.on ≠ i := fun e he hb heq => by
        have h1 := hall e he hb
        rw [heq, hiun] at h1
        cases h1
      have hsee : sees md ops fl j = false := by
        cases hs : sees md ops fl j with
        | false => rfl
        | true =>
          have h3 := hcl.reach_ready hj (List.all_eq_true.1 hs i hfl)
          rw [hiun] at h3
          cases h3
      have h2 := wpOp_putIf hoj (hfree j oj hoj hji hjun hnot) (fun cs b => hsel i oi cs b hi) (fun cs b => hsel j oj cs b hoj) hQ hy h1
      have hfree' : ∀ k ok, ops[k]? = some ok → k ≠ i → (listed.setIfInBounds j true).getD k true = false →
          (∀ e ∈ ok.after, Region.binds md e = true → e.on ≠ i) → oi.apart ops ok = true := fun k ok hk hki hun hno => by
        refine hfree k ok hk hki ?_ hno
        by_cases hjk : j = k
        · subst hjk; exact hjun
        · rw [getD_set_ne true hjk] at hun; exact hun
      refine wpOp_mono (fun a' w' h3 => ⟨h3.2.1, ih (listed.setIfInBounds j true) a' w' (hcl.set hj) hfree' (ready_mono hr (Ne.symm hji)) h3.1 ?_ ?_⟩) h2
      · rcases h3.2.1 hsee with ⟨_, hw⟩ | hw
        · rw [hw]; exact hS
        · exact hw
      · rw [Array.setIfInBounds_comm _ _ hji]
        exact h3.2.2

/-- a float that looks at no world at all -/
theorem wpMix_first_pure {pu : List Nat} {i : Nat} {oi : Oper} {v : Value} (hi : ops[i]? = some oi) (hpu : pu.contains i = true) (hsel : ∀ (j : Nat) (o : Oper) cs b, ops[j]? = some o → o.op ≠ .select cs b)
    (hQ : ∀ c a w, Q (.panic c) (a.put oi.dst v) w → Q (.panic c) a w) :
    ∀ (fuel : Nat) (listed : Array Bool) (a : Act) (w : World),
      (∀ j oj, ops[j]? = some oj → j ≠ i → listed.getD j true = false → (∀ e ∈ oj.after, Region.binds md e = true → e.on ≠ i) → oi.apart ops oj = true) →
      i ∈ Region.ready md ops listed → YieldsIf P ops (fun _ => True) oi v a →
      wpMix P md ops Q S fl pu fuel (listed.setIfInBounds i true) (a.put oi.dst v) w → wpMix P md ops Q S fl pu (fuel + 1) listed a w := by
  intro fuel
  induction fuel with
  | zero =>
    intro listed a w _ hr hy H
    refine ⟨fun h => (by rw [h] at hr; cases hr), fun j hj => ?_⟩
    by_cases hji : j = i
    · subst hji; exact hy.wpOp hi trivial ⟨fun _ => .inl ⟨hpu, rfl⟩, H⟩
    · have := ready_mono hj hji
      rw [H.1] at this
      cases this
  | succ fuel ih =>
    intro listed a w hfree hr hy H
    refine ⟨fun h => (by rw [h] at hr; cases hr), fun j hj => ?_⟩
    by_cases hji : j = i
    · subst hji; exact hy.wpOp hi trivial ⟨fun _ => .inl ⟨hpu, rfl⟩, H⟩
    · have h1 := H.2 j (ready_mono hj hji)
      obtain ⟨hjun, oj, hoj, hall⟩ := mem_ready.1 hj
      have hiun : listed.getD i false = false := getD_both (mem_ready.1 hr).1
      have hnot : ∀ e ∈ oj.after, Region.binds md e = true → e.on ≠ i := fun e he hb heq => by
        have h1 := hall e he hb
        rw [heq, hiun] at h1
        cases h1
      have h2 := wpOp_putIf hoj (hfree j oj hoj hji hjun hnot) (fun cs b => hsel i oi cs b hi) (fun cs b => hsel j oj cs b hoj) hQ hy h1
      have hfree' : ∀ k ok, ops[k]? = some ok → k ≠ i → (listed.setIfInBounds j true).getD k true = false →
          (∀ e ∈ ok.after, Region.binds md e = true → e.on ≠ i) → oi.apart ops ok = true := fun k ok hk hki hun hno => by
        refine hfree k ok hk hki ?_ hno
        by_cases hjk : j = k
        · subst hjk; exact hjun
        · rw [getD_set_ne true hjk] at hun; exact hun
      refine wpOp_mono (fun a' w' h3 => ⟨h3.2.1, ih (listed.setIfInBounds j true) a' w' hfree' (ready_mono hr (Ne.symm hji)) h3.1 ?_⟩) h2
      rw [Array.setIfInBounds_comm _ _ hji]
      exact h3.2.2

/-- one float: one value, in every world of the class, which stays as it is -/
def floatOp (P : Program) (o : Oper) (a : Act) (S : World → Prop) (next : Act → Prop) : Prop :=
  ∃ v, (∀ w, S w → (execOp a.eval o).run P w = .ok (.value v) w) ∧ next (a.put o.dst v)
/-- .. in whatever world -/
def pureOp (P : Program) (o : Oper) (a : Act) (next : Act → Prop) : Prop :=
  ∃ v, (∀ w, (execOp a.eval o).run P w = .ok (.value v) w) ∧ next (a.put o.dst v)

/-- a plan: the operations in the order in which they are taken; 0: one that is carried out; 1: a float; 2: a float that looks at no world -/
def wpPlan (P : Program) (md : Region.Mode) (ops : Array Oper) (Q : Exit → Act → World → Prop) (S : World → Prop) (fl : List Nat) : List (Nat × Nat × Oper) → Act → World → Prop
  | [], a, w => Q .normal a w
  | (0, j, o) :: rest, a, w =>
    if sees md ops fl j then wpList P ops (Exit.then (fun a' w' => wpPlan P md ops Q S fl rest a' w') Q) [o] a w
    else wpList P ops (Exit.then (fun a' w' => S w' ∧ wpPlan P md ops Q S fl rest a' w') Q) [o] a w
  | (1, _, o) :: rest, a, w => if Region.wanted o (yielded ops a.tmps) then floatOp P o a S (fun a' => wpPlan P md ops Q S fl rest a' w) else wpPlan P md ops Q S fl rest (a.put o.dst undef) w
  | (_ + 2, _, o) :: rest, a, w => if Region.wanted o (yielded ops a.tmps) then pureOp P o a (fun a' => wpPlan P md ops Q S fl rest a' w) else wpPlan P md ops Q S fl rest (a.put o.dst undef) w

def planB (md : Region.Mode) (ops : Array Oper) (fl pu : List Nat) : List (Nat × Nat) → Array Bool → Bool
  | [], listed => (Region.ready md ops listed).isEmpty
  | (0, j) :: rest, listed => decide (Region.ready md ops listed = [j]) && (!sees md ops fl j || rest.all (·.1 != 1)) && planB md ops fl pu rest (listed.setIfInBounds j true)
  | (1, i) :: rest, listed => (Region.ready md ops listed).contains i && Region.free md ops listed i && fl.contains i && planB md ops fl pu rest (listed.setIfInBounds i true)
  | (_ + 2, i) :: rest, listed => (Region.ready md ops listed).contains i && Region.free md ops listed i && pu.contains i && planB md ops fl pu rest (listed.setIfInBounds i true)

def getPlan (ops : Array Oper) (l : List (Nat × Nat)) : List (Nat × Nat × Oper) := l.filterMap fun (b, j) => (ops[j]?).map (b, j, ·)

def mixB (md : Region.Mode) (ops : Array Oper) (fl pu : List Nat) (l : List (Nat × Nat)) : Bool :=
  Region.noSelect ops && decide (l.length = ops.size) && l.all (fun i => decide (i.2 < ops.size)) && planB md ops fl pu l (Array.replicate ops.size false)

theorem wpList_one_mono {o : Oper} {R R' : Exit → Act → World → Prop} {a : Act} {w : World} (hn : ∀ a w, R .normal a w → R' .normal a w) (he : ∀ e a w, e ≠ .normal → R e a w → R' e a w)
    (h : wpList P ops R [o] a w) : wpList P ops R' [o] a w := by
  have hwp : ∀ {a w}, o.wp P a w (wpList P ops R []) R → o.wp P a w (wpList P ops R' []) R' := by
    intro a w hh
    unfold Oper.wp at *
    generalize (execOp a.eval o).run P w = r at *
    cases r with
    | ok n w' =>
      cases n <;> simp only [Oper.upon] at hh ⊢ <;>
        first
          | exact hn _ _ hh
          | exact Calls.mono hh (fun e w'' hx => by
              cases e with
              | returned u => exact hn _ _ hx
              | panicked c => exact he _ _ _ (by simp) hx
              | outgrown => obtain ⟨a0, w0, hq⟩ := hx; exact ⟨a0, w0, he _ _ _ (by simp) hq⟩)
          | exact Rows.mono hh (fun _ _ hx => hn _ _ hx)
    | halt x w' =>
      cases x <;> simp only [Oper.upon] at hh ⊢ <;> first | exact hh | exact he _ _ _ (by simp) hh
  unfold wpList at *
  split
  · rename_i hw
    rw [if_pos hw] at h
    rcases h with h | ⟨h, a0, w0, hq⟩
    · exact .inl (hwp h)
    · exact .inr ⟨h, a0, w0, he _ _ _ (by simp) hq⟩
  · rename_i hw
    rw [if_neg hw] at h
    exact hn _ _ h

theorem wpOp_of_one {j : Nat} {o : Oper} {K : Act → World → Prop} {a : Act} {w : World} (hj : ops[j]? = some o) (h : wpList P ops (Exit.then K Q) [o] a w) : wpOp P ops Q j K a w := by
  unfold wpOp
  simp only [hj]
  have hwp : ∀ {a w}, o.wp P a w (wpList P ops (Exit.then K Q) []) (Exit.then K Q) → o.wp P a w K Q := by
    intro a w hh
    unfold Oper.wp at *
    generalize (execOp a.eval o).run P w = r at *
    cases r with
    | ok n w' =>
      cases n <;> simp only [Oper.upon] at hh ⊢ <;>
        first
          | exact hh
          | exact Calls.mono hh (fun e w'' hx => by
              cases e with
              | returned u => exact hx
              | panicked c => exact hx
              | outgrown => obtain ⟨a0, w0, hq⟩ := hx; exact ⟨a0, w0, hq⟩)
          | exact Rows.mono hh (fun _ _ hx => hx)
    | halt x w' => cases x <;> simp only [Oper.upon] at hh ⊢ <;> exact hh
  unfold wpList at h
  split
  · rename_i hw
    rw [if_pos hw] at h
    rcases h with h | ⟨h, a0, w0, hq⟩
    · exact .inl (hwp h)
    · exact .inr ⟨h, a0, w0, hq⟩
  · rename_i hw
    rw [if_neg hw] at h
    exact h

theorem wpMix_of_plan {pu : List Nat} (hsel : Region.noSelect ops = true) (hQ : ∀ c (a : Act) d v w, Q (.panic c) (a.put d v) w → Q (.panic c) a w) : ∀ (l : List (Nat × Nat)) (listed : Array Bool) (a : Act) (w : World),
    (∀ j ∈ l, j.2 < ops.size) → Closed md ops listed → planB md ops fl pu l listed = true → (S w ∨ l.all (·.1 != 1) = true) →
    wpPlan P md ops Q S fl (getPlan ops l) a w → wpMix P md ops Q S fl pu l.length listed a w
  | [], _, _, _, _, _, hB, _, h => ⟨by simpa [planB] using hB, h⟩
  | (1, i) :: l, listed, a, w, hlt, hc, hB, hS, h => by
    simp only [planB, Bool.and_eq_true] at hB
    obtain ⟨⟨⟨hr, hf⟩, hfl⟩, hB'⟩ := hB
    have hS' : S w := hS.resolve_right (by simp)
    have hi : ops[i]? = some ops[i]! := by
      have := hlt (1, i) (by simp)
      simp at this
      simp [this]
    have hg : getPlan ops ((1, i) :: l) = (1, i, ops[i]!) :: getPlan ops l := by simp only [getPlan, List.filterMap_cons, hi]; rfl
    rw [hg] at h
    have hr' : i ∈ Region.ready md ops listed := by simpa using hr
    have next : ∀ a', wpPlan P md ops Q S fl (getPlan ops l) a' w → wpMix P md ops Q S fl pu l.length (listed.setIfInBounds i true) a' w := fun a' ha' =>
      wpMix_of_plan hsel hQ l _ a' w (fun k hk => hlt k (by simp [hk])) (hc.set hr') hB' (.inl hS') ha'
    simp only [List.length_cons]
    unfold wpPlan at h
    split at h
    · rename_i hw
      obtain ⟨v, h1, h2⟩ := h
      exact wpMix_first hi (by simpa using hfl) (Region.noSelect_spec hsel) (fun c a w => hQ c a _ v w) _ listed a w hc (Region.free_spec hi hf) hr' (.inl ⟨hw, h1⟩) hS' (next _ h2)
    · rename_i hw
      exact wpMix_first hi (by simpa using hfl) (Region.noSelect_spec hsel) (fun c a w => hQ c a _ undef w) _ listed a w hc (Region.free_spec hi hf) hr' (.inr ⟨by simpa using hw, rfl⟩) hS' (next _ h)
  | (k + 2, i) :: l, listed, a, w, hlt, hc, hB, hS, h => by
    simp only [planB, Bool.and_eq_true] at hB
    obtain ⟨⟨⟨hr, hf⟩, hpu⟩, hB'⟩ := hB
    have hS' : S w ∨ l.all (·.1 != 1) = true := hS.imp id (fun h => by simp only [List.all_cons, Bool.and_eq_true] at h; exact h.2)
    have hi : ops[i]? = some ops[i]! := by
      have := hlt (k + 2, i) (by simp)
      simp at this
      simp [this]
    have hg : getPlan ops ((k + 2, i) :: l) = (k + 2, i, ops[i]!) :: getPlan ops l := by simp only [getPlan, List.filterMap_cons, hi]; rfl
    rw [hg] at h
    have hr' : i ∈ Region.ready md ops listed := by simpa using hr
    have next : ∀ a', wpPlan P md ops Q S fl (getPlan ops l) a' w → wpMix P md ops Q S fl pu l.length (listed.setIfInBounds i true) a' w := fun a' ha' =>
      wpMix_of_plan hsel hQ l _ a' w (fun k hk => hlt k (by simp [hk])) (hc.set hr') hB' hS' ha'
    simp only [List.length_cons]
    unfold wpPlan at h
    split at h
    · rename_i hw
      obtain ⟨v, h1, h2⟩ := h
      exact wpMix_first_pure hi hpu (Region.noSelect_spec hsel) (fun c a w => hQ c a _ v w) _ listed a w (Region.free_spec hi hf) hr' (.inl ⟨hw, fun w _ => h1 w⟩) (next _ h2)
    · rename_i hw
      exact wpMix_first_pure hi hpu (Region.noSelect_spec hsel) (fun c a w => hQ c a _ undef w) _ listed a w (Region.free_spec hi hf) hr' (.inr ⟨by simpa using hw, rfl⟩) (next _ h)
  | (0, j) :: l, listed, a, w, hlt, hc, hB, hS, h => by
    simp only [planB, Bool.and_eq_true, decide_eq_true_eq] at hB
    obtain ⟨⟨hr, hs2⟩, hB'⟩ := hB
    have hj : ops[j]? = some ops[j]! := by
      have := hlt (0, j) (by simp)
      simp at this
      simp [this]
    have hg : getPlan ops ((0, j) :: l) = (0, j, ops[j]!) :: getPlan ops l := by simp only [getPlan, List.filterMap_cons, hj]; rfl
    rw [hg] at h
    have hr' : j ∈ Region.ready md ops listed := by rw [hr]; simp
    refine ⟨fun h0 => (by rw [hr] at h0; cases h0), fun i hi => ?_⟩
    rw [hr] at hi
    have hij : i = j := by simpa using hi
    subst hij
    refine wpOp_of_one hj ?_
    unfold wpPlan at h
    split at h
    · rename_i hs
      have hno : l.all (·.1 != 1) = true := by simpa [hs] using hs2
      refine wpList_one_mono (fun a' w' hx => ⟨fun h0 => (by rw [hs] at h0; cases h0), wpMix_of_plan hsel hQ l _ a' w' (fun k hk => hlt k (by simp [hk])) (hc.set hr') hB' (.inr hno) hx⟩) (fun e a' w' hne hx => ?_) h
      cases e <;> first | exact absurd rfl hne | exact hx
    · refine wpList_one_mono (fun a' w' hx => ⟨fun _ => .inr hx.1, wpMix_of_plan hsel hQ l _ a' w' (fun k hk => hlt k (by simp [hk])) (hc.set hr') hB' (.inl hx.1) hx.2⟩) (fun e a' w' hne hx => ?_) h
      cases e <;> first | exact absurd rfl hne | exact hx

/-- **THE REGION**: its operations in the order of the plan. -/
theorem wp_region_mix {id : Nat} {l : List Oper} {a : Act} {w : World} (S : World → Prop) (fl pu : List Nat) (pl : List (Nat × Nat)) (hm : P.follows .mixedOrders = true) (hB : mixB .any l.toArray fl pu pl = true)
    (hQ : ∀ c (a : Act) d v w, Q (.panic c) (a.put d v) w → Q (.panic c) a w) (hS : S w.drew)
    (h : wpPlan P .any l.toArray Q S fl (getPlan l.toArray pl) a w.drew) : (Code.region id l.toArray true).wp P Q a w := by
  simp only [mixB, Bool.and_eq_true, decide_eq_true_eq] at hB
  obtain ⟨⟨⟨hsel, hlen⟩, hpl⟩, hrest⟩ := hB
  have hpl' : ∀ j ∈ pl, j.2 < l.toArray.size := fun j hj => of_decide_eq_true (List.all_eq_true.1 hpl j hj)
  refine wp_region_any hm (wpAny_of_mix (S := S) (fl := fl) (pu := pu) _ _ _ _ ?_)
  have := wpMix_of_plan (P := P) (md := .any) (Q := Q) (S := S) (fl := fl) (pu := pu) hsel hQ pl _ a w.drew hpl' (closed_none _) hrest (.inl hS) h
  rw [hlen] at this
  exact this

/-- a world that meets F (a structure of its own, so that simp leaves it whole) -/
structure CWorld (F : World → Prop) where
  w : World
  h : F w
/-- the class of the worlds that meet F -/
abbrev Cls (F : World → Prop) : World → Prop := fun w' => ∃ p : CWorld F, w' = p.w

/-- the class: the world as it was, but for draws and new blocks -/
abbrev Grew (w : World) : World → Prop := fun w' => ∃ p : Regrown, w' = Go.Sort.grow (redrawn w p.d) p.os

theorem grew_below {w w' : World} (h : Below w.heap.size w w') : Grew w w' := regrown_of_below h

/-- the region, at that class -/
theorem wp_region_grew {id : Nat} {l : List Oper} {a : Act} {w : World} (fl pu : List Nat) (pl : List (Nat × Nat)) (hm : P.follows .mixedOrders = true) (hB : mixB .any l.toArray fl pu pl = true)
    (hQ : ∀ c (a : Act) d v w, Q (.panic c) (a.put d v) w → Q (.panic c) a w)
    (h : wpPlan P .any l.toArray Q (Grew w) fl (getPlan l.toArray pl) a w.drew) : (Code.region id l.toArray true).wp P Q a w :=
  wp_region_mix (Grew w) fl pu pl hm hB hQ (grew_below (Below.refl _ _).drew) h

theorem wpPlan_nil {a : Act} {w : World} (h : Q .normal a w) : wpPlan P md ops Q S fl [] a w := h
theorem wpPlan_float {i : Nat} {a : Act} {w : World} {o : Oper} {rest : List (Nat × Nat × Oper)}
    (h : ∀ K : Act → Prop, (∀ a, wpPlan P md ops Q S fl rest a w → K a) → if Region.wanted o (yielded ops a.tmps) then floatOp P o a S K else K (a.put o.dst undef)) : wpPlan P md ops Q S fl ((1, i, o) :: rest) a w := by
  have := h _ (fun _ h => h)
  unfold wpPlan
  exact this
theorem wpPlan_pure {i : Nat} {a : Act} {w : World} {o : Oper} {rest : List (Nat × Nat × Oper)}
    (h : ∀ K : Act → Prop, (∀ a, wpPlan P md ops Q S fl rest a w → K a) → if Region.wanted o (yielded ops a.tmps) then pureOp P o a K else K (a.put o.dst undef)) : wpPlan P md ops Q S fl ((2, i, o) :: rest) a w := by
  have := h _ (fun _ h => h)
  unfold wpPlan
  exact this
/-- an operation that comes behind all floats -/
theorem wpPlan_sees {j : Nat} {o : Oper} {rest : List (Nat × Nat × Oper)} {a : Act} {w : World} (hs : sees md ops fl j = true) (h : wpList P ops (Exit.then (fun a' w' => wpPlan P md ops Q S fl rest a' w') Q) [o] a w) :
    wpPlan P md ops Q S fl ((0, j, o) :: rest) a w := by unfold wpPlan; rw [if_pos hs]; exact h
/-- any operation: the class is shown anew behind it -/
theorem wpPlan_keep {j : Nat} {o : Oper} {rest : List (Nat × Nat × Oper)} {a : Act} {w : World} (h : wpList P ops (Exit.then (fun a' w' => S w' ∧ wpPlan P md ops Q S fl rest a' w') Q) [o] a w) :
    wpPlan P md ops Q S fl ((0, j, o) :: rest) a w := by
  unfold wpPlan
  split
  · exact wpList_one_mono (fun _ _ hx => hx.2) (fun e _ _ hne hx => by cases e <;> first | exact absurd rfl hne | exact hx) h
  · exact h
/-- from here on all operations come behind all floats: a plain list -/
theorem wpPlan_tail : ∀ {rest : List (Nat × Nat × Oper)} {a : Act} {w : World}, (rest.all fun x => x.1 == 0 && sees md ops fl x.2.1) = true → wpList P ops Q (rest.map (·.2.2)) a w → wpPlan P md ops Q S fl rest a w
  | [], _, _, _, h => h
  | (1, j, o) :: rest, a, w, hs, h => by simp at hs
  | (k + 2, j, o) :: rest, a, w, hs, h => by simp at hs
  | (0, j, o) :: rest, a, w, hs, h => by
    simp only [List.all_cons, beq_self_eq_true, Bool.true_and, Bool.and_eq_true] at hs
    refine wpPlan_sees hs.1 ?_
    simp only [List.map_cons] at h
    have hwp : ∀ {a w}, o.wp P a w (wpList P ops Q (rest.map (·.2.2))) Q → o.wp P a w (wpList P ops (Exit.then (fun a' w' => wpPlan P md ops Q S fl rest a' w') Q) []) (Exit.then (fun a' w' => wpPlan P md ops Q S fl rest a' w') Q) := by
      intro a w hh
      unfold Oper.wp at *
      generalize (execOp a.eval o).run P w = r at *
      cases r with
      | ok n w' =>
        cases n <;> simp only [Oper.upon] at hh ⊢ <;>
          first
            | exact hh.elim
            | exact wpPlan_tail hs.2 hh
            | exact Calls.mono hh (fun e w'' hx => by
                cases e with
                | returned u => exact wpPlan_tail hs.2 hx
                | panicked c => exact hx
                | outgrown => obtain ⟨a0, w0, hq⟩ := hx; exact ⟨a0, w0, hq⟩)
            | exact Rows.mono hh (fun _ _ hx => wpPlan_tail hs.2 hx)
      | halt x w' => cases x <;> simp only [Oper.upon] at hh ⊢ <;> exact hh
    unfold wpList at h ⊢
    split
    · rename_i hw
      rw [if_pos hw] at h
      rcases h with h | ⟨h, a0, w0, hq⟩
      · exact .inl (hwp h)
      · exact .inr ⟨h, a0, w0, hq⟩
    · rename_i hw
      rw [if_neg hw] at h
      exact wpPlan_tail hs.2 h
end
attribute [irreducible] wpPlan
attribute [go_sem] floatOp pureOp

theorem grown_cell (W : World) (d : Nat) (os : Array Obj) (b j : Nat) (h : b < W.heap.size) : (Go.Sort.grow (redrawn W d) os).cell? ⟨b, j, none⟩ = W.cell? ⟨b, j, none⟩ :=
  (below_regrown W d os).cell (p := ⟨b, j, none⟩) h
theorem grown_cell_old (w : World) (o : Obj) (d : Nat) (os : Array Obj) (b j : Nat) (h : b < w.heap.size) : (Go.Sort.grow (redrawn (w.alloc o) d) os).cell? ⟨b, j, none⟩ = w.cell? ⟨b, j, none⟩ := by
  rw [grown_cell _ _ _ _ _ (by simp; omega), World.cell?_alloc_past _ _ _ h]
theorem grown_cell_new (w : World) (c : Array Value) (t : TypeId) (fr : Nat × Nat) (d : Nat) (os : Array Obj) (j : Nat) :
    (Go.Sort.grow (redrawn (w.alloc (.cells c t fr)) d) os).cell? ⟨w.heap.size, j, none⟩ = c[j]? := by
  rw [grown_cell _ _ _ _ _ (by simp)]
  show (match (w.heap.push (.cells c t fr))[w.heap.size]? with | some (.cells c _ _) => _ | _ => _) = _
  simp
theorem redrawn_drew (w : World) (d : Nat) : redrawn w.drew d = redrawn w d := rfl
theorem redrawn_drewN (w : World) (n d : Nat) : redrawn (w.drewN n) d = redrawn w d := rfl
attribute [go_sem] grown_cell grown_cell_old grown_cell_new redrawn_drew redrawn_drewN
end Go.Proofs.Ytefdnjhhaejgbaa

namespace Go.Proofs.Ytefdnjhhaejgbaa
open Go.RowKit
set_option linter.unusedVariables false

theorem below_setCell_both {B : Nat} {w w' : World} (h : Below B w w') (a : Addr) (v : Value) : Below B (w.setCell a v) (w'.setCell a v) := by
  refine ⟨h.os, h.tape, h.output, by simp [World.setCell]; exact h.size, fun k hk => ?_⟩
  simp only [World.setCell, Array.getElem?_modify]
  rw [h.block k hk]

theorem below_drewN {B : Nat} {a w : World} (h : Below B a w) (n : Nat) : Below B a (w.drewN n) := ⟨h.os, h.tape, h.output, h.size, h.block⟩

theorem below_undrew {w w' : World} (h : Below w.drew.heap.size w.drew w') : Below w.heap.size w w' := ⟨h.os, h.tape, h.output, h.size, h.block⟩

/-- behind a law that ends in 'grownBy', below a bound that lies below the row -/
theorem below_grown {B : Nat} {w w' : World} {row : Option Nat} (hg : w.grownBy w' row) (hB : B ≤ w.heap.size) (hr : ∀ k, row = some k → B ≤ k) : Below B w w' :=
  (Below.refl B w).grown hg hB hr

theorem grownBy_of_below {w w' : World} (h : Below w.heap.size w w') (row : Option Nat) : w.grownBy w' row := ⟨h.os, h.tape, h.output, h.size, fun k hk _ => h.block k hk⟩
theorem grownBy_trans {a b c : World} {row : Option Nat} (h : a.grownBy b row) (k : b.grownBy c row) : a.grownBy c row :=
  ⟨k.os.trans h.os, k.tape.trans h.tape, k.output.trans h.output, Nat.le_trans h.size k.size, fun i hi hr => (k.block i (Nat.lt_of_lt_of_le hi h.size) hr).trans (h.block i hi hr)⟩

theorem heap_new1 (w : World) (o1 : Obj) : (w.alloc o1).heap[w.heap.size]? = some o1 := heap_alloc_new w o1
theorem heap_new2 (w : World) (o1 o2 : Obj) : ((w.alloc o1).alloc o2).heap[w.heap.size + 1]? = some o2 := by
  have := heap_alloc_new (w.alloc o1) o2
  simpa using this

theorem bits_and_255 (v : Int) (h0 : 0 ≤ v) (h1 : v < 4294967296) : bits .and .u32 v 255 = v % 256 := by
  obtain ⟨a, rfl⟩ := Int.eq_ofNat_of_zero_le h0
  have ha : (BitVec.ofInt 32 (a : Int)).toNat = a := by rw [BitVec.ofInt_natCast, BitVec.toNat_ofNat]; exact Nat.mod_eq_of_lt (by omega)
  show IntKind.u32.wrap ((BitVec.ofInt 32 (a : Int) &&& BitVec.ofInt 32 255).toNat : Int) = _
  rw [BitVec.toNat_and, ha]
  have h2 : (BitVec.ofInt 32 255).toNat = 2 ^ 8 - 1 := by decide
  rw [h2, Nat.and_two_pow_sub_one_eq_mod]
  rw [IntKind.wrap_u32]
  omega

/-- a call of a function that has a body enters it -/
theorem run_enter {P : Program} {f : FuncId} {fn : Func} (hf : P.funcs[f]? = some fn) (hname : (fn.name == "runtime.NumGoroutine") = false) (hb : fn.body.isNone = false) (args : Array Value) (w : World) :
    (callFunc f args).run P w = .ok (.enter f args) w := by
  have h1 : fn.name ≠ "runtime.NumGoroutine" := by simpa using hname
  cases hc : fn.body with
  | none => rw [hc] at hb; cases hb
  | some c => simp [callFunc, hf, h1, hc]

/-- the world under a name of its own, with what is known of it -/
theorem wp_gen {P : Program} {c : Code} {Q : Exit → Act → World → Prop} {a : Act} {w : World} (F : World → Prop) (hF : F w) (h : ∀ w', F w' → c.wp P Q a w') : c.wp P Q a w := h w hF

/-- a slice type and its element's row of the table -/
structure ElT (P : Program) (t e : TypeId) (z : Value) (size bytes : Nat) : Prop where
  ht : P.underlying t = some (.slice e)
  info : (P.info? e).map (fun i => (i.zero, i.size, i.bytes)) = some (some z, size, bytes)
  hzs : z.cells.size = size
  hsz : 0 < size
  hby : 0 < bytes

/-- 'append(s, x)' of one element, s being nil or the call's own -/
theorem wpList_app1 {P : Program} {t e : TypeId} {z : Value} {size bytes : Nat} (E : ElT P t e z size bytes) {w : World} {ops : Array Oper} {rest : List Oper} {o : Oper} {a : Act} {Q : Exit → Act → World → Prop}
    (hgd : o.guard = none) (s x : Operand) (ho : o.op = .call { callee := .builtin .append, args := #[s, x], argTypes := #[t, t] })
    (base : Nat) (v : Value) (n : Nat) (xs : List Value) (hs : a.eval s = v) (hown : w.ownsRow base e size v n xs)
    (g0 : Nat) (news : List Value) (fr : Nat × Nat) (hx : a.eval x = .slice (some ⟨g0, 0, none⟩) 1 1) (hblk : w.heap[g0]? = some (.cells news.toArray e fr)) (hl : news.length = size)
    (h1 : ∀ u ∈ news, u.oneCell' = true) (hbytes : (n + 1) * bytes ≤ 140737488355328) (hbase : base ≤ w.heap.size)
    (h : ∀ g cap w', w'.ownsRow base e size (.slice (some ⟨g, 0, none⟩) (n + 1) cap) (n + 1) (xs ++ news) → w.grownBy w' v.ownBlock → (v.ownBlock = some g ∨ g = w.heap.size) → g < w'.heap.size →
      wpList P ops Q rest (a.put o.dst (.slice (some ⟨g, 0, none⟩) (n + 1) cap)) w') : wpList P ops Q (o :: rest) a w := by
  obtain ⟨i, hi, hz, h2, h3⟩ := info_parts E.info
  have hm : n + 1 ≤ maxLen := by
    have := Nat.le_mul_of_pos_right (n + 1) E.hby
    unfold maxLen
    omega
  exact wpList_append_lies w hgd s x t ho base e i z size bytes E.ht hi hz h2 h3 E.hzs E.hsz v n xs hs hown ⟨g0, 0, none⟩ 1 1 news hx (by omega)
    (by have := World.news_of_block (w := w) (B := g0) (cs := news.toArray) (t := e) (fr := fr) hblk; simpa using this) h1 (by omega) hm hbytes hbase _ rfl h

end Go.Proofs.Ytefdnjhhaejgbaa

namespace Go.Proofs.Ytefdnjhhaejgbaa
open Go.RowKit
set_option linter.unusedVariables false

/-- block b holds these cells; none is frozen -/
def Blk (w : World) (b : Nat) (cs : List Value) (t : TypeId) : Prop := w.heap[b]? = some (.cells cs.toArray t (0, 0))

theorem Blk.cell {w : World} {b : Nat} {cs : List Value} {t : TypeId} (h : Blk w b cs t) (i : Nat) : w.cell? ⟨b, i, none⟩ = cs[i]? := by
  unfold Blk at h
  simp [World.cell?, h]
theorem Blk.frozen {w : World} {b : Nat} {cs : List Value} {t : TypeId} (h : Blk w b cs t) (i : Nat) : w.frozen? ⟨b, i, none⟩ = false := by
  unfold Blk at h
  simp [World.frozen?, h]
theorem Blk.lt {w : World} {b : Nat} {cs : List Value} {t : TypeId} (h : Blk w b cs t) : b < w.heap.size := (Array.getElem?_eq_some_iff.1 h).1
theorem Blk.set {w : World} {b : Nat} {cs : List Value} {t : TypeId} (h : Blk w b cs t) (i : Nat) (v : Value) : Blk (w.setCell ⟨b, i, none⟩ v) b (cs.set i v) t := by
  unfold Blk at *
  simp only [World.setCell, Array.getElem?_modify, if_true, h]
  simp
theorem Blk.other {w : World} {b : Nat} {cs : List Value} {t : TypeId} (h : Blk w b cs t) {a : Addr} (hne : b ≠ a.block) (v : Value) : Blk (w.setCell a v) b cs t := by
  unfold Blk at *
  rw [Below.heap_setCell _ _ _ _ hne]
  exact h
theorem Blk.below {w w' : World} {b : Nat} {cs : List Value} {t : TypeId} (h : Blk w b cs t) {B : Nat} (hb : Below B w w') (hlt : b < B) : Blk w' b cs t := by
  unfold Blk at *
  rw [hb.block b hlt]
  exact h
theorem Blk.grown {w w' : World} {b : Nat} {cs : List Value} {t : TypeId} (h : Blk w b cs t) {row : Option Nat} (hg : w.grownBy w' row) (hne : some b ≠ row) : Blk w' b cs t := by
  have hlt := h.lt
  unfold Blk at *
  rw [hg.block b hlt hne]
  exact h

def ints (k : IntKind) (xs : List Int) : List Value := xs.map (Value.int k)
theorem ints_get {k : IntKind} {xs : List Int} {i : Nat} (h : i < xs.length) : (ints k xs)[i]? = some (.int k (xs.getD i 0)) := by
  simp [ints, h]
theorem ints_set {k : IntKind} (xs : List Int) (i : Nat) (v : Int) : (ints k xs).set i (.int k v) = ints k (xs.set i v) := by
  simp [ints, List.map_set]
theorem ints_get_app {k : IntKind} {xs : List Int} {t : List Value} {i : Nat} (h : i < xs.length) : (ints k xs ++ t)[i]? = some (.int k (xs.getD i 0)) := by
  rw [List.getElem?_append_left (by simpa [ints] using h), ints_get h]
theorem ints_set_app {k : IntKind} (xs : List Int) (t : List Value) (i : Nat) (v : Int) (h : i < xs.length) : (ints k xs ++ t).set i (.int k v) = ints k (xs.set i v) ++ t := by
  rw [List.set_append_left _ _ (by simpa [ints] using h), ints_set]
theorem length_ints (k : IntKind) (xs : List Int) : (ints k xs).length = xs.length := by simp [ints]

/-- a slice that is read: n elements of 'size' cells, in blocks below B -/
def RowB (B : Nat) (w : World) (size : Nat) (a : Option Addr) (n : Nat) (f : Nat → Nat → Value) : Prop :=
  ∀ i, i < n → ∃ b off, a = some ⟨b, off, none⟩ ∧ b < B ∧ ∀ j, j < size → w.cell? ⟨b, off + i * size + j, none⟩ = some (f i j)

theorem RowB.below {B : Nat} {w w' : World} {size : Nat} {a : Option Addr} {n : Nat} {f : Nat → Nat → Value} (h : RowB B w size a n f) (hb : Below B w w') : RowB B w' size a n f := by
  intro i hi
  obtain ⟨b, off, ha, hlt, hc⟩ := h i hi
  exact ⟨b, off, ha, hlt, fun j hj => by rw [hb.cell (p := ⟨b, off + i * size + j, none⟩) hlt]; exact hc j hj⟩
theorem RowB.mono {B B' : Nat} {w : World} {size : Nat} {a : Option Addr} {n : Nat} {f : Nat → Nat → Value} (h : RowB B w size a n f) (hB : B ≤ B') : RowB B' w size a n f := by
  intro i hi
  obtain ⟨b, off, ha, hlt, hc⟩ := h i hi
  exact ⟨b, off, ha, Nat.lt_of_lt_of_le hlt hB, hc⟩

def RI.cell (i : RI) (j : Nat) : Value := i.cells.getD j undef
def Ar.cell (i : Ar) (j : Nat) : Value := [Value.bool i.word, .int .i64 i.size].getD j undef

/-- where the machine lies -/
structure Lay where
  mb : Nat
  rb : Nat
  sb : Nat
  cb : Nat
  ab : Nat → Nat
  acap : Nat → Nat
  ccap : Nat
  arsA : Option Addr
  arsC : Nat
  codeA : Option Addr
  codeC : Nat
  ptA : Option Addr
  ptC : Nat
  arrA : Option Addr
  arrC : Nat

def mcells (L : Lay) (c : MC) (s : PS) (lv ov : Value) : List Value :=
  [.slice L.arsA c.ars.length L.arsC, .int .i64 c.regs, .int .i64 c.spills, .slice L.codeA c.cd.length L.codeC, .slice L.ptA c.pt.length L.ptC, .slice L.arrA s.arr.length L.arrC,
   .slice (some ⟨L.cb, 0, none⟩) s.ctx.length L.ccap, .int .u32 c.input, .bool c.ended, .int .i64 c.fuel, .slice (some ⟨L.rb, 0, none⟩) s.regs.length s.regs.length, .slice (some ⟨L.sb, 0, none⟩) s.spl.length s.spl.length,
   lv, ov, .int .i64 s.steps, .int .i64 s.pc]

def flatL (l : List (Nat × Int)) : List Value := l.flatMap fun p => [.int .i64 p.1, .int .u32 p.2]

def u32s (l : List Int) : Prop := ∀ x ∈ l, 0 ≤ x ∧ x < 4294967296

/-- what is read and never written: below B -/
structure RO (B : Nat) (L : Lay) (c : MC) (w : World) : Prop where
  code : RowB B w 5 L.codeA c.cd.length fun i j => (c.cd.getD i default).cell j
  pt : RowB B w 1 L.ptA c.pt.length fun i _ => .int .i64 (c.pt.getD i 0 : Nat)
  ars : RowB B w 2 L.arsA c.ars.length fun i j => (c.ars.getD i default).cell j

/-- the state of a run in memory; τ tells the blocks apart -/
structure Rep (B : Nat) (L : Lay) (c : MC) (s : PS) (τ : Nat → Nat) (lv ov : Value) (w : World) : Prop where
  ro : RO B L c w
  hB : B ≤ w.heap.size
  mac : Blk w L.mb (mcells L c s lv ov) 101
  reg : Blk w L.rb (ints .u32 s.regs) 42
  spl : Blk w L.sb (ints .u32 s.spl) 42
  ctx : ∃ t, Blk w L.cb (ints .u32 s.ctx ++ t) 42
  arr : ∀ k, k < s.arr.length → ∃ t, Blk w (L.ab k) (ints .u32 (s.arr.getD k []) ++ t) 42
  outer : ∀ k, k < s.arr.length → ∃ q qo, L.arrA = some ⟨q, qo, none⟩ ∧ τ q = 4 ∧ q < w.heap.size ∧ w.cell? ⟨q, qo + k, none⟩ = some (.slice (some ⟨L.ab k, 0, none⟩) (s.arr.getD k []).length (L.acap k))
  lown : w.ownsRow B 138 2 lv s.loops.length (flatL s.loops)
  oown : w.ownsRow B 5 1 ov s.out.length (ints .u8 s.out)
  tm : τ L.mb = 0
  tr : τ L.rb = 1
  ts : τ L.sb = 2
  tc : τ L.cb = 3
  ta : ∀ k, k < s.arr.length → τ (L.ab k) = 7 + k
  tl : ∀ g, lv.ownBlock = some g → τ g = 5
  to : ∀ g, ov.ownBlock = some g → τ g = 6
  bm : B ≤ L.mb
  br : B ≤ L.rb
  bs : B ≤ L.sb
  bc : B ≤ L.cb
  ba : ∀ k, k < s.arr.length → B ≤ L.ab k

/-- the state's own bounds -/
structure Fine (c : MC) (s : PS) : Prop where
  regs : s.regs.length = c.regs
  spl : s.spl.length = c.spills
  arr : s.arr.length = c.ars.length
  ctx : s.ctx.length = 16
  pt : c.pt.length = c.cd.length
  r32 : u32s s.regs
  s32 : u32s s.spl
  a32 : ∀ a ∈ s.arr, u32s a
  asz : ∀ a ∈ s.arr, a.length ≤ 65536
  c32 : u32s s.ctx
  l32 : ∀ p ∈ s.loops, p.1 < c.cd.length ∧ 1 ≤ p.2 ∧ p.2 < 4294967296
  llen : s.loops.length ≤ 16
  o8 : ∀ x ∈ s.out, 0 ≤ x ∧ x < 256
  olen : s.out.length ≤ 65536
  st0 : 0 ≤ s.steps
  st1 : s.steps ≤ c.fuel
  fu : c.fuel ≤ 281474976710656
  pc : s.pc ≤ c.cd.length
  clen : c.cd.length ≤ 16384
  rmax : c.regs ≤ 1024
  smax : c.spills ≤ 1024
  amax : c.ars.length ≤ 8
  in0 : 0 ≤ c.input ∧ c.input < 4294967296

theorem Rep.lt {B : Nat} {L : Lay} {c : MC} {s : PS} {τ : Nat → Nat} {lv ov : Value} {w : World} (h : Rep B L c s τ lv ov w) : L.mb < w.heap.size ∧ L.rb < w.heap.size ∧ L.sb < w.heap.size ∧ L.cb < w.heap.size :=
  ⟨h.mac.lt, h.reg.lt, h.spl.lt, by obtain ⟨t, ht⟩ := h.ctx; exact ht.lt⟩

theorem ne_tag {τ : Nat → Nat} {a b x y : Nat} (ha : τ a = x) (hb : τ b = y) (h : x ≠ y) : a ≠ b := fun e => h (by rw [← ha, ← hb, e])

/-- new blocks and draws turn nothing -/
theorem Rep.below {B : Nat} {L : Lay} {c : MC} {s : PS} {τ : Nat → Nat} {lv ov : Value} {w w' : World} (h : Rep B L c s τ lv ov w) (hb : Below w.heap.size w w') : Rep B L c s τ lv ov w' := by
  have hB := h.hB
  have hbB := hb.mono hB
  have hg : w.grownBy w' none := grownBy_of_below hb none
  exact {
    ro := ⟨h.ro.code.below hbB, h.ro.pt.below hbB, h.ro.ars.below hbB⟩
    hB := Nat.le_trans hB hb.size
    mac := h.mac.below hb h.mac.lt
    reg := h.reg.below hb h.reg.lt
    spl := h.spl.below hb h.spl.lt
    ctx := by obtain ⟨t, ht⟩ := h.ctx; exact ⟨t, ht.below hb ht.lt⟩
    arr := fun k hk => by obtain ⟨t, ht⟩ := h.arr k hk; exact ⟨t, ht.below hb ht.lt⟩
    outer := fun k hk => by
      obtain ⟨q, qo, h1, h2, h3, h4⟩ := h.outer k hk
      exact ⟨q, qo, h1, h2, Nat.lt_of_lt_of_le h3 hb.size, by rw [hb.cell (p := ⟨q, qo + k, none⟩) h3]; exact h4⟩
    lown := h.lown.kept hg (by cases hv : lv.ownBlock <;> simp)
    oown := h.oown.kept hg (by cases hv : ov.ownBlock <;> simp)
    tm := h.tm, tr := h.tr, ts := h.ts, tc := h.tc, ta := h.ta, tl := h.tl, to := h.to, bm := h.bm, br := h.br, bs := h.bs, bc := h.bc, ba := h.ba }

end Go.Proofs.Ytefdnjhhaejgbaa

namespace Go.Proofs.Ytefdnjhhaejgbaa
open Go.RowKit
set_option linter.unusedVariables false

theorem Rep.setReg {B : Nat} {L : Lay} {c : MC} {s : PS} {τ : Nat → Nat} {lv ov : Value} {w : World} (h : Rep B L c s τ lv ov w) {r : Nat} (hr : r < s.regs.length) (v : Int) :
    Rep B L c { s with regs := s.regs.set r v } τ lv ov (w.setCell ⟨L.rb, 0 + r, none⟩ (.int .u32 v)) := by
  have hg : w.grownBy (w.setCell ⟨L.rb, 0 + r, none⟩ (.int .u32 v)) (some L.rb) := ⟨rfl, rfl, rfl, by simp [World.setCell], fun k _ hk => Below.heap_setCell _ _ _ _ (fun e => hk (by rw [e]))⟩
  have hbB : Below B w (w.setCell ⟨L.rb, 0 + r, none⟩ (.int .u32 v)) := (Below.refl _ _).setCell h.br _
  exact {
    ro := ⟨h.ro.code.below hbB, h.ro.pt.below hbB, h.ro.ars.below hbB⟩,
    hB := by simp [World.setCell]; exact h.hB,
    mac := by have := h.mac.other (a := ⟨L.rb, 0 + r, none⟩) (ne_tag h.tm h.tr (by omega)) (.int .u32 v); simpa [mcells] using this,
    reg := by have := h.reg.set (0 + r) (.int .u32 v); rw [Nat.zero_add, ints_set] at this; rw [Nat.zero_add]; exact this,
    spl := h.spl.other (ne_tag h.ts h.tr (by omega)) _,
    ctx := by obtain ⟨t, ht⟩ := h.ctx; exact ⟨t, ht.other (ne_tag h.tc h.tr (by omega)) _⟩,
    arr := fun k hk => by obtain ⟨t, ht⟩ := h.arr k hk; exact ⟨t, ht.other (ne_tag (h.ta k hk) h.tr (by omega)) _⟩,
    outer := fun k hk => by
      obtain ⟨q, qo, h1, h2, h3, h4⟩ := h.outer k hk
      exact ⟨q, qo, h1, h2, by simp [World.setCell]; exact h3, by rw [World.cell?_of_block (Below.heap_setCell _ _ _ _ (ne_tag h2 h.tr (by omega)))]; exact h4⟩,
    lown := h.lown.kept hg (by
      cases hv : lv.ownBlock with
      | none => exact .inl rfl
      | some g => right; intro e; exact (ne_tag (h.tl g hv) h.tr (by omega)) (Option.some.inj e)),
    oown := h.oown.kept hg (by
      cases hv : ov.ownBlock with
      | none => exact .inl rfl
      | some g => right; intro e; exact (ne_tag (h.to g hv) h.tr (by omega)) (Option.some.inj e)),
    tm := h.tm,
    tr := h.tr,
    ts := h.ts,
    tc := h.tc,
    ta := h.ta,
    tl := h.tl,
    to := h.to,
    bm := h.bm,
    br := h.br,
    bs := h.bs,
    bc := h.bc,
    ba := h.ba }

theorem Rep.setSpl {B : Nat} {L : Lay} {c : MC} {s : PS} {τ : Nat → Nat} {lv ov : Value} {w : World} (h : Rep B L c s τ lv ov w) {r : Nat} (hr : r < s.spl.length) (v : Int) :
    Rep B L c { s with spl := s.spl.set r v } τ lv ov (w.setCell ⟨L.sb, 0 + r, none⟩ (.int .u32 v)) := by
  have hg : w.grownBy (w.setCell ⟨L.sb, 0 + r, none⟩ (.int .u32 v)) (some L.sb) := ⟨rfl, rfl, rfl, by simp [World.setCell], fun k _ hk => Below.heap_setCell _ _ _ _ (fun e => hk (by rw [e]))⟩
  have hbB : Below B w (w.setCell ⟨L.sb, 0 + r, none⟩ (.int .u32 v)) := (Below.refl _ _).setCell h.bs _
  exact {
    ro := ⟨h.ro.code.below hbB, h.ro.pt.below hbB, h.ro.ars.below hbB⟩,
    hB := by simp [World.setCell]; exact h.hB,
    mac := by have := h.mac.other (a := ⟨L.sb, 0 + r, none⟩) (ne_tag h.tm h.ts (by omega)) (.int .u32 v); simpa [mcells] using this,
    reg := h.reg.other (ne_tag h.tr h.ts (by omega)) _,
    spl := by have := h.spl.set (0 + r) (.int .u32 v); rw [Nat.zero_add, ints_set] at this; rw [Nat.zero_add]; exact this,
    ctx := by obtain ⟨t, ht⟩ := h.ctx; exact ⟨t, ht.other (ne_tag h.tc h.ts (by omega)) _⟩,
    arr := fun k hk => by obtain ⟨t, ht⟩ := h.arr k hk; exact ⟨t, ht.other (ne_tag (h.ta k hk) h.ts (by omega)) _⟩,
    outer := fun k hk => by
      obtain ⟨q, qo, h1, h2, h3, h4⟩ := h.outer k hk
      exact ⟨q, qo, h1, h2, by simp [World.setCell]; exact h3, by rw [World.cell?_of_block (Below.heap_setCell _ _ _ _ (ne_tag h2 h.ts (by omega)))]; exact h4⟩,
    lown := h.lown.kept hg (by
      cases hv : lv.ownBlock with
      | none => exact .inl rfl
      | some g => right; intro e; exact (ne_tag (h.tl g hv) h.ts (by omega)) (Option.some.inj e)),
    oown := h.oown.kept hg (by
      cases hv : ov.ownBlock with
      | none => exact .inl rfl
      | some g => right; intro e; exact (ne_tag (h.to g hv) h.ts (by omega)) (Option.some.inj e)),
    tm := h.tm,
    tr := h.tr,
    ts := h.ts,
    tc := h.tc,
    ta := h.ta,
    tl := h.tl,
    to := h.to,
    bm := h.bm,
    br := h.br,
    bs := h.bs,
    bc := h.bc,
    ba := h.ba }

theorem Rep.setCtx {B : Nat} {L : Lay} {c : MC} {s : PS} {τ : Nat → Nat} {lv ov : Value} {w : World} (h : Rep B L c s τ lv ov w) {r : Nat} (hr : r < s.ctx.length) (v : Int) :
    Rep B L c { s with ctx := s.ctx.set r v } τ lv ov (w.setCell ⟨L.cb, 0 + r, none⟩ (.int .u32 v)) := by
  have hg : w.grownBy (w.setCell ⟨L.cb, 0 + r, none⟩ (.int .u32 v)) (some L.cb) := ⟨rfl, rfl, rfl, by simp [World.setCell], fun k _ hk => Below.heap_setCell _ _ _ _ (fun e => hk (by rw [e]))⟩
  have hbB : Below B w (w.setCell ⟨L.cb, 0 + r, none⟩ (.int .u32 v)) := (Below.refl _ _).setCell h.bc _
  exact {
    ro := ⟨h.ro.code.below hbB, h.ro.pt.below hbB, h.ro.ars.below hbB⟩,
    hB := by simp [World.setCell]; exact h.hB,
    mac := by have := h.mac.other (a := ⟨L.cb, 0 + r, none⟩) (ne_tag h.tm h.tc (by omega)) (.int .u32 v); simpa [mcells] using this,
    reg := h.reg.other (ne_tag h.tr h.tc (by omega)) _,
    spl := h.spl.other (ne_tag h.ts h.tc (by omega)) _,
    ctx := by obtain ⟨t, ht⟩ := h.ctx; have := ht.set (0 + r) (.int .u32 v); rw [Nat.zero_add, ints_set_app _ _ _ _ hr] at this; rw [Nat.zero_add]; exact ⟨t, this⟩,
    arr := fun k hk => by obtain ⟨t, ht⟩ := h.arr k hk; exact ⟨t, ht.other (ne_tag (h.ta k hk) h.tc (by omega)) _⟩,
    outer := fun k hk => by
      obtain ⟨q, qo, h1, h2, h3, h4⟩ := h.outer k hk
      exact ⟨q, qo, h1, h2, by simp [World.setCell]; exact h3, by rw [World.cell?_of_block (Below.heap_setCell _ _ _ _ (ne_tag h2 h.tc (by omega)))]; exact h4⟩,
    lown := h.lown.kept hg (by
      cases hv : lv.ownBlock with
      | none => exact .inl rfl
      | some g => right; intro e; exact (ne_tag (h.tl g hv) h.tc (by omega)) (Option.some.inj e)),
    oown := h.oown.kept hg (by
      cases hv : ov.ownBlock with
      | none => exact .inl rfl
      | some g => right; intro e; exact (ne_tag (h.to g hv) h.tc (by omega)) (Option.some.inj e)),
    tm := h.tm,
    tr := h.tr,
    ts := h.ts,
    tc := h.tc,
    ta := h.ta,
    tl := h.tl,
    to := h.to,
    bm := h.bm,
    br := h.br,
    bs := h.bs,
    bc := h.bc,
    ba := h.ba }

theorem Rep.setArr {B : Nat} {L : Lay} {c : MC} {s : PS} {τ : Nat → Nat} {lv ov : Value} {w : World} (h : Rep B L c s τ lv ov w) {k0 r : Nat} (hk0 : k0 < s.arr.length) (hr : r < (s.arr.getD k0 []).length) (v : Int) :
    Rep B L c { s with arr := s.arr.set k0 ((s.arr.getD k0 []).set r v) } τ lv ov (w.setCell ⟨L.ab k0, 0 + r, none⟩ (.int .u32 v)) := by
  have hg : w.grownBy (w.setCell ⟨L.ab k0, 0 + r, none⟩ (.int .u32 v)) (some (L.ab k0)) := ⟨rfl, rfl, rfl, by simp [World.setCell], fun k _ hk => Below.heap_setCell _ _ _ _ (fun e => hk (by rw [e]))⟩
  have hbB : Below B w (w.setCell ⟨L.ab k0, 0 + r, none⟩ (.int .u32 v)) := (Below.refl _ _).setCell (h.ba k0 hk0) _
  exact {
    ro := ⟨h.ro.code.below hbB, h.ro.pt.below hbB, h.ro.ars.below hbB⟩,
    hB := by simp [World.setCell]; exact h.hB,
    mac := by have := h.mac.other (a := ⟨L.ab k0, 0 + r, none⟩) (ne_tag h.tm (h.ta k0 hk0) (by omega)) (.int .u32 v); simpa [mcells] using this,
    reg := h.reg.other (ne_tag h.tr (h.ta k0 hk0) (by omega)) _,
    spl := h.spl.other (ne_tag h.ts (h.ta k0 hk0) (by omega)) _,
    ctx := by obtain ⟨t, ht⟩ := h.ctx; exact ⟨t, ht.other (ne_tag h.tc (h.ta k0 hk0) (by omega)) _⟩,
    arr := fun k hk => by
      have hk' : k < s.arr.length := by simpa using hk
      by_cases hkk : k = k0
      · subst hkk
        obtain ⟨t, ht⟩ := h.arr k hk'
        have := ht.set (0 + r) (.int .u32 v)
        rw [Nat.zero_add, ints_set_app _ _ _ _ hr] at this
        rw [Nat.zero_add]
        refine ⟨t, ?_⟩
        simpa [List.getD_eq_getElem?_getD, List.getElem?_set, hk'] using this
      · obtain ⟨t, ht⟩ := h.arr k hk'
        refine ⟨t, ?_⟩
        have h2 := ht.other (a := ⟨L.ab k0, 0 + r, none⟩) (ne_tag (h.ta k hk') (h.ta k0 hk0) (by omega)) (.int .u32 v)
        simpa [List.getD_eq_getElem?_getD, List.getElem?_set, Ne.symm hkk] using h2,
    outer := fun k hk => by
      have hk' : k < s.arr.length := by simpa using hk
      obtain ⟨q, qo, h1, h2, h3, h4⟩ := h.outer k hk'
      refine ⟨q, qo, h1, h2, by simp [World.setCell]; exact h3, ?_⟩
      rw [World.cell?_of_block (Below.heap_setCell _ _ _ _ (ne_tag h2 (h.ta k0 hk0) (by omega))), h4]
      by_cases hkk : k = k0
      · subst hkk; simp [List.getD_eq_getElem?_getD, hk']
      · simp [List.getD_eq_getElem?_getD, Ne.symm hkk],
    lown := h.lown.kept hg (by
      cases hv : lv.ownBlock with
      | none => exact .inl rfl
      | some g => right; intro e; exact (ne_tag (h.tl g hv) (h.ta k0 hk0) (by omega)) (Option.some.inj e)),
    oown := h.oown.kept hg (by
      cases hv : ov.ownBlock with
      | none => exact .inl rfl
      | some g => right; intro e; exact (ne_tag (h.to g hv) (h.ta k0 hk0) (by omega)) (Option.some.inj e)),
    tm := h.tm,
    tr := h.tr,
    ts := h.ts,
    tc := h.tc,
    ta := fun k hk => h.ta k (by simpa using hk),
    tl := h.tl,
    to := h.to,
    bm := h.bm,
    br := h.br,
    bs := h.bs,
    bc := h.bc,
    ba := fun k hk => h.ba k (by simpa using hk) }

theorem Rep.setPc {B : Nat} {L : Lay} {c : MC} {s : PS} {τ : Nat → Nat} {lv ov : Value} {w : World} (h : Rep B L c s τ lv ov w) (p : Nat) :
    Rep B L c { s with pc := p } τ lv ov (w.setCell ⟨L.mb, 15, none⟩ (.int .i64 p)) := by
  have hg : w.grownBy (w.setCell ⟨L.mb, 15, none⟩ (.int .i64 p)) (some L.mb) := ⟨rfl, rfl, rfl, by simp [World.setCell], fun k _ hk => Below.heap_setCell _ _ _ _ (fun e => hk (by rw [e]))⟩
  have hbB : Below B w (w.setCell ⟨L.mb, 15, none⟩ (.int .i64 p)) := (Below.refl _ _).setCell h.bm _
  exact {
    ro := ⟨h.ro.code.below hbB, h.ro.pt.below hbB, h.ro.ars.below hbB⟩,
    hB := by simp [World.setCell]; exact h.hB,
    mac := by have := h.mac.set 15 (.int .i64 p); simpa [mcells] using this,
    reg := h.reg.other (ne_tag h.tr h.tm (by omega)) _,
    spl := h.spl.other (ne_tag h.ts h.tm (by omega)) _,
    ctx := by obtain ⟨t, ht⟩ := h.ctx; exact ⟨t, ht.other (ne_tag h.tc h.tm (by omega)) _⟩,
    arr := fun k hk => by obtain ⟨t, ht⟩ := h.arr k hk; exact ⟨t, ht.other (ne_tag (h.ta k hk) h.tm (by omega)) _⟩,
    outer := fun k hk => by
      obtain ⟨q, qo, h1, h2, h3, h4⟩ := h.outer k hk
      exact ⟨q, qo, h1, h2, by simp [World.setCell]; exact h3, by rw [World.cell?_of_block (Below.heap_setCell _ _ _ _ (ne_tag h2 h.tm (by omega)))]; exact h4⟩,
    lown := h.lown.kept hg (by
      cases hv : lv.ownBlock with
      | none => exact .inl rfl
      | some g => right; intro e; exact (ne_tag (h.tl g hv) h.tm (by omega)) (Option.some.inj e)),
    oown := h.oown.kept hg (by
      cases hv : ov.ownBlock with
      | none => exact .inl rfl
      | some g => right; intro e; exact (ne_tag (h.to g hv) h.tm (by omega)) (Option.some.inj e)),
    tm := h.tm,
    tr := h.tr,
    ts := h.ts,
    tc := h.tc,
    ta := h.ta,
    tl := h.tl,
    to := h.to,
    bm := h.bm,
    br := h.br,
    bs := h.bs,
    bc := h.bc,
    ba := h.ba }

theorem Rep.setSteps {B : Nat} {L : Lay} {c : MC} {s : PS} {τ : Nat → Nat} {lv ov : Value} {w : World} (h : Rep B L c s τ lv ov w) (p : Int) :
    Rep B L c { s with steps := p } τ lv ov (w.setCell ⟨L.mb, 14, none⟩ (.int .i64 p)) := by
  have hg : w.grownBy (w.setCell ⟨L.mb, 14, none⟩ (.int .i64 p)) (some L.mb) := ⟨rfl, rfl, rfl, by simp [World.setCell], fun k _ hk => Below.heap_setCell _ _ _ _ (fun e => hk (by rw [e]))⟩
  have hbB : Below B w (w.setCell ⟨L.mb, 14, none⟩ (.int .i64 p)) := (Below.refl _ _).setCell h.bm _
  exact {
    ro := ⟨h.ro.code.below hbB, h.ro.pt.below hbB, h.ro.ars.below hbB⟩,
    hB := by simp [World.setCell]; exact h.hB,
    mac := by have := h.mac.set 14 (.int .i64 p); simpa [mcells] using this,
    reg := h.reg.other (ne_tag h.tr h.tm (by omega)) _,
    spl := h.spl.other (ne_tag h.ts h.tm (by omega)) _,
    ctx := by obtain ⟨t, ht⟩ := h.ctx; exact ⟨t, ht.other (ne_tag h.tc h.tm (by omega)) _⟩,
    arr := fun k hk => by obtain ⟨t, ht⟩ := h.arr k hk; exact ⟨t, ht.other (ne_tag (h.ta k hk) h.tm (by omega)) _⟩,
    outer := fun k hk => by
      obtain ⟨q, qo, h1, h2, h3, h4⟩ := h.outer k hk
      exact ⟨q, qo, h1, h2, by simp [World.setCell]; exact h3, by rw [World.cell?_of_block (Below.heap_setCell _ _ _ _ (ne_tag h2 h.tm (by omega)))]; exact h4⟩,
    lown := h.lown.kept hg (by
      cases hv : lv.ownBlock with
      | none => exact .inl rfl
      | some g => right; intro e; exact (ne_tag (h.tl g hv) h.tm (by omega)) (Option.some.inj e)),
    oown := h.oown.kept hg (by
      cases hv : ov.ownBlock with
      | none => exact .inl rfl
      | some g => right; intro e; exact (ne_tag (h.to g hv) h.tm (by omega)) (Option.some.inj e)),
    tm := h.tm,
    tr := h.tr,
    ts := h.ts,
    tc := h.tc,
    ta := h.ta,
    tl := h.tl,
    to := h.to,
    bm := h.bm,
    br := h.br,
    bs := h.bs,
    bc := h.bc,
    ba := h.ba }

/-- a store into a block that is not the machine's -/
theorem Rep.foreign {B : Nat} {L : Lay} {c : MC} {s : PS} {τ : Nat → Nat} {lv ov : Value} {w : World} (h : Rep B L c s τ lv ov w) {x : Nat} (hx : 1000 ≤ τ x) (hxB : B ≤ x) (hn : s.arr.length ≤ 900) (j : Nat) (v : Value) :
    Rep B L c s τ lv ov (w.setCell ⟨x, j, none⟩ v) := by
  have hg : w.grownBy (w.setCell ⟨x, j, none⟩ v) (some x) := ⟨rfl, rfl, rfl, by simp [World.setCell], fun k _ hk => Below.heap_setCell _ _ _ _ (fun e => hk (by rw [e]))⟩
  have hbB : Below B w (w.setCell ⟨x, j, none⟩ v) := (Below.refl _ _).setCell hxB _
  exact {
    ro := ⟨h.ro.code.below hbB, h.ro.pt.below hbB, h.ro.ars.below hbB⟩,
    hB := by simp [World.setCell]; exact h.hB,
    mac := h.mac.other (ne_tag (b := x) (y := τ x) h.tm rfl (by omega)) _,
    reg := h.reg.other (ne_tag (b := x) (y := τ x) h.tr rfl (by omega)) _,
    spl := h.spl.other (ne_tag (b := x) (y := τ x) h.ts rfl (by omega)) _,
    ctx := by obtain ⟨t, ht⟩ := h.ctx; exact ⟨t, ht.other (ne_tag (b := x) (y := τ x) h.tc rfl (by omega)) _⟩,
    arr := fun k hk => by obtain ⟨t, ht⟩ := h.arr k hk; exact ⟨t, ht.other (ne_tag (b := x) (y := τ x) (h.ta k hk) rfl (by omega)) _⟩,
    outer := fun k hk => by
      obtain ⟨q, qo, h1, h2, h3, h4⟩ := h.outer k hk
      exact ⟨q, qo, h1, h2, by simp [World.setCell]; exact h3, by rw [World.cell?_of_block (Below.heap_setCell _ _ _ _ (ne_tag (b := x) (y := τ x) h2 rfl (by omega)))]; exact h4⟩,
    lown := h.lown.kept hg (by
      cases hv : lv.ownBlock with
      | none => exact .inl rfl
      | some g => right; intro e; exact (ne_tag (b := x) (y := τ x) (h.tl g hv) rfl (by omega)) (Option.some.inj e)),
    oown := h.oown.kept hg (by
      cases hv : ov.ownBlock with
      | none => exact .inl rfl
      | some g => right; intro e; exact (ne_tag (b := x) (y := τ x) (h.to g hv) rfl (by omega)) (Option.some.inj e)),
    tm := h.tm,
    tr := h.tr,
    ts := h.ts,
    tc := h.tc,
    ta := h.ta,
    tl := h.tl,
    to := h.to,
    bm := h.bm,
    br := h.br,
    bs := h.bs,
    bc := h.bc,
    ba := h.ba }

end Go.Proofs.Ytefdnjhhaejgbaa

namespace Go.Proofs.Ytefdnjhhaejgbaa
open Go.RowKit
set_option linter.unusedVariables false

theorem Rep.growLoops {B : Nat} {L : Lay} {c : MC} {s : PS} {τ : Nat → Nat} {lv ov : Value} {w w1 : World} (h : Rep B L c s τ lv ov w) (at_ : Nat) (x : Int) {g cc : Nat}
    (hown1 : w1.ownsRow B 138 2 (.slice (some ⟨g, 0, none⟩) (s.loops.length + 1) cc) (s.loops.length + 1) (flatL s.loops ++ [.int .i64 at_, .int .u32 x])) (hg : w.grownBy w1 lv.ownBlock) (hat : lv.ownBlock = some g ∨ w.heap.size ≤ g) :
    Rep B L c { s with loops := s.loops ++ [(at_, x)] } (fun x => if x = g then 5 else τ x) (.slice (some ⟨g, 0, none⟩) (s.loops.length + 1) cc) ov (w1.setCell ⟨L.mb, 12, none⟩ (.slice (some ⟨g, 0, none⟩) (s.loops.length + 1) cc)) := by
  have old : ∀ x t, x < w.heap.size → τ x = t → t ≠ 5 → x ≠ g ∧ some x ≠ lv.ownBlock := by
    intro x t hx ht hne
    refine ⟨fun e => ?_, fun e => hne (by rw [← ht]; exact h.tl x e.symm)⟩
    subst e
    rcases hat with hat | hat
    · exact hne (by rw [← ht]; exact h.tl x hat)
    · omega
  have om := old L.mb 0 h.mac.lt h.tm (by omega)
  have orr := old L.rb 1 h.reg.lt h.tr (by omega)
  have os := old L.sb 2 h.spl.lt h.ts (by omega)
  have oc := old L.cb 3 h.lt.2.2.2 h.tc (by omega)
  have oa : ∀ k, k < s.arr.length → L.ab k ≠ g ∧ some (L.ab k) ≠ lv.ownBlock := fun k hk => by
    obtain ⟨t, ht⟩ := h.arr k hk
    exact old (L.ab k) (7 + k) ht.lt (h.ta k hk) (by omega)
  have hgB : Below B w w1 := below_grown hg h.hB (fun k hk => (h.lown.lt k hk).1)
  have hbB : Below B w (w1.setCell ⟨L.mb, 12, none⟩ (.slice (some ⟨g, 0, none⟩) (s.loops.length + 1) cc)) := hgB.setCell h.bm _
  have hgm : g ≠ L.mb := Ne.symm om.1
  have hs2 : w1.grownBy (w1.setCell ⟨L.mb, 12, none⟩ (.slice (some ⟨g, 0, none⟩) (s.loops.length + 1) cc)) (some L.mb) := ⟨rfl, rfl, rfl, by simp [World.setCell], fun k _ hk => Below.heap_setCell _ _ _ _ (fun e => hk (by rw [e]))⟩
  have hown2 := hown1.kept hs2 (.inr (by simp [Value.ownBlock]; exact hgm))
  have hmac := (h.mac.grown hg om.2).set 12 (.slice (some ⟨g, 0, none⟩) (s.loops.length + 1) cc)
  exact {
    ro := ⟨h.ro.code.below hbB, h.ro.pt.below hbB, h.ro.ars.below hbB⟩
    hB := Nat.le_trans h.hB hbB.size
    mac := by simpa [mcells] using hmac
    reg := (h.reg.grown hg orr.2).other (ne_tag h.tr h.tm (by omega)) _
    spl := (h.spl.grown hg os.2).other (ne_tag h.ts h.tm (by omega)) _
    ctx := by obtain ⟨t, ht⟩ := h.ctx; exact ⟨t, (ht.grown hg oc.2).other (ne_tag h.tc h.tm (by omega)) _⟩
    arr := fun k hk => by obtain ⟨t, ht⟩ := h.arr k hk; exact ⟨t, (ht.grown hg (oa k hk).2).other (ne_tag (h.ta k hk) h.tm (by omega)) _⟩
    outer := fun k hk => by
      obtain ⟨q, qo, h1, h2, h3, h4⟩ := h.outer k hk
      have oq := old q 4 h3 h2 (by omega)
      refine ⟨q, qo, h1, by simp [oq.1, h2], Nat.lt_of_lt_of_le h3 hbB.size, ?_⟩
      rw [World.cell?_of_block (Below.heap_setCell _ _ _ _ (ne_tag h2 h.tm (by omega)))]
      exact hg.cell h4 oq.2
    lown := by rw [show flatL (s.loops ++ [(at_, x)]) = flatL s.loops ++ [.int .i64 at_, .int .u32 x] by simp [flatL]]; simpa using hown2
    oown := (h.oown.kept hg (by
      cases hv : ov.ownBlock with
      | none => exact .inl rfl
      | some x => right; exact (old x 6 (h.oown.lt x hv).2 (h.to x hv) (by omega)).2)).kept hs2 (by
      cases hv : ov.ownBlock with
      | none => exact .inl rfl
      | some x => right; intro e; exact ne_tag (h.to x hv) h.tm (by omega) (Option.some.inj e))
    tm := by simp [om.1, h.tm]
    tr := by simp [orr.1, h.tr]
    ts := by simp [os.1, h.ts]
    tc := by simp [oc.1, h.tc]
    ta := fun k hk => by simp [(oa k hk).1, h.ta k hk]
    tl := fun x hx => by simp [Value.ownBlock] at hx; simp [hx]
    to := fun x hx => by simp [(old x 6 (h.oown.lt x hx).2 (h.to x hx) (by omega)).1, h.to x hx]
    bm := h.bm, br := h.br, bs := h.bs, bc := h.bc, ba := h.ba }

theorem Rep.growOut {B : Nat} {L : Lay} {c : MC} {s : PS} {τ : Nat → Nat} {lv ov : Value} {w w1 : World} (h : Rep B L c s τ lv ov w) (x : Int) {g cc : Nat}
    (hown1 : w1.ownsRow B 5 1 (.slice (some ⟨g, 0, none⟩) (s.out.length + 1) cc) (s.out.length + 1) (ints .u8 s.out ++ [.int .u8 x])) (hg : w.grownBy w1 ov.ownBlock) (hat : ov.ownBlock = some g ∨ w.heap.size ≤ g) :
    Rep B L c { s with out := s.out ++ [x] } (fun x => if x = g then 6 else τ x) lv (.slice (some ⟨g, 0, none⟩) (s.out.length + 1) cc) (w1.setCell ⟨L.mb, 13, none⟩ (.slice (some ⟨g, 0, none⟩) (s.out.length + 1) cc)) := by
  have old : ∀ x t, x < w.heap.size → τ x = t → t ≠ 6 → x ≠ g ∧ some x ≠ ov.ownBlock := by
    intro x t hx ht hne
    refine ⟨fun e => ?_, fun e => hne (by rw [← ht]; exact h.to x e.symm)⟩
    subst e
    rcases hat with hat | hat
    · exact hne (by rw [← ht]; exact h.to x hat)
    · omega
  have om := old L.mb 0 h.mac.lt h.tm (by omega)
  have orr := old L.rb 1 h.reg.lt h.tr (by omega)
  have os := old L.sb 2 h.spl.lt h.ts (by omega)
  have oc := old L.cb 3 h.lt.2.2.2 h.tc (by omega)
  have oa : ∀ k, k < s.arr.length → L.ab k ≠ g ∧ some (L.ab k) ≠ ov.ownBlock := fun k hk => by
    obtain ⟨t, ht⟩ := h.arr k hk
    exact old (L.ab k) (7 + k) ht.lt (h.ta k hk) (by omega)
  have hgB : Below B w w1 := below_grown hg h.hB (fun k hk => (h.oown.lt k hk).1)
  have hbB : Below B w (w1.setCell ⟨L.mb, 13, none⟩ (.slice (some ⟨g, 0, none⟩) (s.out.length + 1) cc)) := hgB.setCell h.bm _
  have hgm : g ≠ L.mb := Ne.symm om.1
  have hs2 : w1.grownBy (w1.setCell ⟨L.mb, 13, none⟩ (.slice (some ⟨g, 0, none⟩) (s.out.length + 1) cc)) (some L.mb) := ⟨rfl, rfl, rfl, by simp [World.setCell], fun k _ hk => Below.heap_setCell _ _ _ _ (fun e => hk (by rw [e]))⟩
  have hown2 := hown1.kept hs2 (.inr (by simp [Value.ownBlock]; exact hgm))
  have hmac := (h.mac.grown hg om.2).set 13 (.slice (some ⟨g, 0, none⟩) (s.out.length + 1) cc)
  exact {
    ro := ⟨h.ro.code.below hbB, h.ro.pt.below hbB, h.ro.ars.below hbB⟩
    hB := Nat.le_trans h.hB hbB.size
    mac := by simpa [mcells] using hmac
    reg := (h.reg.grown hg orr.2).other (ne_tag h.tr h.tm (by omega)) _
    spl := (h.spl.grown hg os.2).other (ne_tag h.ts h.tm (by omega)) _
    ctx := by obtain ⟨t, ht⟩ := h.ctx; exact ⟨t, (ht.grown hg oc.2).other (ne_tag h.tc h.tm (by omega)) _⟩
    arr := fun k hk => by obtain ⟨t, ht⟩ := h.arr k hk; exact ⟨t, (ht.grown hg (oa k hk).2).other (ne_tag (h.ta k hk) h.tm (by omega)) _⟩
    outer := fun k hk => by
      obtain ⟨q, qo, h1, h2, h3, h4⟩ := h.outer k hk
      have oq := old q 4 h3 h2 (by omega)
      refine ⟨q, qo, h1, by simp [oq.1, h2], Nat.lt_of_lt_of_le h3 hbB.size, ?_⟩
      rw [World.cell?_of_block (Below.heap_setCell _ _ _ _ (ne_tag h2 h.tm (by omega)))]
      exact hg.cell h4 oq.2
    oown := by rw [show ints .u8 (s.out ++ [x]) = ints .u8 s.out ++ [.int .u8 x] by simp [ints]]; simpa using hown2
    lown := (h.lown.kept hg (by
      cases hv : lv.ownBlock with
      | none => exact .inl rfl
      | some x => right; exact (old x 5 (h.lown.lt x hv).2 (h.tl x hv) (by omega)).2)).kept hs2 (by
      cases hv : lv.ownBlock with
      | none => exact .inl rfl
      | some x => right; intro e; exact ne_tag (h.tl x hv) h.tm (by omega) (Option.some.inj e))
    tm := by simp [om.1, h.tm]
    tr := by simp [orr.1, h.tr]
    ts := by simp [os.1, h.ts]
    tc := by simp [oc.1, h.tc]
    ta := fun k hk => by simp [(oa k hk).1, h.ta k hk]
    to := fun x hx => by simp [Value.ownBlock] at hx; simp [hx]
    tl := fun x hx => by simp [(old x 5 (h.lown.lt x hx).2 (h.tl x hx) (by omega)).1, h.tl x hx]
    bm := h.bm, br := h.br, bs := h.bs, bc := h.bc, ba := h.ba }


theorem flatL_snoc (l : List (Nat × Int)) (p : Nat × Int) : flatL (l ++ [p]) = flatL l ++ [.int .i64 p.1, .int .u32 p.2] := by simp [flatL]
theorem flatL_length (l : List (Nat × Int)) : (flatL l).length = l.length * 2 := by
  induction l with
  | nil => rfl
  | cons p l ih => simp only [flatL, List.flatMap_cons, List.length_append, List.length_cons, List.length_nil] at *; omega

/-- the innermost loop's cells -/
theorem Rep.top {B : Nat} {L : Lay} {c : MC} {s : PS} {τ : Nat → Nat} {lv ov : Value} {w : World} (h : Rep B L c s τ lv ov w) {l : List (Nat × Int)} {p : Nat × Int} (hl : s.loops = l ++ [p]) :
    ∃ g cc, lv = .slice (some ⟨g, 0, none⟩) (l.length + 1) cc ∧ l.length + 1 ≤ cc ∧ cc ≤ maxLen ∧ g < w.heap.size ∧ τ g = 5 ∧
      w.cell? ⟨g, 0 + l.length * 2, none⟩ = some (.int .i64 p.1) ∧ w.cell? ⟨g, 0 + l.length * 2 + 1, none⟩ = some (.int .u32 p.2) ∧ (∀ j, w.frozen? ⟨g, j, none⟩ = false) := by
  have hown := h.lown
  rw [hl, flatL_snoc, List.length_append] at hown
  simp only [List.length_singleton] at hown
  have hfl := flatL_length l
  rcases hown.2 with ⟨_, h0⟩ | ⟨g, cc, cur, hv, hb, hgg, hle, hmx, hcs, htk⟩
  · omega
  · subst hv
    have hlt := hown.lt g (by simp [Value.ownBlock])
    refine ⟨g, cc, rfl, hle, hmx, hlt.2, h.tl g (by simp [Value.ownBlock]), ?_, ?_, fun j => hown.frozenAt j⟩
    · rw [hown.cellAt _ (by omega), Nat.zero_add, List.getElem?_append_right (by omega)]
      simp [hfl]
    · rw [hown.cellAt _ (by omega), Nat.zero_add, List.getElem?_append_right (by omega)]
      simp [hfl]

theorem own_pop {w : World} {base : Nat} {e : TypeId} {g cc n m : Nat} {xs ys : List Value} (h : w.ownsRow base e m (.slice (some ⟨g, 0, none⟩) (n + 1) cc) (n + 1) (xs ++ ys)) (hx : xs.length = n * m) :
    w.ownsRow base e m (.slice (some ⟨g, 0, none⟩) n cc) n xs := by
  refine ⟨hx, ?_⟩
  rcases h.2 with ⟨h1, _⟩ | ⟨g', cc', cur, hv, hb, hgg, hle, hmx, hcs, htk⟩
  · cases h1
  · simp only [Value.slice.injEq, Option.some.injEq, Addr.mk.injEq] at hv
    obtain ⟨⟨rfl, _⟩, _, rfl⟩ := hv
    refine .inr ⟨g, cc, cur, rfl, hb, hgg, by omega, hmx, hcs, ?_⟩
    have : cur.toList.take (n * m) = (cur.toList.take ((n + 1) * m)).take (n * m) := by
      rw [List.take_take, Nat.min_eq_left (Nat.mul_le_mul_right _ (by omega))]
    rw [this, htk, ← hx, List.take_left]

/-- the innermost loop is left -/
theorem Rep.pop {B : Nat} {L : Lay} {c : MC} {s : PS} {τ : Nat → Nat} {ov : Value} {w : World} {g cc : Nat} {l : List (Nat × Int)} {p : Nat × Int} (hl : s.loops = l ++ [p])
    (h : Rep B L c s τ (.slice (some ⟨g, 0, none⟩) (l.length + 1) cc) ov w) :
    Rep B L c { s with loops := l } τ (.slice (some ⟨g, 0, none⟩) l.length cc) ov (w.setCell ⟨L.mb, 12, none⟩ (.slice (some ⟨g, 0, none⟩) l.length cc)) := by
  have hg : w.grownBy (w.setCell ⟨L.mb, 12, none⟩ (.slice (some ⟨g, 0, none⟩) l.length cc)) (some L.mb) := ⟨rfl, rfl, rfl, by simp [World.setCell], fun k _ hk => Below.heap_setCell _ _ _ _ (fun e => hk (by rw [e]))⟩
  have hbB : Below B w (w.setCell ⟨L.mb, 12, none⟩ (.slice (some ⟨g, 0, none⟩) l.length cc)) := (Below.refl _ _).setCell h.bm _
  have hown := h.lown
  rw [hl, flatL_snoc, List.length_append] at hown
  simp only [List.length_singleton] at hown
  have hpop := own_pop hown (flatL_length l)
  have hgt : τ g = 5 := h.tl g (by simp [Value.ownBlock])
  exact {
    ro := ⟨h.ro.code.below hbB, h.ro.pt.below hbB, h.ro.ars.below hbB⟩
    hB := by simp [World.setCell]; exact h.hB
    mac := by have := h.mac.set 12 (.slice (some ⟨g, 0, none⟩) l.length cc); simpa [mcells] using this
    reg := h.reg.other (ne_tag h.tr h.tm (by omega)) _
    spl := h.spl.other (ne_tag h.ts h.tm (by omega)) _
    ctx := by obtain ⟨t, ht⟩ := h.ctx; exact ⟨t, ht.other (ne_tag h.tc h.tm (by omega)) _⟩
    arr := fun k hk => by obtain ⟨t, ht⟩ := h.arr k hk; exact ⟨t, ht.other (ne_tag (h.ta k hk) h.tm (by omega)) _⟩
    outer := fun k hk => by
      obtain ⟨q, qo, h1, h2, h3, h4⟩ := h.outer k hk
      exact ⟨q, qo, h1, h2, by simp [World.setCell]; exact h3, by rw [World.cell?_of_block (Below.heap_setCell _ _ _ _ (ne_tag h2 h.tm (by omega)))]; exact h4⟩
    lown := hpop.kept hg (.inr (by simp [Value.ownBlock]; exact ne_tag hgt h.tm (by omega)))
    oown := h.oown.kept hg (by
      cases hv : ov.ownBlock with
      | none => exact .inl rfl
      | some x => right; intro e; exact ne_tag (h.to x hv) h.tm (by omega) (Option.some.inj e))
    tm := h.tm, tr := h.tr, ts := h.ts, tc := h.tc, ta := h.ta
    tl := fun x hx => by simp [Value.ownBlock] at hx; subst hx; exact hgt
    to := h.to, bm := h.bm, br := h.br, bs := h.bs, bc := h.bc, ba := h.ba }

/-- the innermost loop's count -/
theorem Rep.setTop {B : Nat} {L : Lay} {c : MC} {s : PS} {τ : Nat → Nat} {ov : Value} {w : World} {g cc : Nat} {l : List (Nat × Int)} {p : Nat × Int} (hl : s.loops = l ++ [p])
    (h : Rep B L c s τ (.slice (some ⟨g, 0, none⟩) (l.length + 1) cc) ov w) (x : Int) :
    Rep B L c { s with loops := l ++ [(p.1, x)] } τ (.slice (some ⟨g, 0, none⟩) (l.length + 1) cc) ov (w.setCell ⟨g, 0 + l.length * 2 + 1, none⟩ (.int .u32 x)) := by
  have hgt : τ g = 5 := h.tl g (by simp [Value.ownBlock])
  have hgB : B ≤ g := (h.lown.lt g (by simp [Value.ownBlock])).1
  have hg : w.grownBy (w.setCell ⟨g, 0 + l.length * 2 + 1, none⟩ (.int .u32 x)) (some g) := ⟨rfl, rfl, rfl, by simp [World.setCell], fun k _ hk => Below.heap_setCell _ _ _ _ (fun e => hk (by rw [e]))⟩
  have hbB : Below B w (w.setCell ⟨g, 0 + l.length * 2 + 1, none⟩ (.int .u32 x)) := (Below.refl _ _).setCell hgB _
  have hown := h.lown
  rw [hl, flatL_snoc, List.length_append] at hown
  simp only [List.length_singleton] at hown
  have hst := hown.stored (0 + l.length * 2 + 1) (.int .u32 x)
  have hfl := flatL_length l
  exact {
    ro := ⟨h.ro.code.below hbB, h.ro.pt.below hbB, h.ro.ars.below hbB⟩
    hB := by simp [World.setCell]; exact h.hB
    mac := by have := h.mac.other (a := ⟨g, 0 + l.length * 2 + 1, none⟩) (ne_tag h.tm hgt (by omega)) (.int .u32 x); simpa [mcells] using this
    reg := h.reg.other (ne_tag h.tr hgt (by omega)) _
    spl := h.spl.other (ne_tag h.ts hgt (by omega)) _
    ctx := by obtain ⟨t, ht⟩ := h.ctx; exact ⟨t, ht.other (ne_tag h.tc hgt (by omega)) _⟩
    arr := fun k hk => by obtain ⟨t, ht⟩ := h.arr k hk; exact ⟨t, ht.other (ne_tag (h.ta k hk) hgt (by omega)) _⟩
    outer := fun k hk => by
      obtain ⟨q, qo, h1, h2, h3, h4⟩ := h.outer k hk
      exact ⟨q, qo, h1, h2, by simp [World.setCell]; exact h3, by rw [World.cell?_of_block (Below.heap_setCell _ _ _ _ (ne_tag h2 hgt (by omega)))]; exact h4⟩
    lown := by
      rw [flatL_snoc, List.length_append]
      simp only [List.length_singleton]
      have e : (flatL l ++ [Value.int .i64 p.1, .int .u32 p.2]).set (0 + l.length * 2 + 1) (.int .u32 x) = flatL l ++ [.int .i64 p.1, .int .u32 x] := by
        rw [List.set_append_right _ _ (by omega), hfl, show 0 + l.length * 2 + 1 - l.length * 2 = 1 by omega]; rfl
      rw [← e]
      exact hst.1
    oown := h.oown.kept hg (by
      cases hv : ov.ownBlock with
      | none => exact .inl rfl
      | some y => right; intro e; exact ne_tag (h.to y hv) hgt (by omega) (Option.some.inj e))
    tm := h.tm, tr := h.tr, ts := h.ts, tc := h.tc, ta := h.ta, tl := h.tl, to := h.to, bm := h.bm, br := h.br, bs := h.bs, bc := h.bc, ba := h.ba }

end Go.Proofs.Ytefdnjhhaejgbaa

namespace Go.Proofs.Ytefdnjhhaejgbaa
open Go.RowKit Go.MapKept
set_option linter.unusedVariables false

def keyInt : Value → Option Int | .int .i64 n => some n | _ => none
/-- no entry has the key -/
def freshB (k : Int) : List MapEntry → Bool
  | [] => true
  | e :: es => (match keyInt e.key with | some n => n != k | none => false) && freshB k es
/-- the value at a key -/
def atInt (k : Int) : List MapEntry → Option Value
  | [] => none
  | e :: es => match keyInt e.key with | some n => if k = n then some e.val else atInt k es | none => none
/-- all keys are ints -/
def intKeys : List MapEntry → Bool
  | [] => true
  | e :: es => (keyInt e.key).isSome && intKeys es

theorem keyInt_some {v : Value} {n : Int} (h : keyInt v = some n) : v = .int .i64 n := by
  unfold keyInt at h
  split at h <;> simp_all

theorem findNow_fresh (k : Int) : ∀ (l : List MapEntry) (i : Nat), freshB k l = true → Instr.findNow (.int .i64) (.int .i64 k) l i = some none
  | [], _, _ => rfl
  | e :: es, i, h => by
    simp only [freshB, Bool.and_eq_true] at h
    obtain ⟨h1, h2⟩ := h
    cases hk : keyInt e.key with
    | none => rw [hk] at h1; cases h1
    | some n =>
      rw [hk] at h1
      have hn : n ≠ k := by simpa using h1
      simp only [Instr.findNow, keyInt_some hk, Instr.sameNow, if_true]
      have : (k == n) = false := by simp; exact fun h => hn h.symm
      rw [this]
      exact findNow_fresh k es (i + 1) h2

theorem findNow_at (k : Int) : ∀ (l : List MapEntry) (i : Nat), intKeys l = true → ∃ r, Instr.findNow (.int .i64) (.int .i64 k) l i = some r ∧ r.map (·.2) = atInt k l
  | [], _, _ => ⟨none, rfl, rfl⟩
  | e :: es, i, h => by
    simp only [intKeys, Bool.and_eq_true] at h
    obtain ⟨h1, h2⟩ := h
    cases hk : keyInt e.key with
    | none => rw [hk] at h1; cases h1
    | some n =>
      simp only [Instr.findNow, keyInt_some hk, Instr.sameNow, if_true]
      by_cases hkn : k = n
      · subst hkn
        exact ⟨some (i, e.val), by simp, by simp [atInt, hk]⟩
      · have : (k == n) = false := by simpa using hkn
        rw [this]
        obtain ⟨r, h3, h4⟩ := findNow_at k es (i + 1) h2
        exact ⟨r, h3, by rw [h4]; simp [atInt, hk, hkn]⟩

section
variable {P : Program} {T K E : TypeId} (hT : P.underlying T = some (.map K E)) (hK : P.underlying K = some (.int .i64))
include hT hK

theorem run_insert_int (w : World) (r : Nat) (es : Array MapEntry) (c : Nat) (hr : w.heap[r]? = some (.map es c)) (k : Int) (v : Value) (h : freshB k es.toList = true) :
    (Instr.mapUpdate T (.map (some r)) (.int .i64 k) v).run P w = .ok () { w with heap := w.heap.setIfInBounds r (.map (es.push { key := .int .i64 k, val := v, born := c }) (c + 1)) } := by
  have hf := findNow_fresh k es.toList 0 h
  have hc : MapKept.IsKey (.int .i64) (.int .i64 k) := by simp [MapKept.IsKey]
  simp [Instr.mapUpdate, run_underlying hT, MapKept.run_getObj_map hr, MapKept.run_checkKey hK hc, MapKept.run_findKey hK hf, MapKept.run_setObj_map _ hr, Result.andThen]

theorem run_insert_new (w : World) (es : Array MapEntry) (c : Nat) (k : Int) (v : Value) (h : freshB k es.toList = true) :
    (Instr.mapUpdate T (.map (some w.heap.size)) (.int .i64 k) v).run P (w.alloc (.map es c)) = .ok () (w.alloc (.map (es.push { key := .int .i64 k, val := v, born := c }) (c + 1))) := by
  rw [run_insert_int hT hK _ _ es c (heap_alloc_new w _) k v h]
  congr 1
  show World.mk _ _ _ _ _ = World.mk _ _ _ _ _
  congr 1
  show (w.heap.push _).setIfInBounds w.heap.size _ = w.heap.push _
  apply Array.ext_getElem?
  intro i
  simp only [Array.getElem?_setIfInBounds, Array.getElem?_push, Array.size_push]
  by_cases hi : i = w.heap.size
  · subst hi; simp
  · simp [hi, Ne.symm hi]

theorem run_lookup_int (w : World) (r : Nat) (es : Array MapEntry) (c : Nat) (hr : w.heap[r]? = some (.map es c)) (k : Int) (hk : intKeys es.toList = true) (z : Value) (hz : (zeroValue E).run P w = .ok z w) :
    (Instr.lookup T (.map (some r)) (.int .i64 k) true).run P w = .ok (.tuple #[(atInt k es.toList).getD z, .bool (atInt k es.toList).isSome]) w := by
  obtain ⟨x, h1, h2⟩ := findNow_at k es.toList 0 hk
  have hc : MapKept.IsKey (.int .i64) (.int .i64 k) := by simp [MapKept.IsKey]
  cases x with
  | none =>
    have h3 : atInt k es.toList = none := by simpa using h2.symm
    simp [Instr.lookup, run_underlying hT, MapKept.run_getObj_map hr, MapKept.run_checkKey hK hc, MapKept.run_findKey hK h1, Result.andThen, h3, hz]
  | some y =>
    have h3 : atInt k es.toList = some y.2 := by simpa using h2.symm
    simp [Instr.lookup, run_underlying hT, MapKept.run_getObj_map hr, MapKept.run_checkKey hK hc, MapKept.run_findKey hK h1, Result.andThen, h3]
end
attribute [go_sem] freshB keyInt
end Go.Proofs.Ytefdnjhhaejgbaa

namespace Go.Proofs.Ytefdnjhhaejgbaa
open Go.RowKit Go.MapKept
set_option linter.unusedVariables false

theorem intKeys_append : ∀ (l m : List MapEntry), intKeys (l ++ m) = (intKeys l && intKeys m)
  | [], m => by simp [intKeys]
  | e :: l, m => by simp only [List.cons_append, intKeys, intKeys_append l m, Bool.and_assoc]
theorem atInt_append_none (q : Int) : ∀ (l m : List MapEntry), intKeys l = true → atInt q l = none → atInt q (l ++ m) = atInt q m
  | [], m, _, _ => rfl
  | e :: l, m, hk, h => by
    simp only [intKeys, Bool.and_eq_true] at hk
    cases hx : keyInt e.key with
    | none => rw [hx] at hk; simp at hk
    | some n =>
      simp only [atInt, hx] at h
      split at h
      · cases h
      · rename_i hqn
        simp only [List.cons_append, atInt, hx, if_neg hqn]
        exact atInt_append_none q l m hk.2 h
theorem atInt_append_some (q : Int) (v : Value) : ∀ (l m : List MapEntry), atInt q l = some v → atInt q (l ++ m) = some v
  | [], m, h => by simp [atInt] at h
  | e :: l, m, h => by
    cases hx : keyInt e.key with
    | none => simp [atInt, hx] at h
    | some n =>
      simp only [atInt, hx] at h
      simp only [List.cons_append, atInt, hx]
      split at h
      · rename_i hq; rw [if_pos hq]; exact h
      · rename_i hq; rw [if_neg hq]; exact atInt_append_some q v l m h

theorem findNow_none_at (k : Int) : ∀ (l : List MapEntry) (j : Nat), intKeys l = true → Instr.findNow (.int .i64) (.int .i64 k) l j = some none → atInt k l = none
  | [], _, _, _ => rfl
  | e :: l, j, hk, h => by
    simp only [intKeys, Bool.and_eq_true] at hk
    cases hx : keyInt e.key with
    | none => rw [hx] at hk; simp at hk
    | some n =>
      simp only [Instr.findNow, keyInt_some hx, Instr.sameNow, if_true] at h
      by_cases hkn : k = n
      · subst hkn; simp at h
      · have : (k == n) = false := by simpa using hkn
        rw [this] at h
        simp only [atInt, hx, if_neg hkn]
        exact findNow_none_at k l (j + 1) hk.2 h

/-- what a store at a key that is there does -/
theorem findNow_some_at (k : Int) (v x : Value) (i : Nat) : ∀ (l : List MapEntry) (j : Nat), intKeys l = true → Instr.findNow (.int .i64) (.int .i64 k) l j = some (some (i, x)) →
    j ≤ i ∧ (∃ e, l[i - j]? = some e ∧ e.key = .int .i64 k) ∧ intKeys (l.modify (i - j) fun e => { e with key := .int .i64 k, val := v }) = true ∧
      ∀ q, atInt q (l.modify (i - j) fun e => { e with key := .int .i64 k, val := v }) = if q = k then some v else atInt q l
  | [], _, _, h => by simp [Instr.findNow] at h
  | e :: l, j, hk, h => by
    simp only [intKeys, Bool.and_eq_true] at hk
    cases hx : keyInt e.key with
    | none => rw [hx] at hk; simp at hk
    | some n =>
      simp only [Instr.findNow, keyInt_some hx, Instr.sameNow, if_true] at h
      by_cases hkn : k = n
      · subst hkn
        simp at h
        obtain ⟨rfl, _⟩ := h
        refine ⟨Nat.le_refl _, ⟨e, by simp, keyInt_some hx⟩, ?_, fun q => ?_⟩
        · simp only [Nat.sub_self, List.modify_zero_cons, intKeys, keyInt]
          simpa using hk.2
        · have k1 : keyInt (Value.int .i64 k) = some k := rfl
          simp only [Nat.sub_self, List.modify_zero_cons, atInt, k1, hx]
          split <;> rfl
      · have hb : (k == n) = false := by simpa using hkn
        rw [hb] at h
        obtain ⟨h1, ⟨e', h2, h3⟩, h4, h5⟩ := findNow_some_at k v x i l (j + 1) hk.2 h
        have es : i - j = (i - (j + 1)) + 1 := by omega
        rw [es]
        refine ⟨by omega, ⟨e', by simpa using h2, h3⟩, ?_, fun q => ?_⟩
        · simp only [List.modify_succ_cons, intKeys, hx, Option.isSome_some, Bool.true_and]
          exact h4
        · simp only [List.modify_succ_cons, atInt, hx]
          by_cases hq : q = n
          · have hqk : ¬ q = k := fun e => hkn (by rw [← e, hq])
            rw [if_pos hq, if_neg hqk, if_pos hq]
          · rw [if_neg hq, if_neg hq]
            exact h5 q

section
variable {P : Program} {T K E : TypeId} (hT : P.underlying T = some (.map K E)) (hK : P.underlying K = some (.int .i64))
include hT hK

theorem run_update_int (w : World) (r : Nat) (es : Array MapEntry) (c : Nat) (hr : w.heap[r]? = some (.map es c)) (k : Int) (v : Value) (hk : intKeys es.toList = true) :
    ∃ es' c', (Instr.mapUpdate T (.map (some r)) (.int .i64 k) v).run P w = .ok () { w with heap := w.heap.setIfInBounds r (.map es' c') } ∧ intKeys es'.toList = true ∧
      ∀ q, atInt q es'.toList = if q = k then some v else atInt q es.toList := by
  have hc : MapKept.IsKey (.int .i64) (.int .i64 k) := by simp [MapKept.IsKey]
  obtain ⟨x, h1, h2⟩ := findNow_at k es.toList 0 hk
  cases x with
  | none =>
    refine ⟨es.push { key := .int .i64 k, val := v, born := c }, c + 1, ?_, ?_, fun q => ?_⟩
    · simp [Instr.mapUpdate, run_underlying hT, MapKept.run_getObj_map hr, MapKept.run_checkKey hK hc, MapKept.run_findKey hK h1, MapKept.run_setObj_map _ hr, Result.andThen]
    · rw [Array.toList_push, intKeys_append, hk]; simp [intKeys, keyInt]
    · have hn := findNow_none_at k es.toList 0 hk h1
      rw [Array.toList_push]
      by_cases hq : q = k
      · subst hq
        rw [if_pos rfl, atInt_append_none q _ _ hk hn]
        simp [atInt, keyInt]
      · rw [if_neg hq]
        cases ha : atInt q es.toList with
        | none => rw [atInt_append_none q _ _ hk ha]; simp [atInt, keyInt, hq]
        | some u => exact atInt_append_some q u _ _ ha
  | some y =>
    obtain ⟨i, x⟩ := y
    obtain ⟨_, ⟨e, h3, h4⟩, h5, h6⟩ := findNow_some_at k v x i es.toList 0 hk h1
    refine ⟨es.modify i fun e => { e with key := .int .i64 k, val := v }, c, ?_, ?_, fun q => ?_⟩
    · have he : es[i]? = some e := by simpa using h3
      simp [Instr.mapUpdate, run_underlying hT, MapKept.run_getObj_map hr, MapKept.run_checkKey hK hc, MapKept.run_findKey hK h1, MapKept.run_setObj_map _ hr, Result.andThen, he, h4, MapKept.run_keyThatStays hc]
    · rw [Array.toList_modify]; simpa using h5
    · rw [Array.toList_modify]; simpa using h6 q

theorem run_look_int (w : World) (r : Nat) (es : Array MapEntry) (c : Nat) (hr : w.heap[r]? = some (.map es c)) (k : Int) (hk : intKeys es.toList = true) (z : Value) (hz : (zeroValue E).run P w = .ok z w) :
    (Instr.lookup T (.map (some r)) (.int .i64 k) false).run P w = .ok ((atInt k es.toList).getD z) w := by
  obtain ⟨x, h1, h2⟩ := findNow_at k es.toList 0 hk
  have hc : MapKept.IsKey (.int .i64) (.int .i64 k) := by simp [MapKept.IsKey]
  cases x with
  | none =>
    have h3 : atInt k es.toList = none := by simpa using h2.symm
    simp [Instr.lookup, run_underlying hT, MapKept.run_getObj_map hr, MapKept.run_checkKey hK hc, MapKept.run_findKey hK h1, Result.andThen, h3, hz]
  | some y =>
    have h3 : atInt k es.toList = some y.2 := by simpa using h2.symm
    simp [Instr.lookup, run_underlying hT, MapKept.run_getObj_map hr, MapKept.run_checkKey hK hc, MapKept.run_findKey hK h1, Result.andThen, h3]
end
end Go.Proofs.Ytefdnjhhaejgbaa

namespace Go.Proofs.Ytefdnjhhaejgbaa
open Go.RowKit
set_option linter.unusedVariables false

/-- the state of 'partners': the places so far, the open blocks, the leaves of each loop -/
structure PtS where
  out : List Nat
  opn : List Nat
  lv : Nat → List Nat

/-- the innermost loop that is open -/
def lastLoop (cd : List RI) : List Nat → Option Nat
  | l => l.reverse.find? fun p => decide ((cd.getD p default).op = 29)

def setAll (k : Nat) : List Nat → List Nat → List Nat
  | [], out => out
  | i :: is, out => setAll k is (out.set i k)

def ptStep (cd : List RI) (k : Nat) (s : PtS) : PtS :=
  let op := (cd.getD k default).op
  if op = 27 ∨ op = 29 then { s with opn := s.opn ++ [k] }
  else if op = 28 then { s with out := s.out.set (s.opn.getLast?.getD 0) k, opn := s.opn.dropLast ++ [k] }
  else if op = 30 then (match lastLoop cd s.opn with | some p => { s with lv := fun q => if q = p then s.lv q ++ [k] else s.lv q } | none => s)
  else if op = 31 then { s with out := setAll k (s.lv (s.opn.getLast?.getD 0)) (s.out.set (s.opn.getLast?.getD 0) k), opn := s.opn.dropLast }
  else s

def ptRun (cd : List RI) : Nat → Nat → PtS → PtS
  | 0, _, s => s
  | n + 1, k, s => ptRun cd n (k + 1) (ptStep cd k s)
def ptInit (n : Nat) : PtS := ⟨List.replicate n 0, [], fun _ => []⟩
/-- **PARTNERS** -/
def ptOf (cd : List RI) : List Nat := (ptRun cd cd.length 0 (ptInit cd.length)).out

theorem setAll_length (k : Nat) : ∀ (is out : List Nat), (setAll k is out).length = out.length
  | [], _ => rfl
  | i :: is, out => by simp only [setAll, setAll_length k is, List.length_set]
theorem setAll_snoc (k i : Nat) : ∀ (is out : List Nat), setAll k (is ++ [i]) out = (setAll k is out).set i k
  | [], _ => rfl
  | j :: is, out => by simp only [List.cons_append, setAll, setAll_snoc k i is]
theorem ptStep_length (cd : List RI) (k : Nat) (s : PtS) : (ptStep cd k s).out.length = s.out.length := by
  unfold ptStep
  dsimp only
  split
  · rfl
  split
  · simp
  split
  · split <;> rfl
  split
  · simp [setAll_length]
  · rfl
theorem ptRun_length (cd : List RI) : ∀ (n k : Nat) (s : PtS), (ptRun cd n k s).out.length = s.out.length
  | 0, _, _ => rfl
  | n + 1, k, s => by rw [ptRun, ptRun_length cd n, ptStep_length]
theorem ptOf_length (cd : List RI) : (ptOf cd).length = cd.length := by simp [ptOf, ptRun_length, ptInit]

def natsV (l : List Nat) : List Value := l.map fun (n : Nat) => .int .i64 (n : Int)
theorem natsV_length (l : List Nat) : (natsV l).length = l.length := by simp [natsV]
theorem natsV_get {l : List Nat} {i : Nat} (h : i < l.length) : (natsV l)[i]? = some (.int .i64 (l.getD i 0 : Nat)) := by simp [natsV, h]
theorem natsV_set (l : List Nat) (i k : Nat) : (natsV l).set i (.int .i64 (k : Int)) = natsV (l.set i k) := by simp [natsV, List.map_set]
theorem natsV_snoc (l : List Nat) (k : Nat) : natsV (l ++ [k]) = natsV l ++ [.int .i64 (k : Int)] := by simp [natsV]

/-- the leaves of a loop, in the map and in memory -/
def LvAt (B : Nat) (es : Array MapEntry) (τ : Nat → Nat) (q : Nat) (l : List Nat) (wr : World) : Prop :=
  (l = [] ∧ atInt q es.toList = none) ∨ (∃ g cc, atInt q es.toList = some (.slice (some ⟨g, 0, none⟩) l.length cc) ∧ wr.ownsRow B 3 1 (.slice (some ⟨g, 0, none⟩) l.length cc) l.length (natsV l) ∧ τ g = 10 + q)

structure PtMem (w : World) (s : PtS) (τ : Nat → Nat) (es : Array MapEntry) (c : Nat) (v : Value) (wr : World) : Prop where
  out : Blk wr w.heap.size (natsV s.out) 3
  map : wr.heap[w.heap.size + 1]? = some (.map es c)
  own : wr.ownsRow w.heap.size 3 1 v s.opn.length (natsV s.opn)
  keys : intKeys es.toList = true
  lvs : ∀ q, LvAt w.heap.size es τ q (s.lv q) wr
  to : τ w.heap.size = 1
  tm : τ (w.heap.size + 1) = 3
  tv : ∀ g, v.ownBlock = some g → τ g = 2
  bel : Below w.heap.size w wr

theorem LvAt.kept {B : Nat} {es : Array MapEntry} {τ : Nat → Nat} {q : Nat} {l : List Nat} {w w' : World} {row : Option Nat} (h : LvAt B es τ q l w) (hg : w.grownBy w' row) (hr : ∀ g, row = some g → τ g ≠ 10 + q) : LvAt B es τ q l w' := by
  rcases h with h | ⟨g, cc, h1, h2, h3⟩
  · exact .inl h
  · refine .inr ⟨g, cc, h1, h2.kept hg ?_, h3⟩
    right
    intro e
    simp only [Value.ownBlock] at e
    exact hr g e.symm h3

theorem grown_set (w : World) (a : Addr) (u : Value) : w.grownBy (w.setCell a u) (some a.block) := ⟨rfl, rfl, rfl, by simp [World.setCell], fun k _ hk => Below.heap_setCell _ _ _ _ (fun e => hk (by rw [e]))⟩

theorem PtMem.below {w : World} {s : PtS} {τ : Nat → Nat} {es : Array MapEntry} {c : Nat} {v : Value} {wr w' : World} (h : PtMem w s τ es c v wr) (hb : Below wr.heap.size wr w') : PtMem w s τ es c v w' :=
  { h with
    out := h.out.below hb h.out.lt
    map := by rw [hb.block _ (Array.getElem?_eq_some_iff.1 h.map).1]; exact h.map
    own := h.own.kept (grownBy_of_below hb none) (by cases hv : v.ownBlock <;> simp)
    lvs := fun q => (h.lvs q).kept (grownBy_of_below hb none) (fun g hg => by cases hg)
    bel := h.bel.trans (hb.mono h.bel.size) }

/-- a store into 'out' -/
theorem PtMem.setOut {w : World} {s : PtS} {τ : Nat → Nat} {es : Array MapEntry} {c : Nat} {v : Value} {wr : World} (h : PtMem w s τ es c v wr) (i k : Nat) : PtMem w { s with out := s.out.set i k } τ es c v (wr.setCell ⟨w.heap.size, i, none⟩ (.int .i64 (k : Int))) := by
  have hg := grown_set wr ⟨w.heap.size, i, none⟩ (.int .i64 (k : Int))
  exact { h with
    out := by have := h.out.set i (.int .i64 (k : Int)); rw [natsV_set] at this; exact this
    map := by rw [Below.heap_setCell _ _ _ _ (by show w.heap.size + 1 ≠ w.heap.size; omega)]; exact h.map
    own := h.own.kept hg (by
      cases hv : v.ownBlock with
      | none => exact .inl rfl
      | some g => right; intro e; have h1 := h.tv g hv; have h2 := h.to; simp only [Option.some.injEq] at e; rw [e] at h1; omega)
    lvs := fun q => (h.lvs q).kept hg (fun g hg0 => by
      simp only [Option.some.injEq] at hg0
      rw [← hg0, h.to]; omega)
    bel := h.bel.setCell (Nat.le_refl _) _ }

/-- a store into the top of the open blocks -/
theorem PtMem.setTop {w : World} {s : PtS} {τ : Nat → Nat} {es : Array MapEntry} {c : Nat} {g cc : Nat} {wr : World} (h : PtMem w s τ es c (.slice (some ⟨g, 0, none⟩) s.opn.length cc) wr) (i k : Nat) (hgm : g ≠ w.heap.size) (hgn : g ≠ w.heap.size + 1) :
    PtMem w { s with opn := s.opn.set i k } τ es c (.slice (some ⟨g, 0, none⟩) s.opn.length cc) (wr.setCell ⟨g, i, none⟩ (.int .i64 (k : Int))) := by
  have hg := grown_set wr ⟨g, i, none⟩ (.int .i64 (k : Int))
  have hgt : τ g = 2 := h.tv g rfl
  exact { h with
    out := h.out.other (by show w.heap.size ≠ g; omega) _
    map := by rw [Below.heap_setCell _ _ _ _ (by show w.heap.size + 1 ≠ g; omega)]; exact h.map
    own := by
      have := (h.own.stored i (.int .i64 (k : Int))).1
      rw [natsV_set] at this
      simpa using this
    lvs := fun q => (h.lvs q).kept hg (fun g' hg0 => by
      simp only [Option.some.injEq] at hg0
      rw [← hg0, hgt]; omega)
    bel := h.bel.setCell (h.own.lt g rfl).1 _ }

/-- one open block less -/
theorem PtMem.pop {w : World} {s : PtS} {l : List Nat} {p : Nat} (hs : s.opn = l ++ [p]) {τ : Nat → Nat} {es : Array MapEntry} {c : Nat} {g cc : Nat} {wr : World} (h : PtMem w s τ es c (.slice (some ⟨g, 0, none⟩) (l.length + 1) cc) wr) :
    PtMem w { s with opn := l } τ es c (.slice (some ⟨g, 0, none⟩) l.length cc) wr :=
  { h with
    own := by
      have := h.own
      rw [hs, natsV_snoc, List.length_append, List.length_singleton] at this
      exact own_pop this (by simp [natsV])
    tv := fun g' hg' => h.tv g' hg' }

/-- one open block more -/
theorem PtMem.push {w : World} {s : PtS} {τ : Nat → Nat} {es : Array MapEntry} {c : Nat} {v : Value} {wr w1 w2 : World} {k n g' c' : Nat} (h : PtMem w s τ es c v wr) (hn : s.opn.length = n) (hb : Below wr.heap.size wr w1)
    (hown : w2.ownsRow w.heap.size 3 1 (.slice (some ⟨g', 0, none⟩) (n + 1) c') (n + 1) (natsV s.opn ++ [.int .i64 (k : Int)])) (hg : w1.grownBy w2 v.ownBlock) (hat : v.ownBlock = some g' ∨ g' = w1.heap.size) :
    PtMem w { s with opn := s.opn ++ [k] } (fun x => if x = g' then 2 else τ x) es c (.slice (some ⟨g', 0, none⟩) (n + 1) c') w2 := by
  have h1 := h.below hb
  have ne : ∀ x t, x < w1.heap.size → τ x = t → t ≠ 2 → x ≠ g' ∧ some x ≠ v.ownBlock := fun x t hx ht h2 => by
    have h3 : some x ≠ v.ownBlock := fun e => h2 (by rw [← ht]; exact h.tv x e.symm)
    refine ⟨fun e => ?_, h3⟩
    rcases hat with hat | hat
    · exact h3 (by rw [hat, e])
    · omega
  have hml := (Array.getElem?_eq_some_iff.1 h1.map).1
  have n1 := ne w.heap.size 1 h1.out.lt h.to (by omega)
  have n2 := ne (w.heap.size + 1) 3 hml h.tm (by omega)
  exact {
    out := h1.out.grown hg n1.2
    map := by rw [hg.block _ hml n2.2]; exact h1.map
    own := by simpa [hn, natsV_snoc] using hown
    keys := h.keys
    lvs := fun q => by
      rcases h1.lvs q with hl | ⟨g, cc, a1, a2, a3⟩
      · exact .inl hl
      · have n3 := ne g (10 + q) (a2.lt g rfl).2 a3 (by omega)
        exact .inr ⟨g, cc, a1, a2.kept hg (.inr n3.2), by show (if g = g' then 2 else τ g) = _; rw [if_neg n3.1]; exact a3⟩
    to := by rw [if_neg n1.1]; exact h.to
    tm := by rw [if_neg n2.1]; exact h.tm
    tv := fun g hg0 => by simp only [Value.ownBlock, Option.some.injEq] at hg0; rw [if_pos hg0.symm]
    bel := h1.bel.trans (below_grown hg (by have := h1.bel.size; omega) (fun x hx => (h.own.lt x hx).1)) }

/-- one leave more -/
theorem PtMem.leave {w : World} {s : PtS} {τ : Nat → Nat} {es es' : Array MapEntry} {c c' : Nat} {v lv : Value} {wr w1 w2 : World} {k p n g' cc' : Nat} (h : PtMem w s τ es c v wr) (hn : (s.lv p).length = n) (hb : Below wr.heap.size wr w1)
    (hlv : (s.lv p = [] ∧ lv = .slice none 0 0) ∨ (∃ g cc, lv = .slice (some ⟨g, 0, none⟩) n cc ∧ τ g = 10 + p ∧ w.heap.size ≤ g))
    (hown : w2.ownsRow w.heap.size 3 1 (.slice (some ⟨g', 0, none⟩) (n + 1) cc') (n + 1) (natsV (s.lv p) ++ [.int .i64 (k : Int)])) (hg : w1.grownBy w2 lv.ownBlock) (hat : lv.ownBlock = some g' ∨ g' = w1.heap.size)
    (hk : intKeys es'.toList = true) (hat' : ∀ q, atInt q es'.toList = if q = (p : Int) then some (.slice (some ⟨g', 0, none⟩) (n + 1) cc') else atInt q es.toList) :
    PtMem w { s with lv := fun q => if q = p then s.lv q ++ [k] else s.lv q } (fun x => if x = g' then 10 + p else τ x) es' c' v { w2 with heap := w2.heap.setIfInBounds (w.heap.size + 1) (.map es' c') } := by
  have h1 := h.below hb
  have lvt : ∀ x, lv.ownBlock = some x → τ x = 10 + p ∧ w.heap.size ≤ x := fun x hx => by
    rcases hlv with ⟨_, rfl⟩ | ⟨g, cc, rfl, h2, h3⟩
    · simp [Value.ownBlock] at hx
    · simp only [Value.ownBlock, Option.some.injEq] at hx; subst hx; exact ⟨h2, h3⟩
  have ne : ∀ x t, x < w1.heap.size → τ x = t → t ≠ 10 + p → x ≠ g' ∧ some x ≠ lv.ownBlock := fun x t hx ht h2 => by
    have h3 : some x ≠ lv.ownBlock := fun e => h2 (by rw [← ht]; exact (lvt x e.symm).1)
    refine ⟨fun e => ?_, h3⟩
    rcases hat with hat | hat
    · exact h3 (by rw [hat, e])
    · omega
  have hml := (Array.getElem?_eq_some_iff.1 h1.map).1
  have n1 := ne w.heap.size 1 h1.out.lt h.to (by omega)
  have n2 := ne (w.heap.size + 1) 3 hml h.tm (by omega)
  have hs2 : w.heap.size + 1 < w2.heap.size := Nat.lt_of_lt_of_le hml hg.size
  have oth : ∀ y, y ≠ w.heap.size + 1 → ({ w2 with heap := w2.heap.setIfInBounds (w.heap.size + 1) (.map es' c') } : World).heap[y]? = w2.heap[y]? := fun y hy => by
    show (w2.heap.setIfInBounds (w.heap.size + 1) (.map es' c'))[y]? = _
    rw [Array.getElem?_setIfInBounds, if_neg (Ne.symm hy)]
  have hg3 : w2.grownBy { w2 with heap := w2.heap.setIfInBounds (w.heap.size + 1) (.map es' c') } (some (w.heap.size + 1)) := ⟨rfl, rfl, rfl, by simp, fun y _ hy => oth y (fun e => hy (by rw [e]))⟩
  exact {
    out := by unfold Blk; rw [oth _ (by omega)]; exact h1.out.grown hg n1.2
    map := by
      show (w2.heap.setIfInBounds (w.heap.size + 1) (.map es' c'))[w.heap.size + 1]? = _
      rw [Array.getElem?_setIfInBounds, if_pos rfl, if_pos hs2]
    own := by
      refine (h1.own.kept hg ?_).kept hg3 ?_
      · cases hv : v.ownBlock with
        | none => exact .inl rfl
        | some x =>
          right
          have := ne x 2 (h1.own.lt x hv).2 (h.tv x hv) (by omega)
          rw [← hv] at *
          intro e
          exact this.2 (by rw [← hv, e])
      · cases hv : v.ownBlock with
        | none => exact .inl rfl
        | some x => right; intro e; have h2 := h.tv x hv; have h3 := h.tm; simp only [Option.some.injEq] at e; rw [e] at h2; omega
    keys := hk
    lvs := fun q => by
      by_cases hq : q = p
      · subst hq
        refine .inr ⟨g', cc', ?_, ?_, if_pos rfl⟩
        · rw [hat', if_pos rfl]; simp [hn]
        · have ho2 := hown.kept hg3 (by
            right; intro e; simp only [Value.ownBlock, Option.some.injEq] at e
            exact n2.1 e.symm)
          simpa [natsV_snoc, hn] using ho2
      · show LvAt _ _ _ q (if q = p then s.lv q ++ [k] else s.lv q) _
        rw [if_neg hq]
        rcases h1.lvs q with ⟨a1, a2⟩ | ⟨g, cc, a1, a2, a3⟩
        · exact .inl ⟨a1, by rw [hat', if_neg (by omega)]; exact a2⟩
        · have n3 := ne g (10 + q) (a2.lt g rfl).2 a3 (by omega)
          refine .inr ⟨g, cc, by rw [hat', if_neg (by omega)]; exact a1, (a2.kept hg (.inr n3.2)).kept hg3 ?_, by show (if g = g' then 10 + p else τ g) = _; rw [if_neg n3.1]; exact a3⟩
          right; intro e; simp only [Value.ownBlock, Option.some.injEq] at e
          have h3 := h.tm
          rw [e] at a3; omega
    to := by rw [if_neg n1.1]; exact h.to
    tm := by rw [if_neg n2.1]; exact h.tm
    tv := fun g hg0 => by
      have := ne g 2 (h1.own.lt g hg0).2 (h.tv g hg0) (by omega)
      rw [if_neg this.1]; exact h.tv g hg0
    bel := by
      refine (h1.bel.trans (below_grown hg (by have := h1.bel.size; omega) (fun x hx => (lvt x hx).2))).trans ⟨rfl, rfl, rfl, by simp, fun y hy => oth y (by omega)⟩ }

end Go.Proofs.Ytefdnjhhaejgbaa
