/- A part of the proof of MachineFeeds: Pure Pm Pn. No condition. -/
import Derived.WalkKit
set_option linter.unusedSimpArgs false
set_option linter.unusedVariables false
namespace Go.Proofs.Ytefdnjhhaejgbaa
open Go.RowKit
structure RI where
  op : Int
  to : Int
  a : Int
  b : Int
  arg : Int
structure Ar where
  word : Bool
  size : Int
def RI.cells (i : RI) : List Value := [.int .i64 i.op, .int .i64 i.to, .int .i64 i.a, .int .i64 i.b, .int .u32 i.arg]
def RI.val (i : RI) : Value := .agg #[.int .i64 i.op, .int .i64 i.to, .int .i64 i.a, .int .i64 i.b, .int .u32 i.arg]
def Ar.val (i : Ar) : Value := .agg #[.bool i.word, .int .i64 i.size]
def flagI (b : Bool) : Int := if b then 1 else 0
def hash32 (a b : Int) : Int :=
  bits .xor .u32 (IntKind.u32.wrap (bits .xor .u32 a (IntKind.u32.wrap (b * 2654435761)) * 2246822519)) (IntKind.u32.wrap (bits .xor .u32 a (IntKind.u32.wrap (b * 2654435761)) * 2246822519) / 65536)
def arith (op a b : Int) : Int :=
  if op = 8 then (a + b) % 4294967296 else if op = 9 then (a - b) % 4294967296 else if op = 10 then (a * b) % 4294967296
  else if op = 11 then a / b else if op = 12 then a % b else if op = 13 then bits .and .u32 a b else if op = 14 then bits .or .u32 a b
  else if op = 15 then bits .xor .u32 a b else if op = 16 then a * 2 ^ (b % 32).toNat % 4294967296 else if op = 17 then a / 2 ^ (b % 32).toNat
  else if op = 18 then min a b else if op = 19 then max a b else if op = 20 then hash32 a b else if op = 21 then flagI (a == b)
  else if op = 22 then flagI (decide (a < b)) else if op = 23 then flagI (a == 0) else if op = 24 then flagI (a != 0 && b != 0)
  else if op = 25 then flagI (a != 0 || b != 0) else flagI (a != 0)
def arithErr (op b : Int) : Int := if op < 8 ∨ 26 < op then 1 else if b = 0 ∧ (op = 11 ∨ op = 12) then 17 else 0
end Go.Proofs.Ytefdnjhhaejgbaa

namespace Go.Proofs.Ytefdnjhhaejgbaa
open Go.RowKit
structure MC where
  cd : List RI
  ars : List Ar
  regs : Nat
  spills : Nat
  pt : List Nat
  input : Int
  ended : Bool
  fuel : Int
structure PS where
  regs : List Int
  spl : List Int
  arr : List (List Int)
  ctx : List Int
  loops : List (Nat × Int)
  out : List Int
  steps : Int
  pc : Nat
def RI.zero : RI := ⟨0, 0, 0, 0, 0⟩
instance : Inhabited RI := ⟨RI.zero⟩
instance : Inhabited Ar := ⟨⟨false, 0⟩⟩
def PS.get (s : PS) (r : Int) : Int := if r < 0 then 0 else s.regs.getD r.toNat 0
def PS.put (s : PS) (r v : Int) : PS := { s with regs := s.regs.set r.toNat v }
def usesTo (op : Int) : Bool := decide (op = 0 ∨ op = 32 ∨ op = 33 ∨ op = 38 ∨ op = 3 ∨ op = 23 ∨ op = 26 ∨ op = 36 ∨ (8 ≤ op ∧ op ≤ 25))
def usesA (op : Int) : Bool := decide (op = 3 ∨ op = 23 ∨ op = 26 ∨ op = 36 ∨ op = 27 ∨ op = 30 ∨ op = 29 ∨ op = 34 ∨ op = 35 ∨ op = 37 ∨ op = 4 ∨ (8 ≤ op ∧ op ≤ 25))
def usesB (op : Int) : Bool := decide (op = 4 ∨ (8 ≤ op ∧ op ≤ 25 ∧ op ≠ 23))
def isOp (op : Int) : Bool := decide (op = 0 ∨ op = 3 ∨ op = 4 ∨ (8 ≤ op ∧ op ≤ 38))
def mostArg (nA spills : Int) (op : Int) : Int :=
  if op = 0 then 4294967295 else if op = 3 ∨ op = 4 then nA - 1 else if op = 35 then 15 else if op = 29 then 65536 else if op = 37 ∨ op = 38 then spills - 1 else 0
def rightReg (regs : Int) (n : Int) (used : Bool) : Bool := if used then decide (0 ≤ n ∧ n < regs) else decide (n = -1)
def chkI (regs spills nA : Int) (i : RI) : Int :=
  if isOp i.op = false then 1
  else if rightReg regs i.to (usesTo i.op) = false ∨ rightReg regs i.a (usesA i.op) = false ∨ rightReg regs i.b (usesB i.op) = false ∨ mostArg nA spills i.op < i.arg then 2 else 0
def tick (c : MC) (s : PS) : Except Int PS := if s.steps < c.fuel then .ok { s with steps := s.steps + 1 } else .error 19
def effect (c : MC) (s : PS) (i : RI) : Except Int PS :=
  if i.op = 0 then .ok (s.put i.to i.arg)
  else if i.op = 36 then .ok (s.put i.to (s.get i.a))
  else if i.op = 37 then .ok { s with spl := s.spl.set i.arg.toNat (s.get i.a) }
  else if i.op = 38 then .ok (s.put i.to (s.spl.getD i.arg.toNat 0))
  else if i.op = 32 then .ok (s.put i.to c.input)
  else if i.op = 33 then .ok (s.put i.to (if c.ended then 1 else 0))
  else if i.op = 34 then (if s.out.length < 65536 then .ok { s with out := s.out ++ [s.get i.a % 256] } else .error 5)
  else if i.op = 35 then .ok { s with ctx := s.ctx.set i.arg.toNat (s.get i.a) }
  else if i.op = 3 then
    (if (s.get i.a).toNat < (s.arr.getD i.arg.toNat []).length then .ok (s.put i.to ((s.arr.getD i.arg.toNat []).getD (s.get i.a).toNat 0)) else .error 16)
  else if i.op = 4 then
    (if (s.get i.a).toNat < (s.arr.getD i.arg.toNat []).length then
      .ok { s with arr := s.arr.set i.arg.toNat ((s.arr.getD i.arg.toNat []).set (s.get i.a).toNat (if (c.ars.getD i.arg.toNat default).word then s.get i.b else s.get i.b % 256)) } else .error 16)
  else if i.op = 27 then .ok (if s.get i.a = 0 then { s with pc := c.pt.getD s.pc 0 } else s)
  else if i.op = 28 then .ok { s with pc := c.pt.getD s.pc 0 }
  else if i.op = 29 then
    (if i.arg < s.get i.a then .error 18 else if s.get i.a = 0 then .ok { s with pc := c.pt.getD s.pc 0 } else tick c { s with loops := s.loops ++ [(s.pc, s.get i.a)] })
  else if i.op = 30 then .ok (if s.get i.a = 0 then s else { s with pc := c.pt.getD s.pc 0, loops := s.loops.dropLast })
  else if i.op = 31 then
    (match s.loops.getLast? with
      | none => .ok s
      | some (b, l) => if c.pt.getD b 0 ≠ s.pc then .ok s else if l = 1 then .ok { s with loops := s.loops.dropLast }
        else tick c { s with loops := s.loops.dropLast ++ [(b, l - 1)], pc := b })
  else (if arithErr i.op (s.get i.b) = 0 then .ok (s.put i.to (arith i.op (s.get i.a) (s.get i.b))) else .error (arithErr i.op (s.get i.b)))
def mstep (c : MC) (s : PS) : Except Int PS :=
  let i := c.cd.getD s.pc default
  (if i.op ≠ 28 ∧ i.op ≠ 31 then tick c s else .ok s) |>.bind fun s => (effect c s i).bind fun s => .ok { s with pc := s.pc + 1 }
def mrun (c : MC) : Nat → PS → Except Int PS
  | 0, s => .ok s
  | n + 1, s => if s.pc < c.cd.length then (mstep c s).bind (mrun c n) else .ok s
end Go.Proofs.Ytefdnjhhaejgbaa

namespace Go.Proofs.Ytefdnjhhaejgbaa
open Go.RowKit
structure NB where
  loop : Bool
  within : Bool
  other : Bool
deriving DecidableEq
def nbTop (o : List NB) : NB := o.getLast?.getD ⟨false, false, false⟩
def nestStep (op : Int) (o : List NB) : Option (List NB) :=
  if op = 27 then (if o.length < 8 then some (o ++ [⟨false, (nbTop o).within, false⟩]) else none)
  else if op = 29 then (if o.length < 8 then some (o ++ [⟨true, true, false⟩]) else none)
  else if op = 28 then (if o ≠ [] ∧ (nbTop o).loop = false ∧ (nbTop o).other = false then some (o.dropLast ++ [⟨(nbTop o).loop, (nbTop o).within, true⟩]) else none)
  else if op = 30 then (if (nbTop o).within = true then some o else none)
  else if op = 31 then (if o ≠ [] then some o.dropLast else none)
  else some o
def nestRun : List RI → Nat → List NB → Int × Bool
  | [], k, o => (k, decide (0 < o.length))
  | i :: l, k, o => match nestStep i.op o with
    | some o' => nestRun l (k + 1) o'
    | none => (k, true)
theorem nestStep_len {op : Int} {o o' : List NB} (h : nestStep op o = some o') (hl : o.length ≤ 8) : o'.length ≤ 8 := by
  unfold nestStep at h
  (repeat' split at h) <;> first | (cases h; done) | (cases h; simp_all; try omega) | (simp at h)
  all_goals (try (subst h)) <;> simp_all <;> omega
theorem nest_next (cd : List RI) (k : Nat) (hk : k < cd.length) (o o' : List NB) (h : nestStep (cd.getD k default).op o = some o') : nestRun (cd.drop k) k o = nestRun (cd.drop (k + 1)) (k + 1) o' := by
  rw [List.drop_eq_getElem_cons hk, nestRun]
  rw [List.getD_eq_getElem?_getD, List.getElem?_eq_getElem hk, Option.getD_some] at h
  rw [h]
theorem nest_bad (cd : List RI) (k : Nat) (hk : k < cd.length) (o : List NB) (h : nestStep (cd.getD k default).op o = none) : nestRun (cd.drop k) k o = ((k : Int), true) := by
  rw [List.drop_eq_getElem_cons hk, nestRun]
  rw [List.getD_eq_getElem?_getD, List.getElem?_eq_getElem hk, Option.getD_some] at h
  rw [h]
theorem nest_end (cd : List RI) (o : List NB) : nestRun (cd.drop cd.length) cd.length o = ((cd.length : Int), decide (0 < o.length)) := by
  rw [List.drop_length, nestRun]
def flatNB (o : List NB) : List Value := o.flatMap fun b => [.bool b.loop, .bool b.within, .bool b.other]
theorem flatNB_snoc (l : List NB) (p : NB) : flatNB (l ++ [p]) = flatNB l ++ [.bool p.loop, .bool p.within, .bool p.other] := by simp [flatNB]
theorem flatNB_length (l : List NB) : (flatNB l).length = l.length * 3 := by
  induction l with
  | nil => rfl
  | cons p l ih => simp only [flatNB, List.flatMap_cons, List.length_append, List.length_cons, List.length_nil] at *; omega
theorem nbTop_snoc (l : List NB) (p : NB) : nbTop (l ++ [p]) = p := by simp [nbTop]
def chkArs : List Ar → Int → Option Int
  | [], n => some n
  | a :: l, n => if a.size < 1 ∨ 65536 < a.size then none else chkArs l (n + a.size)
def chkAll (regs spills nA : Int) : List RI → Nat → Option (Int × Int)
  | [], _ => none
  | i :: l, k => if chkI regs spills nA i ≠ 0 then some ((k : Int), chkI regs spills nA i) else chkAll regs spills nA l (k + 1)
def chkCode (ars : List Ar) (regs spills : Int) (cd : List RI) : Int × Int :=
  if 8 < ars.length then (0, 6) else
  match chkArs ars 0 with
  | none => (0, 2)
  | some n => if 65536 < n ∨ regs < 0 ∨ 1024 < regs ∨ spills < 0 ∨ 1024 < spills then (0, 2) else
    if 16384 < cd.length then (0, 6) else
    match chkAll regs spills ars.length cd 0 with
    | some r => r
    | none => if (nestRun cd 0 []).2 then ((nestRun cd 0 []).1, 15) else (0, 0)
end Go.Proofs.Ytefdnjhhaejgbaa
