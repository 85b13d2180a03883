/-
  PROVED: 'Rows.OptimizerSharesSaid': OptimizerShares returns true for all code. No condition.
-/
import Derived.OpenShut
import Derived.ProofKit
import Derived.ShutString
import Derived.WalkKit
import Derived.Test.YtidhfimbnjaceaaGreatGh40
import Derived.Test.YtidhfimbnjaceaaGreatGh41
import Derived.Test.YtidhfimbnjaceaaGreatRows
set_option linter.unusedSimpArgs false
set_option linter.unusedVariables false
set_option linter.constructorNameAsVariable false
set_option maxRecDepth 100000
set_option maxHeartbeats 4000000
namespace Go.Proofs.YtidhfimbnjaceaaGreat
open Go.RowKit
theorem sf.bndS {regs:Nat} {par nA:Int} {x:In} (h:sf regs par nA x):(0<=x.1/\x.1<39)/\bf x.1 x.2.1<regs:=by
 refine⟨h.op,?_⟩
 have:=h.to
 unfold bf
 split
 ·rename_i hu;rw[if_pos hu] at this;exact this.2
 ·omega
theorem sf.arr {regs:Nat} {par:Int} {na:Nat} {x:In} (h:sf regs par na x) (ha:0<=x.2.2.2.2) (hx:x.1=3\/x.1=4):0<=x.2.2.2.2/\x.2.2.2.2<na:=by
 have:=h.arg
 have hm:b6 na par x.1=na-1:=by unfold b6;rw[if_neg (by omega),if_pos hx]
 rw[hm] at this
 omega
theorem sf.fact {regs:Nat} {par:Int} {na:Nat} {x:In} (h:sf regs par na x) (ha:0<=x.2.2.2.2) (he:dv x.1=true):xd regs na x:=by
 refine⟨?_,?_,?_,λh3=>h.arr ha (.inl h3)⟩
 ·have:=h.to
  obtain⟨k,hk⟩:∃k:Nat,x.1=(k:Int):=⟨x.1.toNat,by have:=h.op;omega⟩
  rw[hk] at he
  rw[hk,Int.toNat_natCast,if_pos (my k (by have:=h.op;omega) he)] at this
  exact this
 ·have:=h.a
  split at this<;>omega
 ·have:=h.b
  split at this<;>omega
theorem m9 {la:List (Bool×Int)} {regs:Nat} {par:Int} {cs:List In} (hz:(fe la regs par cs).2=0) (ha:ep cs):a7 Tryz.prog 16 [ag la.length (aC la) regs par cs] [.v (ag la.length (aC la) regs par (gc cs)),.v (.n .i64 0)]:=by
 have h:=dh hz
 have hn:=h.ncs
 have hA:=h.nA
 have hr:=h.nregs
 obtain⟨hp,hpl,hsh,t,ht,hw,he⟩:=h.pt
 obtain⟨a,b,e1,e2,e3⟩:=ol (regs:=regs) (nA:=la.length) h.inC (λx hx=>(ha x hx).1) hsh
 have hf:gc cs=b.out:=by unfold gc;rw[e1];exact e3
 have hck:=ii la regs par cs (by omega) (by omega) ha
 rw[hz] at hck
 have hpt:=qz cs t ht hw hn
 rw[<-he] at hpt
 have:=gU (oy (par:=par) (by omega) qg (by omega) (by omega) hck hpt hpl (λx hx=>(h.inC x hx).bndS) (λx hx h4=>(h.inC x hx).arr (ha x hx).1 (.inr h4)) (λx hx hx'=>(h.inC x hx).fact (ha x hx).1 hx') e2) rfl
 rw[hf]
 exact this
theorem q9 (la:List (Bool×Int)) (regs par:Int) (cs:List In) (ha:ep cs):a7 Tryz.prog 5 [ag la.length (aC la) regs par cs] [.v (.b true)]:=by
 refine mn ha λhf hz=>?_
 have h:=dh hz
 have hr:=h.nregs
 have hn:=h.ncs
 have hA:=h.nA
 obtain⟨n,rfl⟩:∃n:Nat,regs=(n:Int):=⟨regs.toNat,by omega⟩
 refine oV hf (kM hz ha) (m9 hz ha) ?_
 have:=kb la (by omega) n par (gc cs) (gc cs) (by have:=m5 (cs:=cs);omega)
 rw[decide_eq_true rfl] at this
 exact this
end Go.Proofs.YtidhfimbnjaceaaGreat
namespace Go.Proofs.YtidhfimbnjaceaaGreat.optimizerShares
open Go.ChangeShapes Go.WideShapes Go.ChangeAt Go.RowKit
open Go.ChangeMaps (open_string shut_string)
theorem own : ownKnob Tryz.prog.godebug = none := by kernel_rfl
theorem params_read : (Tryz.f5.params.toList.all fun t => Tryz.prog.readableRec t && decide (t < Tryz.prog.types.size)) = true := by kernel_rfl
theorem laid : laidOutB Tryz.prog = true := by kernel_rfl
theorem params_len : Tryz.f5.params.toList.length = 1 := by kernel_rfl
set_option maxRecDepth 100000 in
theorem lifted (os : Os) (started : os.Started) (H : Type) (enc : TypeId × Value → H) :
    ReturnsInHanded {} Tryz.checked os 5 .any (Rows.optimizerSharesSpec.pre6 enc Tryz.prog Tryz.f5 Rows.optimizerSharesRow.domain false) (Rows.optimizerSharesSpec.post enc Tryz.prog Tryz.f5 false true false false) := by
  refine vR (C := Tryz.checked) (k := 5) (f := Tryz.f5) (s := Rows.optimizerSharesSpec) (tb := 4) own started (by kernel_rfl) Tryz.func5
    (ChangeSpec.witness6 (enc := enc) (C := Tryz.checked) false ⟨#[], #[.agg #[.slice none 0 0, .int .i64 0, .int .i64 0, .slice none 0 0]], []⟩ 8 (by kernel_rfl) (by kernel_rfl) (by kernel_rfl) (by kernel_rfl))
    laid ?_ rfl ?_ (by kernel_rfl) Tryz.underlying4 ?_
  · intro t ht
    have := List.all_eq_true.1 params_read t ht
    rw [Bool.and_eq_true, decide_eq_true_eq] at this
    exact this
  · intro ds hds
    rw [params_len] at hds
    match ds, hds with
    | [a], _ => rfl
  · intro W base args ds p hval hA
    rw [Tryz.params5] at hA hval
    obtain ⟨v0, vs0, d0, ds0, p0, q0, hargs, rfl, rfl, h0, r0⟩ := trodAll_cons hA
    obtain ⟨rfl, rfl, rfl⟩ := trodAll_nil r0
    obtain rfl : args = #[v0] := by cases args; simp_all
    obtain ⟨la, regs, par, cs, hv, ok⟩ := oG (hval 0 _ v0 rfl rfl) h0
    exact oM (q9 la regs par cs ok) hv
theorem over : Rows.optimizerSharesRow.holds Tryz.pinned (OpenSpec.ofChange Rows.optimizerSharesSpec) :=
  OpenClaim.holds_of_wide 5 Tryz.f5 rfl rfl rfl rfl rfl rfl rfl ⟨rfl, rfl, rfl, rfl, rfl⟩ rfl rfl rfl rfl rfl (by kernel_rfl) Tryz.func5 (by kernel_rfl)
    (of_decide_eq_true (by kernel_rfl)) (by unfold Func.isWrapper; first | (rw [if_pos (by decide +kernel)]; kernel_rfl) | (rw [if_neg (by decide +kernel)]; exact ⟨rfl, rfl⟩))
    (fun os started H enc _ => lifted os started H enc)
/-- ████ THE STATEMENT ████ -/
theorem proved : Rows.OptimizerSharesSaid :=
  over
#print axioms proved
end Go.Proofs.YtidhfimbnjaceaaGreat.optimizerShares