/-
  PROVED: 'Rows.OptimizerOptimizesSaid': OptimizerOptimizes returns true for all code. No condition.
-/
import Derived.OpenShut
import Derived.ProofKit
import Derived.ShutString
import Derived.WalkKit
import Derived.Test.YtidhfimbnjaceaaGreatGq37
import Derived.Test.YtidhfimbnjaceaaGreatGq33
import Derived.Test.YtidhfimbnjaceaaGreatGq39
import Derived.Test.YtidhfimbnjaceaaGreatGq17
import Derived.Test.YtidhfimbnjaceaaGreatGq34
import Derived.Test.YtidhfimbnjaceaaGreatRows
set_option linter.unusedSimpArgs false
set_option linter.unusedVariables false
set_option linter.constructorNameAsVariable false
set_option maxRecDepth 100000
set_option maxHeartbeats 4000000
namespace Go.Proofs.YtidhfimbnjaceaaGreat
open Go.RowKit
theorem qj{la:List (Bool×Int)}{regs fuel:Nat}{par:Int}{cs:List In}{L:Lv}(hz:(eX la regs par cs).2=0)(ha:et cs)(hL:jY fuel regs cs=some L):a7 Tryz.prog 18 [ae la.length (aC la) regs par cs] [.v (ae la.length (aC la) regs par (fI fuel regs cs)),.v (.n .i64 0)]:=by
 have h:=cq hz
 have hn:=h.ncs
 have hA:=h.nA
 have hr:=h.nregs
 obtain⟨hp,hpl,hsh,t,ht,hw,he⟩:=h.pt
 have hck:=dQ la regs par cs (by omega) (by omega) ha
 rw[hz] at hck
 have hpt:=i4 cs t ht hw hn
 rw[<-he] at hpt
 have hlv:=uj (na:=la.length) (ra:=aC la) (par:=par) (Lf:=L) (by omega) (by omega) hpt hpl (h.inOk ha) h.ptr (λi hi=>od hi (h.ptr i hi).1) (by rw[Ix];exact hL)
 have hf:fI fuel regs cs=gz (cL L cs 0).length (cL L cs 0):=by unfold fI;rw[hL]
 rw[hf]
 exact sk (by omega) kZ (by omega) (by omega) hck hlv (λx hx hi=>tM (h.inC x hx) hi)
theorem qv{p:List In->List In}(h:∀c,(p c).length<=c.length):∀(f:Nat) (c:List In),(gj p f c).length<=c.length
 |0,c=>Nat.le_refl _
 |f+1,c=>by
  rw[gj]
  split
  ·exact Nat.le_refl _
  ·exact Nat.le_trans (qv h f (p c)) (h c)
theorem qD{la:List (Bool×Int)}{n:Nat}{par:Int}{c:List In}(h:dY la n par c):∃L,jY (16384*n+1) n c=some L:=by
 have hn:=(cq h.chk).ncs
 have:=Nat.mul_le_mul_right n hn
 exact kN _ _ (by omega)
theorem oZ(la:List (Bool×Int))(regs par:Int)(cs:List In)(ha:et cs):a7 Tryz.prog 7 [ae la.length (aC la) regs par cs] [.v (.b true)]:=by
 refine ll ha λhf hz=>?_
 have h:=cq hz
 have hr:=h.nregs
 have hn:=h.ncs
 have hA:=h.nA
 obtain⟨n,rfl⟩:∃n:Nat,regs=(n:Int):=⟨regs.toNat,by omega⟩
 have hg:dY la n par cs:=⟨hz,ha⟩
 have hlv:∀c,dY la n par c->jY (16384*n+1) n c≠none:=λc hc=>by
  obtain⟨L,hL⟩:=qD hc
  rw[hL];simp
 have hlen:(gj (λc=>fI (16384*n+1) n (fR (fT (dE n c)))) 8 cs).length<=cs.length:=
  qv (λc=>Nat.le_trans mi (Nat.le_trans l8 (Nat.le_trans mO kE))) 8 cs
 have hO:=jn (la:=la) (regs:=n) (par:=par) (cs:=cs) (dY la n par) (λc hc=>hc) (λc hc=>kS hc) (λc hc=>mN hc) (λc hc=>l7 hc) (16384*n+1) hlv (λc hc=>mh (hlv c hc) hc) (λc L _ _ _=>II) hg hlen
 have hck:=dQ la n par cs (by omega) (by omega) ha
 rw[hz] at hck
 have hR:=wC (Good:=dY la n par) (by omega) kZ (by omega) hck (λc d hc hd=>by have:=(cq hc.chk).ncs;exact jH la (by omega) n par c d (by omega)) (λc hc=>⟨so hc.chk hc.arg,kS hc⟩) (λc hc=>⟨oP hc.chk hc.arg,mN hc⟩) (λc hc=>⟨qi hc.chk hc.arg,l7 hc⟩)
  (λc hc=>by obtain⟨L,hL⟩:=qD hc;exact⟨qj hc.chk hc.arg hL,mh (hlv c hc) hc⟩) hg
 refine nz hf hO hR ?_
 have:=jH la (by omega) n par (gj (λc=>fI (16384*n+1) n (fR (fT (dE n c)))) 8 cs) (gj (λc=>fI (16384*n+1) n (fR (fT (dE n c)))) 8 cs) (by omega)
 rw[decide_eq_true rfl] at this
 exact this
end Go.Proofs.YtidhfimbnjaceaaGreat
namespace Go.Proofs.YtidhfimbnjaceaaGreat.optimizerOptimizes
open Go.ChangeShapes Go.WideShapes Go.ChangeAt Go.RowKit
open Go.ChangeMaps (open_string shut_string)
theorem own : ownKnob Tryz.prog.godebug = none := by kernel_rfl
theorem params_read : (Tryz.f7.params.toList.all fun t => Tryz.prog.readableRec t && decide (t < Tryz.prog.types.size)) = true := by kernel_rfl
theorem laid : laidOutB Tryz.prog = true := by kernel_rfl
theorem params_len : Tryz.f7.params.toList.length = 1 := by kernel_rfl
set_option maxRecDepth 100000 in
theorem lifted (os : Os) (started : os.Started) (H : Type) (enc : TypeId × Value → H) :
    ReturnsInHanded {} Tryz.checked os 7 .any (Rows.optimizerOptimizesSpec.pre6 enc Tryz.prog Tryz.f7 Rows.optimizerOptimizesRow.domain false) (Rows.optimizerOptimizesSpec.post enc Tryz.prog Tryz.f7 false true false false) := by
  refine zH (C := Tryz.checked) (k := 7) (f := Tryz.f7) (s := Rows.optimizerOptimizesSpec) (tb := 4) own started (by kernel_rfl) Tryz.func7
    (ChangeSpec.witness6 (enc := enc) (C := Tryz.checked) false ⟨#[], #[.agg #[.slice none 0 0, .int .i64 0, .int .i64 0, .slice none 0 0]], []⟩ 8 (by kernel_rfl) (by kernel_rfl) (by kernel_rfl) (by kernel_rfl))
    laid ?_ rfl ?_ (by kernel_rfl) Tryz.underlying4 ?_
  · intro t ht
    have := List.all_eq_true.1 params_read t ht
    rw [Bool.and_eq_true, decide_eq_true_eq] at this
    exact this
  · intro ds hds
    rw [params_len] at hds
    match ds, hds with
    | [a], _ => rfl
  · intro W base args ds p hval hA
    rw [Tryz.params7] at hA hval
    obtain ⟨v0, vs0, d0, ds0, p0, q0, hargs, rfl, rfl, h0, r0⟩ := trodAll_cons hA
    obtain ⟨rfl, rfl, rfl⟩ := trodAll_nil r0
    obtain rfl : args = #[v0] := by cases args; simp_all
    obtain ⟨la, regs, par, cs, hv, ok⟩ := sw (hval 0 _ v0 rfl rfl) h0
    exact sD (oZ la regs par cs ok) hv
theorem over : Rows.optimizerOptimizesRow.holds Tryz.pinned (OpenSpec.ofChange Rows.optimizerOptimizesSpec) :=
  OpenClaim.holds_of_wide 7 Tryz.f7 rfl rfl rfl rfl rfl rfl rfl ⟨rfl, rfl, rfl, rfl, rfl⟩ rfl rfl rfl rfl rfl (by kernel_rfl) Tryz.func7 (by kernel_rfl)
    (of_decide_eq_true (by kernel_rfl)) (by unfold Func.isWrapper; first | (rw [if_pos (by decide +kernel)]; kernel_rfl) | (rw [if_neg (by decide +kernel)]; exact ⟨rfl, rfl⟩))
    (fun os started H enc _ => lifted os started H enc)
/-- ████ THE STATEMENT ████ -/
theorem proved : Rows.OptimizerOptimizesSaid :=
  over
#print axioms proved
end Go.Proofs.YtidhfimbnjaceaaGreat.optimizerOptimizes