/- A part of the proof of CostLimits. No condition. -/
import Derived.Recover
import Derived.WalkKit
import Derived.Test.YtdpkgnmmikebdaaGreatGi13
import Derived.Test.YtdpkgnmmikebdaaGreatProg
import Derived.Test.YtdpkgnmmikebdaaGreatGip
set_option linter.unusedSimpArgs false
set_option linter.unusedVariables false
set_option linter.constructorNameAsVariable false
set_option maxRecDepth 100000
set_option maxHeartbeats 4000000
namespace Go.Proofs.YtdpkgnmmikebdaaGreat
open Go.RowKit
theorem CD(p q x:Value): #[p,q]++((Array.replicate 24 undef).setIfInBounds 5 x).setIfInBounds 2 x=
  #[p,q,undef,undef,x,undef,undef,x,undef,undef,undef,undef,undef,undef,undef,undef,undef,undef,undef,undef,undef,undef,undef,undef,undef,undef]:=by kernel_rfl
theorem E9(w:World):(binOp .eql 20 .nilIface .nilIface).run av w= .ok (.bool true) w:=by kernel_rfl
theorem x5(p q:Value)(w:World):CallsD av 82 #[p,q] .returning w λe u' w'=>e= .returned (.tuple #[])/\u'= .returning/\w'=w:=by
 refine callsD_of_wpS Tryz.func82 rfl λc₀ cs hu=>?_;apply wpS_seq;apply wpS_region;simp[wpOpsS,go_sem,recoverD,hu,Tryz.ntmps82,Exit.thenS];refine wpS_of_wp ?_;rw[CD];have hq:=E9
 go_wp2
 cases c₀;simp_all [bodyPostS,results,Tryz.results82]
theorem vV(p q:Value)(w:World):CallsD av 51 #[p,q] .returning w λe u' w'=>e= .returned (.tuple #[])/\u'= .returning/\w'=w:=by
 refine callsD_of_wpS Tryz.func51 rfl λc₀ cs hu=>?_;apply wpS_seq;apply wpS_region;simp[wpOpsS,go_sem,recoverD,hu,Tryz.ntmps51,Exit.thenS];refine wpS_of_wp ?_
 go_wp2
 cases c₀;simp_all [bodyPostS,results,Tryz.results51]
theorem pU{f n:Nat}:∀{l:List (Nat×Nat)},l.lookup f=some n->(f,n) ∈ l
 |[],h=>by cases h
 |(a,b)::l,h=>by
  unfold List.lookup at h;split at h
  ·rename_i he;cases h;rw[beq_iff_eq.1 he];exact aps ..
  ·exact apx _ (pU h)
def M0(P:Program)(f n:Nat):Prop:=(∃fn,P.funcs[f]? =some fn/\(fn.name== "runtime.NumGoroutine")=false/\fn.body.isNone=false)/\
 ∀(args:Array Value) (w:World),args.size=n->CallsD P f args .returning w λe u' w'=>e= .returned (.tuple #[])/\u'= .returning/\w'=w
def yH(P:Program)(l:List (Nat×Nat)):Prop:=∀p ∈ l,M0 P p.1 p.2
theorem yH.app{P:Program}{l:List (Nat×Nat)}(h:yH P l){p:Nat×Nat}(hp:M0 P p.1 p.2):yH P (l++[p]):=λq hq=>by
 rcases apS.1 hq with hq|hq
 ·exact h q hq
 ·rw[apy.1 hq];exact hp
theorem wO{args:Array Value}(h:args.size=2):∃p q,args= #[p,q]:=by
 match args,h with
 |⟨[p,q]⟩,_=>exact⟨p,q,rfl⟩
instance:IdleOK av:=by
 have h0:yH av []:=λp hp=>by cases hp
 have h0:=h0.app (p:=(82,2)) ⟨⟨_,Tryz.func82,by kernel_rfl,rfl⟩,λargs w h=>by
  obtain⟨p,q,rfl⟩:=wO h;exact x5 p q w⟩
 have h0:=h0.app (p:=(51,2)) ⟨⟨_,Tryz.func51,by kernel_rfl,rfl⟩,λargs w h=>by
  obtain⟨p,q,rfl⟩:=wO h;exact vV p q w⟩
 have h1:yH av MV:=h0;exact⟨λf n h=>(h1 _ (pU h)).1,λf n h=>(h1 _ (pU h)).2⟩
end Go.Proofs.YtdpkgnmmikebdaaGreat