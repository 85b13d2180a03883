/- A part of the proof of CostBounds: Idl. No condition. -/
import Derived.Recover
import Derived.WalkKit
import Derived.Test.YthehakngpbjgjaaGreatGd13
import Derived.Test.YthehakngpbjgjaaGreatProg
set_option linter.unusedSimpArgs false
set_option linter.unusedVariables false
set_option linter.constructorNameAsVariable false
set_option maxRecDepth 100000
set_option maxHeartbeats 4000000
namespace Go.Proofs.YthehakngpbjgjaaGreat
open Go.RowKit
theorem pO(p q x:Value): #[p,q]++((Array.replicate 24 undef).setIfInBounds 5 x).setIfInBounds 2 x=
  #[p,q,undef,undef,x,undef,undef,x,undef,undef,undef,undef,undef,undef,undef,undef,undef,undef,undef,undef,undef,undef,undef,undef,undef,undef]:=by kernel_rfl
theorem sR(w:World):(binOp .eql 20 .nilIface .nilIface).run Tryz.prog w= .ok (.bool true) w:=by kernel_rfl
theorem lH(p q:Value)(w:World):CallsD Tryz.prog 80 #[p,q] .returning w λe u' w'=>e= .returned (.tuple #[])/\u'= .returning/\w'=w:=by
 refine callsD_of_wpS Tryz.func80 rfl λc₀ cs hu=>?_
 apply wpS_seq
 apply wpS_region
 simp[wpOpsS,go_sem,recoverD,hu,Tryz.ntmps80,Exit.thenS]
 refine wpS_of_wp ?_
 rw[pO]
 have hq:=sR
 go_wp2
 cases c₀
 simp_all [bodyPostS,results,Tryz.results80]
theorem ky(p q:Value)(w:World):CallsD Tryz.prog 61 #[p,q] .returning w λe u' w'=>e= .returned (.tuple #[])/\u'= .returning/\w'=w:=by
 refine callsD_of_wpS Tryz.func61 rfl λc₀ cs hu=>?_
 apply wpS_seq
 apply wpS_region
 simp[wpOpsS,go_sem,recoverD,hu,Tryz.ntmps61,Exit.thenS]
 refine wpS_of_wp ?_
 go_wp2
 cases c₀
 simp_all [bodyPostS,results,Tryz.results61]
theorem f8{f n:Nat}:∀{l:List (Nat×Nat)},l.lookup f=some n->(f,n) ∈ l
 |[],h=>by cases h
 |(a,b)::l,h=>by
  unfold List.lookup at h
  split at h
  ·rename_i he
   cases h
   rw[beq_iff_eq.1 he]
   exact List.mem_cons_self ..
  ·exact List.mem_cons_of_mem _ (f8 h)
def zZ(P:Program)(f n:Nat):Prop:=(∃fn,P.funcs[f]? =some fn/\(fn.name== "runtime.NumGoroutine")=false/\fn.body.isNone=false)/\
 ∀(args:Array Value) (w:World),args.size=n->CallsD P f args .returning w λe u' w'=>e= .returned (.tuple #[])/\u'= .returning/\w'=w
def l4(P:Program)(l:List (Nat×Nat)):Prop:=∀p ∈ l,zZ P p.1 p.2
theorem l4.app{P:Program}{l:List (Nat×Nat)}(h:l4 P l){p:Nat×Nat}(hp:zZ P p.1 p.2):l4 P (l++[p]):=λq hq=>by
 rcases List.mem_append.1 hq with hq|hq
 ·exact h q hq
 ·rw[List.mem_singleton.1 hq];exact hp
theorem kT{args:Array Value}(h:args.size=2):∃p q,args= #[p,q]:=by
 match args,h with
 |⟨[p,q]⟩,_=>exact⟨p,q,rfl⟩
instance:IdleOK Tryz.prog:=by
 have h0:l4 Tryz.prog []:=λp hp=>by cases hp
 have h0:=h0.app (p:=(80,2)) ⟨⟨_,Tryz.func80,by kernel_rfl,rfl⟩,λargs w h=>by
  obtain⟨p,q,rfl⟩:=kT h
  exact lH p q w⟩
 have h0:=h0.app (p:=(61,2)) ⟨⟨_,Tryz.func61,by kernel_rfl,rfl⟩,λargs w h=>by
  obtain⟨p,q,rfl⟩:=kT h
  exact ky p q w⟩
 have h1:l4 Tryz.prog zS:=h0
 exact⟨λf n h=>(h1 _ (f8 h)).1,λf n h=>(h1 _ (f8 h)).2⟩
end Go.Proofs.YthehakngpbjgjaaGreat