/- A part of the proof of AllocateNeeds: Reg2. No condition. -/
import Derived.Test.YteopfmnnhlhbmaaHn02
set_option linter.unusedSimpArgs false
set_option linter.unusedVariables false
set_option linter.constructorNameAsVariable false
set_option maxRecDepth 100000
set_option maxHeartbeats 4000000
namespace Go.Proofs.Yteopfmnnhlhbmaa
open Go.RowKit
section
variable {P:Program} {ops:Array Oper} {Q:Exit->Act->World->Prop} {md:Region.Mode} {S:World->Prop}
def fF(P:Program)(md:Region.Mode)(ops:Array Oper)(Q:Exit->Act->World->Prop)(S:World->Prop)(pu:List Nat):Nat->Array Bool->Act->World->Prop
 |0,listed,a,w=>Region.ready md ops listed=[]/\Q .normal a w
 |fuel+1,listed,a,w=>
  (Region.ready md ops listed=[]->Q .normal a w)/\
  ∀i ∈ Region.ready md ops listed,wpOp P ops Q i (λa' w'=>((pu.contains i=true/\w'=w)\/S w')/\fF P md ops Q S pu fuel (listed.setIfInBounds i true) a' w') a w
theorem iz{pu:List Nat}:∀(fuel:Nat) (listed:Array Bool) (a:Act) (w:World),fF P md ops Q S pu fuel listed a w->wpAny P md ops Q fuel listed a w
 |0,_,_,_,h=>h
 |fuel+1,_,_,_,h=>⟨h.1,λi hi=>wpOp_mono (λa' w' h'=>iz fuel _ a' w' h'.2) (h.2 i hi)⟩
theorem i3{pu:List Nat}{i:Nat}{oi:Oper}{v:Value}(hi:ops[i]? =some oi)(hsel:∀(j:Nat) (o:Oper) cs b,ops[j]? =some o->o.op≠ .select cs b)
  (hQ:∀c a w,Q (.panic c) (a.put oi.dst v) w->Q (.panic c) a w):
  ∀(fuel:Nat) (listed:Array Bool) (a:Act) (w:World),
   (∀j oj,ops[j]? =some oj->j≠i->listed.getD j true=false->(∀e ∈ oj.after,Region.binds md e=true->e.on≠i)->oi.apart ops oj=true)->
   i ∈ Region.ready md ops listed->YieldsIf P ops S oi v a->S w->
   fF P md ops Q S pu fuel (listed.setIfInBounds i true) (a.put oi.dst v) w->fF P md ops Q S pu (fuel+1) listed a w:=by
 intro fuel
 induction fuel with
 |zero=>
  intro listed a w _ hr hy hS H
  refine⟨λh=>(by rw[h] at hr;cases hr),λj hj=>?_⟩
  by_cases hji:j=i
  ·subst hji;exact hy.wpOp hi hS ⟨.inr hS,H⟩
  ·have:=ready_mono hj hji
   rw[H.1] at this
   cases this
 |succ fuel ih=>
  intro listed a w hfree hr hy hS H
  refine⟨λh=>(by rw[h] at hr;cases hr),λj hj=>?_⟩
  by_cases hji:j=i
  ·subst hji;exact hy.wpOp hi hS ⟨.inr hS,H⟩
  ·have h1:=H.2 j (ready_mono hj hji)
   obtain⟨hjun,oj,hoj,hall⟩:=mem_ready.1 hj
   have hiun:listed.getD i false=false:=getD_both (mem_ready.1 hr).1
   have hnot:∀e ∈ oj.after,Region.binds md e=true->e.on≠i:=λe he hb heq=>by
    have h1:=hall e he hb
    rw[heq,hiun] at h1
    cases h1
   have h2:=wpOp_putIf hoj (hfree j oj hoj hji hjun hnot) (λcs b=>hsel i oi cs b hi) (λcs b=>hsel j oj cs b hoj) hQ hy h1
   have hfree':∀k ok,ops[k]? =some ok->k≠i->(listed.setIfInBounds j true).getD k true=false->
     (∀e ∈ ok.after,Region.binds md e=true->e.on≠i)->oi.apart ops ok=true:=λk ok hk hki hun hno=>by
    refine hfree k ok hk hki ?_ hno
    by_cases hjk:j=k
    ·subst hjk;exact hjun
    ·rw[getD_set_ne true hjk] at hun;exact hun
   refine wpOp_mono (λa' w' h3=>⟨h3.2.1,ih (listed.setIfInBounds j true) a' w' hfree' (ready_mono hr (Ne.symm hji)) h3.1 ?_ ?_⟩) h2
   ·rcases h3.2.1 with⟨_,hw⟩|hw
    ·rw[hw];exact hS
    ·exact hw
   ·rw[Array.setIfInBounds_comm _ _ hji]
    exact h3.2.2
theorem eR{pu:List Nat}{i:Nat}{oi:Oper}{v:Value}(hi:ops[i]? =some oi)(hpu:pu.contains i=true)(hsel:∀(j:Nat) (o:Oper) cs b,ops[j]? =some o->o.op≠ .select cs b)
  (hQ:∀c a w,Q (.panic c) (a.put oi.dst v) w->Q (.panic c) a w):
  ∀(fuel:Nat) (listed:Array Bool) (a:Act) (w:World),
   (∀j oj,ops[j]? =some oj->j≠i->listed.getD j true=false->(∀e ∈ oj.after,Region.binds md e=true->e.on≠i)->oi.apart ops oj=true)->
   i ∈ Region.ready md ops listed->YieldsIf P ops (λ_=>True) oi v a->
   fF P md ops Q S pu fuel (listed.setIfInBounds i true) (a.put oi.dst v) w->fF P md ops Q S pu (fuel+1) listed a w:=by
 intro fuel
 induction fuel with
 |zero=>
  intro listed a w _ hr hy H
  refine⟨λh=>(by rw[h] at hr;cases hr),λj hj=>?_⟩
  by_cases hji:j=i
  ·subst hji;exact hy.wpOp hi trivial ⟨.inl ⟨hpu,rfl⟩,H⟩
  ·have:=ready_mono hj hji
   rw[H.1] at this
   cases this
 |succ fuel ih=>
  intro listed a w hfree hr hy H
  refine⟨λh=>(by rw[h] at hr;cases hr),λj hj=>?_⟩
  by_cases hji:j=i
  ·subst hji;exact hy.wpOp hi trivial ⟨.inl ⟨hpu,rfl⟩,H⟩
  ·have h1:=H.2 j (ready_mono hj hji)
   obtain⟨hjun,oj,hoj,hall⟩:=mem_ready.1 hj
   have hiun:listed.getD i false=false:=getD_both (mem_ready.1 hr).1
   have hnot:∀e ∈ oj.after,Region.binds md e=true->e.on≠i:=λe he hb heq=>by
    have h1:=hall e he hb
    rw[heq,hiun] at h1
    cases h1
   have h2:=wpOp_putIf hoj (hfree j oj hoj hji hjun hnot) (λcs b=>hsel i oi cs b hi) (λcs b=>hsel j oj cs b hoj) hQ hy h1
   have hfree':∀k ok,ops[k]? =some ok->k≠i->(listed.setIfInBounds j true).getD k true=false->
     (∀e ∈ ok.after,Region.binds md e=true->e.on≠i)->oi.apart ops ok=true:=λk ok hk hki hun hno=>by
    refine hfree k ok hk hki ?_ hno
    by_cases hjk:j=k
    ·subst hjk;exact hjun
    ·rw[getD_set_ne true hjk] at hun;exact hun
   refine wpOp_mono (λa' w' h3=>⟨h3.2.1,ih (listed.setIfInBounds j true) a' w' hfree' (ready_mono hr (Ne.symm hji)) h3.1 ?_⟩) h2
   rw[Array.setIfInBounds_comm _ _ hji]
   exact h3.2.2
def bH(P:Program)(ops:Array Oper)(Q:Exit->Act->World->Prop)(S:World->Prop):List (Nat×Nat×Oper)->Act->World->Prop
 |[],a,w=>Q .normal a w
 |(0,_,o)::rest,a,w=>wpList P ops (Exit.then (λa' w'=>S w'/\bH P ops Q S rest a' w') Q) [o] a w
 |(1,_,o)::rest,a,w=>if Region.wanted o (yielded ops a.tmps) then lc P o a S (λa'=>bH P ops Q S rest a' w) else bH P ops Q S rest (a.put o.dst undef) w
 |(_+2,_,o)::rest,a,w=>if Region.wanted o (yielded ops a.tmps) then oz P o a (λa'=>bH P ops Q S rest a' w) else bH P ops Q S rest (a.put o.dst undef) w
def fP(md:Region.Mode)(ops:Array Oper)(pu:List Nat):List (Nat×Nat)->Array Bool->Bool
 |[],listed=>(Region.ready md ops listed).isEmpty
 |(0,j)::rest,listed=>decide (Region.ready md ops listed=[j])&&fP md ops pu rest (listed.setIfInBounds j true)
 |(1,i)::rest,listed=>(Region.ready md ops listed).contains i&&Region.free md ops listed i&&fP md ops pu rest (listed.setIfInBounds i true)
 |(_+2,i)::rest,listed=>(Region.ready md ops listed).contains i&&Region.free md ops listed i&&pu.contains i&&fP md ops pu rest (listed.setIfInBounds i true)
def Cr(md:Region.Mode)(ops:Array Oper)(pu:List Nat)(l:List (Nat×Nat)):Bool:=
 Region.noSelect ops&&decide (l.length=ops.size)&&l.all (λi=>decide (i.2<ops.size))&&fP md ops pu l (Array.replicate ops.size false)
theorem dp{pu:List Nat}(hsel:Region.noSelect ops=true)(hQ:∀c (a:Act) d v w,Q (.panic c) (a.put d v) w->Q (.panic c) a w):∀(l:List (Nat×Nat)) (listed:Array Bool) (a:Act) (w:World),
  (∀j ∈ l,j.2<ops.size)->fP md ops pu l listed=true->S w->
  bH P ops Q S (ax ops l) a w->fF P md ops Q S pu l.length listed a w
 |[],_,_,_,_,hB,_,h=>⟨by simpa [fP] using hB,h⟩
 |(1,i)::l,listed,a,w,hlt,hB,hS,h=>by
  simp only[fP,Bool.and_eq_true] at hB
  obtain⟨⟨hr,hf⟩,hB'⟩:=hB
  have hi:ops[i]? =some ops[i]! :=by
   have:=hlt (1,i) (by simp)
   simp at this
   simp[this]
  have hg:ax ops ((1,i)::l)=(1,i,ops[i]!)::ax ops l:=by simp only[ax,List.filterMap_cons,hi];rfl
  rw[hg] at h
  have hr':i ∈ Region.ready md ops listed:=by simpa using hr
  have next:∀a',bH P ops Q S (ax ops l) a' w->fF P md ops Q S pu l.length (listed.setIfInBounds i true) a' w:=λa' ha'=>
   dp hsel hQ l _ a' w (λk hk=>hlt k (by simp[hk])) hB' hS ha'
  simp only[List.length_cons]
  unfold bH at h
  split at h
  ·rename_i hw
   obtain⟨v,h1,h2⟩:=h
   exact i3 hi (Region.noSelect_spec hsel) (λc a w=>hQ c a _ v w) _ listed a w (Region.free_spec hi hf) hr' (.inl ⟨hw,h1⟩) hS (next _ h2)
  ·rename_i hw
   exact i3 hi (Region.noSelect_spec hsel) (λc a w=>hQ c a _ undef w) _ listed a w (Region.free_spec hi hf) hr' (.inr ⟨by simpa using hw,rfl⟩) hS (next _ h)
 |(k+2,i)::l,listed,a,w,hlt,hB,hS,h=>by
  simp only[fP,Bool.and_eq_true] at hB
  obtain⟨⟨⟨hr,hf⟩,hpu⟩,hB'⟩:=hB
  have hi:ops[i]? =some ops[i]! :=by
   have:=hlt (k+2,i) (by simp)
   simp at this
   simp[this]
  have hg:ax ops ((k+2,i)::l)=(k+2,i,ops[i]!)::ax ops l:=by simp only[ax,List.filterMap_cons,hi];rfl
  rw[hg] at h
  have hr':i ∈ Region.ready md ops listed:=by simpa using hr
  have next:∀a',bH P ops Q S (ax ops l) a' w->fF P md ops Q S pu l.length (listed.setIfInBounds i true) a' w:=λa' ha'=>
   dp hsel hQ l _ a' w (λk hk=>hlt k (by simp[hk])) hB' hS ha'
  simp only[List.length_cons]
  unfold bH at h
  split at h
  ·rename_i hw
   obtain⟨v,h1,h2⟩:=h
   exact eR hi hpu (Region.noSelect_spec hsel) (λc a w=>hQ c a _ v w) _ listed a w (Region.free_spec hi hf) hr' (.inl ⟨hw,λw _=>h1 w⟩) (next _ h2)
  ·rename_i hw
   exact eR hi hpu (Region.noSelect_spec hsel) (λc a w=>hQ c a _ undef w) _ listed a w (Region.free_spec hi hf) hr' (.inr ⟨by simpa using hw,rfl⟩) (next _ h)
 |(0,j)::l,listed,a,w,hlt,hB,hS,h=>by
  simp only[fP,Bool.and_eq_true,decide_eq_true_eq] at hB
  obtain⟨hr,hB'⟩:=hB
  have hj:ops[j]? =some ops[j]! :=by
   have:=hlt (0,j) (by simp)
   simp at this
   simp[this]
  have hg:ax ops ((0,j)::l)=(0,j,ops[j]!)::ax ops l:=by simp only[ax,List.filterMap_cons,hj];rfl
  rw[hg] at h
  refine⟨λh0=>(by rw[hr] at h0;cases h0),λi hi=>?_⟩
  rw[hr] at hi
  have hij:i=j:=by simpa using hi
  subst hij
  refine gp hj ?_
  unfold bH at h
  refine cA (λa' w' hx=>⟨.inr hx.1,dp hsel hQ l _ a' w' (λk hk=>hlt k (by simp[hk])) hB' hx.1 hx.2⟩) (λe a' w' hne hx=>?_) h
  cases e<;>first|exact absurd rfl hne|exact hx
theorem bo{id:Nat}{l:List Oper}{a:Act}{w:World}(pu:List Nat)(pl:List (Nat×Nat))(hm:P.follows .mixedOrders=true)(hB:Cr .any l.toArray pu pl=true)
  (hQ:∀c (a:Act) d v w,Q (.panic c) (a.put d v) w->Q (.panic c) a w)
  (h:bH P l.toArray Q (wh w) (ax l.toArray pl) a w.drew):(Code.region id l.toArray true).wp P Q a w:=by
 simp only[Cr,Bool.and_eq_true,decide_eq_true_eq] at hB
 obtain⟨⟨⟨hsel,hlen⟩,hpl⟩,hrest⟩:=hB
 have hpl':∀j ∈ pl,j.2<l.toArray.size:=λj hj=>of_decide_eq_true (List.all_eq_true.1 hpl j hj)
 refine wp_region_any hm (iz (S:=wh w) (pu:=pu) _ _ _ _ ?_)
 have:=dp (P:=P) (md:= .any) (Q:=Q) (S:=wh w) (pu:=pu) hsel hQ pl _ a w.drew hpl' hrest (a7 (Below.refl _ _).drew) h
 rw[hlen] at this
 exact this
theorem bM{a:Act}{w:World}(h:Q .normal a w):bH P ops Q S [] a w:=by unfold bH;exact h
theorem aM{i:Nat}{a:Act}{w:World}{o:Oper}{rest:List (Nat×Nat×Oper)}
  (h:∀K:Act->Prop,(∀a,bH P ops Q S rest a w->K a)->if Region.wanted o (yielded ops a.tmps) then lc P o a S K else K (a.put o.dst undef)):bH P ops Q S ((1,i,o)::rest) a w:=by
 have:=h _ (λ_ h=>h)
 unfold bH
 exact this
theorem aQ{i:Nat}{a:Act}{w:World}{o:Oper}{rest:List (Nat×Nat×Oper)}
  (h:∀K:Act->Prop,(∀a,bH P ops Q S rest a w->K a)->if Region.wanted o (yielded ops a.tmps) then oz P o a K else K (a.put o.dst undef)):bH P ops Q S ((2,i,o)::rest) a w:=by
 have:=h _ (λ_ h=>h)
 unfold bH
 exact this
theorem bD{j:Nat}{o:Oper}{rest:List (Nat×Nat×Oper)}{a:Act}{w:World}(h:wpList P ops (Exit.then (λa' w'=>S w'/\bH P ops Q S rest a' w') Q) [o] a w):
  bH P ops Q S ((0,j,o)::rest) a w:=by unfold bH;exact h
end
attribute [irreducible] bH
end Go.Proofs.Yteopfmnnhlhbmaa