/- A part of the proof of CostLimits. No condition. -/
import Derived.BigQuiet
import Derived.Deep.QuietTactic
import Derived.Lib.QuietBelow
import Derived.OrdersHeld
import Derived.StillTail
import Derived.WalkKit
import Derived.Test.YtdpkgnmmikebdaaGreatGi00
set_option linter.unusedSimpArgs false
set_option linter.unusedVariables false
set_option linter.constructorNameAsVariable false
set_option maxRecDepth 100000
set_option maxHeartbeats 4000000
namespace Go.Proofs.YtdpkgnmmikebdaaGreat
open Go.RowKit
section
variable {a:Act}{i j:Nat}{o:Oper}{w:World}
section
variable {P:Program} {ops:Array Oper} {Q:Exit->Act->World->Prop} {md:Region.Mode} {S:World->Prop} {fl:List Nat}
def reach(md:Region.Mode)(ops:Array Oper):Nat->Nat->Nat->Bool
 |0,_,_=>false
 |n+1,j,i=>match ops[j]? with
  |none=>false
  |some o=>o.after.any λe=>Region.binds md e&&(e.on==i||reach md ops n e.on i)
def vm(md:Region.Mode)(ops:Array Oper)(fl:List Nat)(j:Nat):Bool:=fl.all λi=>reach md ops ops.size j i
def k9(md:Region.Mode)(ops:Array Oper)(listed:Array Bool):Prop:=
 ∀j oj,ops[j]? =some oj->listed.getD j false=true->∀e ∈ oj.after,Region.binds md e=true->listed.getD e.on false=true
theorem rT(n:Nat):k9 md ops (Array.replicate n false):=λj _ _ hl=>by
 rw[getD_replicate_false] at hl;cases hl
theorem k9.set{listed:Array Bool}(h:k9 md ops listed)(hi:i ∈ Region.ready md ops listed):k9 md ops (listed.setIfInBounds i true):=by
 obtain⟨_,oi,hoi,hall⟩:=mem_ready.1 hi;intro j oj hj hl e he hb;by_cases hij:i=j
 ·subst hij;have:oj=oi:=apl (hj.symm.trans hoi);subst this;exact getD_set_true (hall e he hb)
 ·rw[getD_set_ne false hij] at hl;exact getD_set_true (h j oj hj hl e he hb)
theorem k9.reach{listed:Array Bool}(h:k9 md ops listed):∀(n j i:Nat),listed.getD j false=true->reach md ops n j i=true->listed.getD i false=true
 |0,_,_,_,hr=>by simp[Proofs.YtdpkgnmmikebdaaGreat.reach] at hr
 |n+1,j,i,hl,hr=>by
  unfold Proofs.YtdpkgnmmikebdaaGreat.reach at hr;split at hr
  ·cases hr
  ·rename_i o ho;obtain⟨e,he,hb⟩:=Array.any_eq_true'.1 hr;simp only[apq,ap5,beq_iff_eq] at hb;have h1:=h j o ho hl e he hb.1;rcases hb.2 with rfl|h2
   ·exact h1
   ·exact k9.reach h n e.on i h1 h2
theorem k9.reach_ready{listed:Array Bool}(h:k9 md ops listed){n:Nat}(hj:j ∈ Region.ready md ops listed)(hr:Proofs.YtdpkgnmmikebdaaGreat.reach md ops n j i=true):listed.getD i false=true:=by
 obtain⟨_,oj,hoj,hall⟩:=mem_ready.1 hj;cases n with
 |zero=>simp[Proofs.YtdpkgnmmikebdaaGreat.reach] at hr
 |succ n=>
  unfold Proofs.YtdpkgnmmikebdaaGreat.reach at hr;rw[hoj] at hr;obtain⟨e,he,hb⟩:=Array.any_eq_true'.1 hr;simp only[apq,ap5,beq_iff_eq] at hb;have h1:=hall e he hb.1;rcases hb.2 with rfl|h2
  ·exact h1
  ·exact h.reach n e.on i h1 h2
def mg(P:Program)(md:Region.Mode)(ops:Array Oper)(Q:Exit->Act->World->Prop)(S:World->Prop)(fl pu:List Nat):Nat->Array Bool->Act->World->Prop
 |0,listed,a,w=>Region.ready md ops listed=[]/\Q .normal a w
 |fuel+1,listed,a,w=>
  (Region.ready md ops listed=[]->Q .normal a w)/\
  ∀i ∈ Region.ready md ops listed,wpOp P ops Q i (λa' w'=>(vm md ops fl i=false->(pu.contains i=true/\w'=w)\/S w')/\mg P md ops Q S fl pu fuel (listed.setIfInBounds i true) a' w') a w
theorem nI{pu:List Nat}:∀(fuel:Nat) (listed:Array Bool) (a:Act) (w:World),mg P md ops Q S fl pu fuel listed a w->wpAny P md ops Q fuel listed a w
 |0,_,_,_,h=>h
 |fuel+1,_,_,_,h=>⟨h.1,λi hi=>wpOp_mono (λa' w' h'=>nI fuel _ a' w' h'.2) (h.2 i hi)⟩
theorem mb{pu:List Nat}{oi:Oper}{v:Value}(hi:ops[i]? =some oi)(hfl:i ∈ fl)(hsel:∀(j:Nat) (o:Oper) cs b,ops[j]? =some o->o.op≠ .select cs b)
  (hQ:∀c a w,Q (.panic c) (a.put oi.dst v) w->Q (.panic c) a w):
  ∀(fuel:Nat) (listed:Array Bool) (a:Act) (w:World),k9 md ops listed->
   (∀j oj,ops[j]? =some oj->j≠i->listed.getD j true=false->(∀e ∈ oj.after,Region.binds md e=true->e.on≠i)->oi.apart ops oj=true)->
   i ∈ Region.ready md ops listed->YieldsIf P ops S oi v a->S w->
   mg P md ops Q S fl pu fuel (listed.setIfInBounds i true) (a.put oi.dst v) w->mg P md ops Q S fl pu (fuel+1) listed a w:=by
 intro fuel;induction fuel with
 |zero=>
  intro listed a w _ _ hr hy hS H;refine⟨λh=>(by rw[h] at hr;cases hr),λj hj=>?_⟩
  by_cases hji:j=i
  ·subst hji;exact hy.wpOp hi hS ⟨λ_=> .inr hS,H⟩
  ·have:=ready_mono hj hji;rw[H.1] at this;cases this
 |succ fuel ih=>
  intro listed a w hcl hfree hr hy hS H;refine⟨λh=>(by rw[h] at hr;cases hr),λj hj=>?_⟩
  by_cases hji:j=i
  ·subst hji;exact hy.wpOp hi hS ⟨λ_=> .inr hS,H⟩
  ·have h1:=H.2 j (ready_mono hj hji);obtain⟨hjun,oj,hoj,hall⟩:=mem_ready.1 hj;have hiun:listed.getD i false=false:=getD_both (mem_ready.1 hr).1;have hnot:∀e ∈ oj.after,Region.binds md e=true->e.on≠i:=λe he hb heq=>by
    have h1:=hall e he hb;rw[heq,hiun] at h1;cases h1
   have hsee:vm md ops fl j=false:=by
    cases hs:vm md ops fl j with
    |false=>rfl
    |true=>
     have h3:=hcl.reach_ready hj (apr.1 hs i hfl);rw[hiun] at h3;cases h3
   have h2:=wpOp_putIf hoj (hfree j oj hoj hji hjun hnot) (λcs b=>hsel i oi cs b hi) (λcs b=>hsel j oj cs b hoj) hQ hy h1;have hfree':∀k ok,ops[k]? =some ok->k≠i->(listed.setIfInBounds j true).getD k true=false->
     (∀e ∈ ok.after,Region.binds md e=true->e.on≠i)->oi.apart ops ok=true:=λk ok hk hki hun hno=>by
    refine hfree k ok hk hki ?_ hno;by_cases hjk:j=k
    ·subst hjk;exact hjun
    ·rw[getD_set_ne true hjk] at hun;exact hun
   refine wpOp_mono (λa' w' h3=>⟨h3.2.1,ih (listed.setIfInBounds j true) a' w' (hcl.set hj) hfree' (ready_mono hr (Ne.symm hji)) h3.1 ?_ ?_⟩) h2
   ·rcases h3.2.1 hsee with⟨_,hw⟩|hw
    ·rw[hw];exact hS
    ·exact hw
   ·rw[Array.setIfInBounds_comm _ _ hji];exact h3.2.2
theorem jC{pu:List Nat}{oi:Oper}{v:Value}(hi:ops[i]? =some oi)(hpu:pu.contains i=true)(hsel:∀(j:Nat) (o:Oper) cs b,ops[j]? =some o->o.op≠ .select cs b)
  (hQ:∀c a w,Q (.panic c) (a.put oi.dst v) w->Q (.panic c) a w):
  ∀(fuel:Nat) (listed:Array Bool) (a:Act) (w:World),
   (∀j oj,ops[j]? =some oj->j≠i->listed.getD j true=false->(∀e ∈ oj.after,Region.binds md e=true->e.on≠i)->oi.apart ops oj=true)->
   i ∈ Region.ready md ops listed->YieldsIf P ops (λ_=>True) oi v a->
   mg P md ops Q S fl pu fuel (listed.setIfInBounds i true) (a.put oi.dst v) w->mg P md ops Q S fl pu (fuel+1) listed a w:=by
 intro fuel;induction fuel with
 |zero=>
  intro listed a w _ hr hy H;refine⟨λh=>(by rw[h] at hr;cases hr),λj hj=>?_⟩
  by_cases hji:j=i
  ·exact aqp
  ·have:=ready_mono hj hji;rw[H.1] at this;cases this
 |succ fuel ih=>
  intro listed a w hfree hr hy H;refine⟨λh=>(by rw[h] at hr;cases hr),λj hj=>?_⟩
  by_cases hji:j=i
  ·exact aqp
  ·have h1:=H.2 j (ready_mono hj hji);obtain⟨hjun,oj,hoj,hall⟩:=mem_ready.1 hj;have hiun:listed.getD i false=false:=getD_both (mem_ready.1 hr).1;have hnot:∀e ∈ oj.after,Region.binds md e=true->e.on≠i:=λe he hb heq=>by
    have h1:=hall e he hb;rw[heq,hiun] at h1;cases h1
   have h2:=wpOp_putIf hoj (hfree j oj hoj hji hjun hnot) (λcs b=>hsel i oi cs b hi) (λcs b=>hsel j oj cs b hoj) hQ hy h1;have hfree':∀k ok,ops[k]? =some ok->k≠i->(listed.setIfInBounds j true).getD k true=false->
     (∀e ∈ ok.after,Region.binds md e=true->e.on≠i)->oi.apart ops ok=true:=λk ok hk hki hun hno=>by
    refine hfree k ok hk hki ?_ hno;by_cases hjk:j=k
    ·subst hjk;exact hjun
    ·rw[getD_set_ne true hjk] at hun;exact hun
   refine wpOp_mono (λa' w' h3=>⟨h3.2.1,ih (listed.setIfInBounds j true) a' w' hfree' (ready_mono hr (Ne.symm hji)) h3.1 ?_⟩) h2;rw[Array.setIfInBounds_comm _ _ hji];exact h3.2.2
def Bf(P:Program)(o:Oper)(a:Act)(S:World->Prop)(next:Act->Prop):Prop:=
 ∃v,(∀w,S w->(execOp a.eval o).run P w= .ok (.value v) w)/\next (a.put o.dst v)
def D3(P:Program)(o:Oper)(a:Act)(next:Act->Prop):Prop:=
 ∃v,(∀w,(execOp a.eval o).run P w= .ok (.value v) w)/\next (a.put o.dst v)
def fD(P:Program)(md:Region.Mode)(ops:Array Oper)(Q:Exit->Act->World->Prop)(S:World->Prop)(fl:List Nat):List (Nat×Nat×Oper)->Act->World->Prop
 |[],a,w=>Q .normal a w
 |(0,j,o)::rest,a,w=>
  if vm md ops fl j then wpList P ops (Exit.then (λa' w'=>fD P md ops Q S fl rest a' w') Q) [o] a w
  else wpList P ops (Exit.then (λa' w'=>S w'/\fD P md ops Q S fl rest a' w') Q) [o] a w
 |(1,_,o)::rest,a,w=>if Region.wanted o (yielded ops a.tmps) then Bf P o a S (λa'=>fD P md ops Q S fl rest a' w) else fD P md ops Q S fl rest (a.put o.dst undef) w
 |(_+2,_,o)::rest,a,w=>if Region.wanted o (yielded ops a.tmps) then D3 P o a (λa'=>fD P md ops Q S fl rest a' w) else fD P md ops Q S fl rest (a.put o.dst undef) w
def qo(md:Region.Mode)(ops:Array Oper)(fl pu:List Nat):List (Nat×Nat)->Array Bool->Bool
 |[],listed=>(Region.ready md ops listed).isEmpty
 |(0,j)::rest,listed=>decide (Region.ready md ops listed=[j])&&(!vm md ops fl j||rest.all (·.1 != 1))&&qo md ops fl pu rest (listed.setIfInBounds j true)
 |(1,i)::rest,listed=>(Region.ready md ops listed).contains i&&Region.free md ops listed i&&fl.contains i&&qo md ops fl pu rest (listed.setIfInBounds i true)
 |(_+2,i)::rest,listed=>(Region.ready md ops listed).contains i&&Region.free md ops listed i&&pu.contains i&&qo md ops fl pu rest (listed.setIfInBounds i true)
def fC(ops:Array Oper)(l:List (Nat×Nat)):List (Nat×Nat×Oper):=l.filterMap λ(b,j)=>(ops[j]?).map (b,j,·)
def zw(md:Region.Mode)(ops:Array Oper)(fl pu:List Nat)(l:List (Nat×Nat)):Bool:=
 Region.noSelect ops&&decide (l.length=ops.size)&&l.all (λi=>decide (i.2<ops.size))&&qo md ops fl pu l (Array.replicate ops.size false)
theorem jO{R R':Exit->Act->World->Prop}(hn:∀a w,R .normal a w->R' .normal a w)(he:∀e a w,e≠ .normal->R e a w->R' e a w)
  (h:wpList P ops R [o] a w):wpList P ops R' [o] a w:=by
 have hwp:∀{a w},o.wp P a w (wpList P ops R []) R->o.wp P a w (wpList P ops R' []) R':=by
  intro a w hh;unfold Oper.wp at*;generalize (execOp a.eval o).run P w=r at*;cases r with
  |ok n w'=>
   cases n<;>simp only[Oper.upon] at hh ⊢ <;>
    first
     |exact hn _ _ hh
     |exact Calls.mono hh (λe w'' hx=>by
       cases e with
       |returned u=>exact hn _ _ hx
       |panicked c=>exact he _ _ _ ae hx
       |outgrown=>obtain⟨a0,w0,hq⟩:=hx;exact⟨a0,w0,he _ _ _ ae hq⟩)
     |exact Rows.mono hh (λ_ _ hx=>hn _ _ hx)
  |halt x w'=>
   cases x<;>simp only[Oper.upon] at hh ⊢ <;>first|exact hh|exact he _ _ _ ae hh
 unfold wpList at*;split
 ·rename_i hw;rw[if_pos hw] at h;rcases h with h|⟨h,a0,w0,hq⟩
  ·exact .inl (hwp h)
  ·exact .inr ⟨h,a0,w0,he _ _ _ ae hq⟩
 ·rename_i hw;rw[if_neg hw] at h;exact hn _ _ h
theorem rE{K:Act->World->Prop}(hj:ops[j]? =some o)(h:wpList P ops (Exit.then K Q) [o] a w):wpOp P ops Q j K a w:=by
 unfold wpOp;simp only[hj];have hwp:∀{a w},o.wp P a w (wpList P ops (Exit.then K Q) []) (Exit.then K Q)->o.wp P a w K Q:=by
  intro a w hh;unfold Oper.wp at*;generalize (execOp a.eval o).run P w=r at*;cases r with
  |ok n w'=>
   cases n<;>simp only[Oper.upon] at hh ⊢ <;>
    first
     |exact hh
     |exact Calls.mono hh (λe w'' hx=>by
       cases e with
       |returned u=>exact hx
       |panicked c=>exact hx
       |outgrown=>obtain⟨a0,w0,hq⟩:=hx;exact⟨a0,w0,hq⟩)
     |exact Rows.mono hh (λ_ _ hx=>hx)
  |halt x w'=>cases x<;>simp only[Oper.upon] at hh ⊢ <;>exact hh
 unfold wpList at h;split
 ·rename_i hw;rw[if_pos hw] at h;rcases h with h|⟨h,a0,w0,hq⟩
  ·exact .inl (hwp h)
  ·exact .inr ⟨h,a0,w0,hq⟩
 ·rename_i hw;rw[if_neg hw] at h;exact h
theorem jJ{pu:List Nat}(hsel:Region.noSelect ops=true)(hQ:∀c (a:Act) d v w,Q (.panic c) (a.put d v) w->Q (.panic c) a w):∀(l:List (Nat×Nat)) (listed:Array Bool) (a:Act) (w:World),
  (∀j ∈ l,j.2<ops.size)->k9 md ops listed->qo md ops fl pu l listed=true->(S w\/l.all (·.1 != 1)=true)->
  fD P md ops Q S fl (fC ops l) a w->mg P md ops Q S fl pu l.length listed a w
 |[],_,_,_,_,_,hB,_,h=>⟨by simpa [qo] using hB,h⟩
 |(1,i)::l,listed,a,w,hlt,hc,hB,hS,h=>by
  simp only[qo,apq] at hB;obtain⟨⟨⟨hr,hf⟩,hfl⟩,hB'⟩:=hB;have hS':S w:=hS.resolve_right ae;have hi:ops[i]? =some ops[i]! :=by
   have:=hlt (1,i) ae;simp at this;simp[this]
  have hg:fC ops ((1,i)::l)=(1,i,ops[i]!)::fC ops l:=by simp only[fC,List.filterMap_cons,hi];rfl
  rw[hg] at h;have hr':i ∈ Region.ready md ops listed:=by simpa using hr
  have next:∀a',fD P md ops Q S fl (fC ops l) a' w->mg P md ops Q S fl pu l.length (listed.setIfInBounds i true) a' w:=λa' ha'=>
   jJ hsel hQ l _ a' w (λk hk=>hlt k (by simp[hk])) (hc.set hr') hB' (.inl hS') ha'
  simp only[List.length_cons];unfold fD at h;split at h
  ·rename_i hw;obtain⟨v,h1,h2⟩:=h;exact mb hi (by simpa using hfl) (Region.noSelect_spec hsel) (λc a w=>hQ c a _ v w) _ listed a w hc (Region.free_spec hi hf) hr' (.inl ⟨hw,h1⟩) hS' (next _ h2)
  ·rename_i hw;exact mb hi (by simpa using hfl) (Region.noSelect_spec hsel) (λc a w=>hQ c a _ undef w) _ listed a w hc (Region.free_spec hi hf) hr' (.inr ⟨by simpa using hw,rfl⟩) hS' (next _ h)
 |(k+2,i)::l,listed,a,w,hlt,hc,hB,hS,h=>by
  simp only[qo,apq] at hB;obtain⟨⟨⟨hr,hf⟩,hpu⟩,hB'⟩:=hB;have hS':S w\/l.all (·.1 != 1)=true:=hS.imp id (λh=>by simp only[ap9,apq] at h;exact h.2)
  have hi:ops[i]? =some ops[i]! :=by
   have:=hlt (k+2,i) ae;simp at this;simp[this]
  have hg:fC ops ((k+2,i)::l)=(k+2,i,ops[i]!)::fC ops l:=by simp only[fC,List.filterMap_cons,hi];rfl
  rw[hg] at h;have hr':i ∈ Region.ready md ops listed:=by simpa using hr
  have next:∀a',fD P md ops Q S fl (fC ops l) a' w->mg P md ops Q S fl pu l.length (listed.setIfInBounds i true) a' w:=λa' ha'=>
   jJ hsel hQ l _ a' w (λk hk=>hlt k (by simp[hk])) (hc.set hr') hB' hS' ha'
  simp only[List.length_cons];unfold fD at h;split at h
  ·exact dJ
  ·exact dK
 |(0,j)::l,listed,a,w,hlt,hc,hB,hS,h=>by
  simp only[qo,apq,decide_eq_true_eq] at hB;obtain⟨⟨hr,hs2⟩,hB'⟩:=hB;have hj:ops[j]? =some ops[j]! :=by
   have:=hlt (0,j) ae;simp at this;simp[this]
  have hg:fC ops ((0,j)::l)=(0,j,ops[j]!)::fC ops l:=by simp only[fC,List.filterMap_cons,hj];rfl
  rw[hg] at h;have hr':j ∈ Region.ready md ops listed:=by rw[hr];simp
  refine⟨λh0=>(by rw[hr] at h0;cases h0),λi hi=>?_⟩
  rw[hr] at hi;have hij:i=j:=by simpa using hi
  subst hij;refine rE hj ?_;unfold fD at h;split at h
  ·rename_i hs;have hno:l.all (·.1 != 1)=true:=by simpa [hs] using hs2
   refine jO (λa' w' hx=>⟨λh0=>(by rw[hs] at h0;cases h0),jJ hsel hQ l _ a' w' (λk hk=>hlt k (by simp[hk])) (hc.set hr') hB' (.inr hno) hx⟩) (λe a' w' hne hx=>?_) h
   cases e<;>first|exact absurd rfl hne|exact hx
  ·refine jO (λa' w' hx=>⟨λ_=> .inr hx.1,jJ hsel hQ l _ a' w' (λk hk=>hlt k (by simp[hk])) (hc.set hr') hB' (.inl hx.1) hx.2⟩) (λe a' w' hne hx=>?_) h
   cases e<;>first|exact absurd rfl hne|exact hx
theorem mG{id:Nat}{l:List Oper}(S:World->Prop)(fl pu:List Nat)(pl:List (Nat×Nat))(hm:P.follows .mixedOrders=true)(hB:zw .any l.toArray fl pu pl=true)
  (hQ:∀c (a:Act) d v w,Q (.panic c) (a.put d v) w->Q (.panic c) a w) (hS:S w.drew)
  (h:fD P .any l.toArray Q S fl (fC l.toArray pl) a w.drew):(Code.region id l.toArray true).wp P Q a w:=by
 simp only[zw,apq,decide_eq_true_eq] at hB;obtain⟨⟨⟨hsel,hlen⟩,hpl⟩,hrest⟩:=hB;have hpl':∀j ∈ pl,j.2<l.toArray.size:=λj hj=>of_decide_eq_true (apr.1 hpl j hj);refine wp_region_any hm (nI (S:=S) (fl:=fl) (pu:=pu) _ _ _ _ ?_);have:=jJ (P:=P) (md:= .any) (Q:=Q) (S:=S) (fl:=fl) (pu:=pu) hsel hQ pl _ a w.drew hpl' (rT _) hrest (.inl hS) h;rw[hlen] at this;exact this
theorem lH(h:Q .normal a w):fD P md ops Q S fl [] a w:=h
theorem jZ{rest:List (Nat×Nat×Oper)}(hs:vm md ops fl j=true)(h:wpList P ops (Exit.then (λa' w'=>fD P md ops Q S fl rest a' w') Q) [o] a w):
  fD P md ops Q S fl ((0,j,o)::rest) a w:=by unfold fD;rw[if_pos hs];exact h
theorem ma{rest:List (Nat×Nat×Oper)}(h:wpList P ops (Exit.then (λa' w'=>S w'/\fD P md ops Q S fl rest a' w') Q) [o] a w):
  fD P md ops Q S fl ((0,j,o)::rest) a w:=by
 unfold fD;split
 ·exact jO (λ_ _ hx=>hx.2) (λe _ _ hne hx=>by cases e<;>first|exact absurd rfl hne|exact hx) h
 ·exact h
end
attribute [irreducible] fD
attribute [go_sem] Bf D3
theorem pW(W:World)(d:Nat)(os:Array Obj)(b j:Nat)(h:b<W.heap.size):(Go.Sort.grow (redrawn W d) os).cell? ⟨b,j,none⟩=W.cell? ⟨b,j,none⟩:=
 (below_regrown W d os).cell (p:=⟨b,j,none⟩) h
theorem tA(w:World)(o:Obj)(d:Nat)(os:Array Obj)(b j:Nat)(h:b<w.heap.size):(Go.Sort.grow (redrawn (w.alloc o) d) os).cell? ⟨b,j,none⟩=w.cell? ⟨b,j,none⟩:=by
 rw[pW _ _ _ _ _ (by simp;omega),World.cell?_alloc_past _ _ _ h]
theorem tB(w:World)(c:Array Value)(t:TypeId)(fr:Nat×Nat)(d:Nat)(os:Array Obj)(j:Nat):
  (Go.Sort.grow (redrawn (w.alloc (.cells c t fr)) d) os).cell? ⟨w.heap.size,j,none⟩=c[j]? :=by
 rw[pW _ _ _ _ _ ae];show(match(w.heap.push (.cells c t fr))[w.heap.size]? with|some (.cells c _ _)=>_|_=>_)=_
 simp
theorem vy(w:World)(d:Nat):redrawn w.drew d=redrawn w d:=rfl
theorem ue(w:World)(n d:Nat):redrawn (w.drewN n) d=redrawn w d:=rfl
attribute [go_sem] pW tA tB vy ue
end
inductive PT where
 |fin
 |none
 |alt (j:Nat) (r more:PT)
def PT.heads:PT->List Nat
 |.alt j _ more=>j::more.heads
 |_=>[]
def PT.node:PT->Bool
 |.none=>false
 |_=>true
def PT.depth:PT->Nat
 |.alt _ r more=>max (r.depth+1) more.depth
 |_=>0
section
variable {P:Program} {ops:Array Oper} {Q:Exit->Act->World->Prop} {md:Region.Mode} {S:World->Prop} {fl pu:List Nat}
def mH(P:Program)(ops:Array Oper)(Q:Exit->Act->World->Prop)(S:World->Prop):PT->Act->World->Prop
 |.fin,a,w=>Q .normal a w
 |.none,_,_=>True
 |.alt j r more,a,w=>(match ops[j]? with|some o=>wpList P ops (Exit.then (λa' w'=>S w'/\mH P ops Q S r a' w') Q) [o] a w|none=>False)/\mH P ops Q S more a w
def sM(md:Region.Mode)(ops:Array Oper):PT->Array Bool->Bool
 |.alt j r more,listed=>r.node&&decide (Region.ready md ops (listed.setIfInBounds j true)=r.heads)&&sM md ops r (listed.setIfInBounds j true)&&sM md ops more listed
 |_,_=>true
theorem wQ{listed:Array Bool}{a:Act}{w:World}{i:Nat}:∀(T:PT),i ∈ T.heads->sM md ops T listed=true->mH P ops Q S T a w->
  ∃r o,r.node=true/\Region.ready md ops (listed.setIfInBounds i true)=r.heads/\sM md ops r (listed.setIfInBounds i true)=true/\r.depth<T.depth/\ops[i]? =some o/\
   wpList P ops (Exit.then (λa' w'=>S w'/\mH P ops Q S r a' w') Q) [o] a w
 |.fin,h,_,_=>by cases h
 |.none,h,_,_=>by cases h
 |.alt j r more,h,hB,hw=>by
  simp only[sM,apq,decide_eq_true_eq] at hB;obtain⟨⟨⟨h1,h2⟩,h3⟩,h4⟩:=hB;obtain⟨k1,k2⟩:=hw;simp only[PT.heads,apv] at h;rcases h with rfl|h
  ·cases ho:ops[i]? with
   |none=>rw[ho] at k1;exact k1.elim
   |some o=>rw[ho] at k1;exact⟨r,o,h1,h2,h3,by simp[PT.depth];omega,rfl,k1⟩
  ·obtain⟨r',o,a1,a2,a3,a4,a5,a6⟩:=wQ more h h4 k2;exact⟨r',o,a1,a2,a3,by simp[PT.depth];omega,a5,a6⟩
theorem pB:∀(n:Nat) (T:PT) (listed:Array Bool) (a:Act) (w:World),T.node=true->T.depth<=n->Region.ready md ops listed=T.heads->sM md ops T listed=true->mH P ops Q S T a w->
  mg P md ops Q S fl pu n listed a w
 |0,T,listed,a,w,hn,hd,hr,hB,hw=>by
  cases T with
  |fin=>exact⟨hr,hw⟩
  |none=>cases hn
  |alt j r more=>simp[PT.depth] at hd
 |n+1,T,listed,a,w,hn,hd,hr,hB,hw=>by
  refine⟨λh=>?_,λi hi=>?_⟩
  ·cases T with
   |fin=>exact hw
   |none=>cases hn
   |alt j r more=>rw[hr] at h;cases h
  ·rw[hr] at hi;obtain⟨r,o,a1,a2,a3,a4,a5,a6⟩:=wQ T hi hB hw;refine rE a5 (jO (λa' w' hx=>⟨λ_=> .inr hx.1,pB n r _ a' w' a1 aa a2 a3 hx.2⟩) (λe a' w' hne hx=>?_) a6);cases e<;>first|exact absurd rfl hne|exact hx
def zm(md:Region.Mode)(ops:Array Oper)(fl pu:List Nat):List (Nat×Nat)->Array Bool->Bool
 |[],_=>true
 |(0,_)::_,_=>false
 |(1,i)::rest,listed=>(Region.ready md ops listed).contains i&&Region.free md ops listed i&&fl.contains i&&zm md ops fl pu rest (listed.setIfInBounds i true)
 |(_+2,i)::rest,listed=>(Region.ready md ops listed).contains i&&Region.free md ops listed i&&pu.contains i&&zm md ops fl pu rest (listed.setIfInBounds i true)
def nC:List (Nat×Nat)->Array Bool->Array Bool
 |[],listed=>listed
 |(_,i)::rest,listed=>nC rest (listed.setIfInBounds i true)
theorem nH{C:Act->World->Prop}{n:Nat}(hsel:Region.noSelect ops=true)(hQ:∀c (a:Act) d v w,Q (.panic c) (a.put d v) w->Q (.panic c) a w):∀(l:List (Nat×Nat)) (listed:Array Bool) (a:Act) (w:World),
  (∀j ∈ l,j.2<ops.size)->k9 md ops listed->zm md ops fl pu l listed=true->S w->
  (∀a',C a' w->mg P md ops Q S fl pu n (nC l listed) a' w)->
  fD P md ops (Exit.then C Q) S fl (fC ops l) a w->mg P md ops Q S fl pu (l.length+n) listed a w
 |[],_,_,_,_,_,_,_,hC,h=>by unfold fD at h;have:=hC _ h;simpa [nC] using this
 |(0,i)::l,_,_,_,_,_,hB,_,_,_=>by simp[zm] at hB
 |(1,i)::l,listed,a,w,hlt,hc,hB,hS,hC,h=>by
  simp only[zm,apq] at hB;obtain⟨⟨⟨hr,hf⟩,hfl⟩,hB'⟩:=hB;have hi:ops[i]? =some ops[i]! :=by
   have:=hlt (1,i) ae;simp at this;simp[this]
  have hg:fC ops ((1,i)::l)=(1,i,ops[i]!)::fC ops l:=by simp only[fC,List.filterMap_cons,hi];rfl
  rw[hg] at h;have hr':i ∈ Region.ready md ops listed:=by simpa using hr
  have next:∀a',fD P md ops (Exit.then C Q) S fl (fC ops l) a' w->mg P md ops Q S fl pu (l.length+n) (listed.setIfInBounds i true) a' w:=λa' ha'=>
   nH hsel hQ l _ a' w (λk hk=>hlt k (by simp[hk])) (hc.set hr') hB' hS hC ha'
  have e:((1,i)::l).length+n=l.length+n+1:=by simp;omega
  rw[e];unfold fD at h;split at h
  ·rename_i hw;obtain⟨v,h1,h2⟩:=h;exact mb hi (by simpa using hfl) (Region.noSelect_spec hsel) (λc a w=>hQ c a _ v w) _ listed a w hc (Region.free_spec hi hf) hr' (.inl ⟨hw,h1⟩) hS (next _ h2)
  ·rename_i hw;exact mb hi (by simpa using hfl) (Region.noSelect_spec hsel) (λc a w=>hQ c a _ undef w) _ listed a w hc (Region.free_spec hi hf) hr' (.inr ⟨by simpa using hw,rfl⟩) hS (next _ h)
 |(k+2,i)::l,listed,a,w,hlt,hc,hB,hS,hC,h=>by
  simp only[zm,apq] at hB;obtain⟨⟨⟨hr,hf⟩,hpu⟩,hB'⟩:=hB;have hi:ops[i]? =some ops[i]! :=by
   have:=hlt (k+2,i) ae;simp at this;simp[this]
  have hg:fC ops ((k+2,i)::l)=(k+2,i,ops[i]!)::fC ops l:=by simp only[fC,List.filterMap_cons,hi];rfl
  rw[hg] at h;have hr':i ∈ Region.ready md ops listed:=by simpa using hr
  have next:∀a',fD P md ops (Exit.then C Q) S fl (fC ops l) a' w->mg P md ops Q S fl pu (l.length+n) (listed.setIfInBounds i true) a' w:=λa' ha'=>
   nH hsel hQ l _ a' w (λk hk=>hlt k (by simp[hk])) (hc.set hr') hB' hS hC ha'
  have e:((k+2,i)::l).length+n=l.length+n+1:=by simp;omega
  rw[e];unfold fD at h;split at h
  ·exact dJ
  ·exact dK
def Bc(md:Region.Mode)(ops:Array Oper)(fl pu:List Nat)(l:List (Nat×Nat))(T:PT):Bool:=
 Region.noSelect ops&&decide (l.length+T.depth=ops.size)&&l.all (λi=>decide (i.2<ops.size))&&zm md ops fl pu l (Array.replicate ops.size false)&&
  T.node&&decide (Region.ready md ops (nC l (Array.replicate ops.size false))=T.heads)&&sM md ops T (nC l (Array.replicate ops.size false))
theorem n9{id:Nat}{l:List Oper}{a:Act}{w:World}(S:World->Prop)(fl pu:List Nat)(pl:List (Nat×Nat))(T:PT)(hm:P.follows .mixedOrders=true)(hB:Bc .any l.toArray fl pu pl T=true)
  (hQ:∀c (a:Act) d v w,Q (.panic c) (a.put d v) w->Q (.panic c) a w) (hS:S w.drew)
  (h:fD P .any l.toArray (Exit.then (mH P l.toArray Q S T) Q) S fl (fC l.toArray pl) a w.drew):(Code.region id l.toArray true).wp P Q a w:=by
 simp only[Bc,apq,decide_eq_true_eq] at hB;obtain⟨⟨⟨⟨⟨⟨hsel,hlen⟩,hpl⟩,hpre⟩,hnode⟩,hready⟩,htree⟩:=hB;have hpl':∀j ∈ pl,j.2<l.toArray.size:=λj hj=>of_decide_eq_true (apr.1 hpl j hj);refine wp_region_any hm (nI (S:=S) (fl:=fl) (pu:=pu) _ _ _ _ ?_);have:=nH (P:=P) (md:= .any) (Q:=Q) (S:=S) (fl:=fl) (pu:=pu) (n:=T.depth) hsel hQ pl _ a w.drew hpl' (rT _) hpre hS
  (λa' hC=>pB _ T _ a' _ hnode (bL _) hready htree hC) h
 rw[hlen] at this;exact this
end
end Go.Proofs.YtdpkgnmmikebdaaGreat