/- A part of the proof of CostLimits. No condition. -/
import Derived.Test.YtdpkgnmmikebdaaGreatGi13
set_option linter.unusedSimpArgs false
set_option linter.unusedVariables false
set_option linter.constructorNameAsVariable false
set_option maxRecDepth 100000
set_option maxHeartbeats 4000000
namespace Go.Proofs.YtdpkgnmmikebdaaGreat
open Go.RowKit
def wv(φ:Fz)(w:World):Prop:=∀c fs,φ c=some fs->∃cs t fr,w.heap[c]? =some (.cells cs t fr)/\oq fs cs
def Sg.data(φ:Fz):Sg:=⟨λ_=>none,λ_=>False,φ⟩
def u9(φ:Fz)(w:World)(Q:AV->AH->Prop):Ending->World->Prop
 |.returned u,w'=>∃v Hc σ',Q v Hc/\VR σ' v u/\HR w.heap.size σ' Hc w'/\Below w.heap.size w w'/\(∀c,c<w.heap.size->σ'.fz c=φ c)
 |_,_=>False
def yI(P:Program)(f:FuncId)(args:List AV)(Q:AV->AH->Prop):Prop:=
 ui P f/\∀(φ:Fz) (w:World) (args':Array Value),wv φ w->gn (Sg.data φ) args args'.toList->Calls P f args' w (u9 φ w Q)
theorem yI.mono{P:Program}{f:FuncId}{args:List AV}{Q Q':AV->AH->Prop}(h:yI P f args Q)(hq:∀v H,Q v H->Q' v H):yI P f args Q':=
 ⟨h.1,λφ w args' hφ ha=>(h.2 φ w args' hφ ha).mono λe w' hp=>by
  cases e with
  |returned u=>obtain⟨v,Hc,σ',q,r⟩:=hp;exact⟨v,Hc,σ',hq v Hc q,r⟩
  |panicked c=>exact hp
  |outgrown=>exact hp⟩
def AE.fin:AE->Bool
 |.exit _=>false
 |_=>true
def pq(res:List AP)(Q:AV->AH->Prop):AE->Tr AV->AH->Prop
 |.exit _,_,_=>False
 |_,e,H=>match lK e H res with
  |some l=>Q (gD l) H
  |none=>False
theorem LZ{P:Program}[IdleOK P](hm:P.follows .mixedOrders=true){f:FuncId}{hints:gN}{F:AF}(hF:fB P hints f=some F){args:List AV}(hlen:args.length<=F.nt){Q:AV->AH->Prop}
  (h:GA P F.nt hints F.code (oh args) ⟨.nil,0,2^40,λ_=>none,[]⟩ (pq F.res Q)):yI P f args Q:=by
 unfold fB at hF;obtain⟨fn,h1,hF⟩:=bM.1 hF;obtain⟨c,h3,hF⟩:=bM.1 hF;obtain⟨ac,h5,hF⟩:=bM.1 hF;obtain⟨r,h6,hF⟩:=bM.1 hF;split at hF;rotate_left
 ·cases hF
 rename_i hq;cases hF;refine⟨⟨fn,h1,hq.1,by rw[h3];rfl⟩,λφ w args' hφ ha=>?_⟩
 refine lW h1 h3 ?_;refine h c h5 w.heap.size (Sg.data φ) _ w _ (sw ha hlen hq.2) (HR.empty w hφ) (λc a w hq=>hq.elim) (λx e' H' a' w' σ' q q1 q2 q3 q4=>?_);have key:∀l,lK e' H' r=some l->Q (gD l) H'->(∀d ∈ a'.defers,u7 d)/\∃v,(results fn a'.tmps).run P w'= .ok v w'/\u9 φ w Q (.returned v) w':=by
  intro l hl hQ;obtain⟨us,g1,g2⟩:=ra q1.er q2 _ _ _ h6 hl;have hres:∃u,(results fn a'.tmps).run P w'= .ok u w'/\VR σ' (gD l) u:=by
   have hsem:results fn a'.tmps=(do let vs<-fn.results.mapM (lN a');pure (if h:vs.size=1 then vs[0] else .tuple vs)):=by
    unfold results;rfl
   have hrun:(fn.results.mapM (lN a')).run P w'= .ok us.toArray w':=by
    simp[Array.mapM_eq_mapM_toList,g1]
   rw[hsem];simp only[Sem.run_bind,hrun,Result.andThen_ok,Sem.run_pure];refine⟨_,rfl,?_⟩;have hn:=g2.1
   match l,us,g2,hn with
   |[v],[u],g2,_=>exact g2.2 0 v rfl
   |[],[],_,_=>exact gn.nil.tup
   |v1::v2::l,u1::u2::us,g2,_=>exact g2.tup
  obtain⟨u,k1,k2⟩:=hres;exact⟨q1.er.df,u,k1,gD l,H',σ',hQ,k2,q2,q3,q4.eq⟩
 have q':∃l,lK e' H' r=some l/\Q (gD l) H':=by
  cases x with
  |exit i=>exact q.elim
  |normal=>
   simp only[pq] at q;split at q
   ·exact aqR
   ·exact q.elim
  |ret=>
   simp only[pq] at q;split at q
   ·exact aqR
   ·exact q.elim
 obtain⟨l,hl,hQ⟩:=q';obtain⟨k1,v,k2,k3⟩:=key l hl hQ;have post:Leaves P fn a'.tmps (u9 φ w Q) a'.defers .returning w':=mz k2 k3 _ k1;cases x with
 |exit i=>exact q.elim
 |normal=>exact post
 |ret=>exact post
/-! ### results-/
inductive og where
 |v (x:AV)
 |o (ty esz n z:Nat) (row:Nat->Nat->AV)
inductive RT where
 |v (x:AV)
 |o (ty esz n z:Nat) (row:Nat->Nat->AV)
 |a (l:List og)
def avu(ty esz n z:Nat)(row:Nat->Nat->AV)(b:Nat)(H:AH):Prop:=∃x,H.at b=some x/\x.ty=ty/\x.esz=esz/\0<esz/\x.opn=true/\n*esz<=x.size/\x.fzn<=z/\(∀i j,i<n->j<esz->x.get (i*esz+j)=row i j)/\(∀i j,i<n->j<esz->(row i j).cell=true)
def ZU(used:List Nat)(ty esz n z:Nat)(row:Nat->Nat->AV)(v:AV)(H:AH):Prop:=(v= .sl0/\n=0)\/∃b,v= .os b n/\b ∉ used/\avu ty esz n z row b H
def wN(v:AV)(used:List Nat):List Nat:=match v with
 |.os b _=>b::used
 |_=>used
def yR(H:AH):List Nat->List og->List AV->Prop
 |_,[],[]=>True
 |used,.v x::l,v::vs=>(v=x/\x.pu 3=true)/\yR H used l vs
 |used,.o ty esz n z row::l,v::vs=>ZU used ty esz n z row v H/\yR H (wN v used) l vs
 |_,_,_=>False
def RR1(r:RT)(v:AV)(H:AH):Prop:=match r with
 |.v x=>v=x/\x.pu 3=true
 |.o ty esz n z row=>ZU [] ty esz n z row v H
 |.a l=>l.length<=8/\∃vs,v= .agg vs/\yR H [] l vs
def wc:List RT->Bool
 |[]=>true
 |.v _::l=>wc l
 |_::_=>false
def qP:List RT->List AV->AH->Prop
 |[],[],_=>True
 |.v x::rs,v::l,H=>RR1 (.v x) v H/\qP rs l H
 |.o ty esz n z row::rs,v::l,H=>RR1 (.o ty esz n z row) v H/\wc rs=true/\qP rs l H
 |.a c::rs,v::l,H=>RR1 (.a c) v H/\wc rs=true/\qP rs l H
 |_,_,_=>False
def gO(good:AV->Prop):og->Prop
 |.v x=>good x
 |.o _ esz n _ row=>∀i j,i<n->j<esz->good (row i j)
def gR(good:AV->Prop):RT->Prop
 |.v x=>good x
 |.o _ esz n _ row=>∀i j,i<n->j<esz->good (row i j)
 |.a l=>∀r ∈ l,gO good r
theorem vX:∀r:RT,gR (λ_=>True) r
 |.v _=>trivial
 |.o _ _ _ _ _=>λ_ _ _ _=>trivial
 |.a l=>λr _=>by cases r<;>simp[gO]
def gw(P:Program)(f:FuncId)(args:List AV)(rs:List RT):Prop:=yI P f args λv H=>∃l,v=gD l/\qP rs l H
def qC(H:AH):List og->List AV×AH
 |[]=>([],H)
 |.v x::l=>(x::(qC H l).1,(qC H l).2)
 |.o ty esz n z row::l=>(.os H.next n::(qC (H.new (fg ty esz n z row)) l).1,(qC (H.new (fg ty esz n z row)) l).2)
def iG(H:AH):List RT->List AV×AH
 |[]=>([],H)
 |.v x::rs=>(x::(iG H rs).1,(iG H rs).2)
 |.o ty esz n z row::rs=>(.os H.next n::(iG H rs).1,H.new (fg ty esz n z row))
 |.a l::rs=>(.agg (qC H l).1::(iG H rs).1,(qC H l).2)
section
variable {P:Program} {B B':Nat} {σ' σa:Sg} {Hc Ha:AH} {w':World}
theorem E7{good:AV->Prop}{σf:Sg}(hm:∀{a:AV} {u:Value},a.pu 3=true->good a->VR σ' a u->VR σf a u):∀(rs:List RT) (l:List AV) (us:List Value) (H:AH),qP rs l Hc->wc rs=true->(∀r ∈ rs,gR good r)->gn σ' l us->(iG H rs).2=H/\gn σf (iG H rs).1 us
 |[],[],us,H,_,_,_,hv=>⟨rfl,⟨hv.1,λi v hi=>by simp[iG] at hi⟩⟩
 |[],_::_,_,_,h,_,_,_=>h.elim
 |.v x::rs,[],_,_,h,_,_,_=>h.elim
 |.o _ _ _ _ _::rs,_,_,_,_,ha,_,_=>by simp[wc] at ha
 |.a _::rs,_,_,_,_,ha,_,_=>by simp[wc] at ha
 |.v x::rs,v::l,us,H,h,ha,hg,hv=>by
  obtain⟨⟨rfl,h1⟩,h2⟩:=h;cases us with
  |nil=>have:=hv.1;simp at this
  |cons u us=>
   have hu:VR σ' v u:=by simpa using hv.2 0 v rfl
   have hv':gn σ' l us:=⟨by simpa using hv.1,λj y hj=>by simpa using hv.2 (j+1) y (by simpa using hj)⟩
   obtain⟨e1,e2⟩:=E7 hm rs l us H h2 ha (λr hr=>hg r (apx _ hr)) hv';exact⟨e1,e2.cons (hm h1 (hg _ (aps ..)) hu)⟩
def A9(B':Nat)(σ' σa:Sg)(Hc Ha:AH)(used:List Nat):Prop:=(∀b ∈ used,∃x,Hc.at b=some x)/\∀b c o,σa b=some (c,o)->Ha.at b≠none->c<B'\/∃b' o',b' ∈ used/\σ' b'=some (c,o')
theorem MW{good:AV->Prop}(hm:∀{a:AV} {u:Value} {σn:Sg},a.pu 3=true->good a->σa.le σn->VR σ' a u->VR σn a u)(hc:HR B' σ' Hc w')(ha:HR B σa Ha w')(hz:∀c fs,B'<=c->σa.fz c=some fs->σ'.fz c=some fs)(hB:B<=B'){used:List Nat}(hold:A9 B' σ' σa Hc Ha used)(hnx:Ha.next+1<2^40){ty esz n z:Nat}{row:Nat->Nat->AV}{v:AV}(hr:ZU used ty esz n z row v Hc)(hg:∀i j,i<n->j<esz->good (row i j)){u:Value}(hv:VR σ' v u):
  ∃σ2,HR B σ2 (Ha.new (fg ty esz n z row)) w'/\VR σ2 (.os Ha.next n) u/\σa.le σ2/\σ2.fz=σa.fz/\(∀b,b<Ha.next->σ2 b=σa b)/\(∀b c o,Ha.next<=b->σ2 b=some (c,o)->B'<=c)/\A9 B' σ' σ2 Hc (Ha.new (fg ty esz n z row)) (wN v used):=by
 have hsm:=ha.small;have hatn:∀b,b≠Ha.next->(Ha.new (fg ty esz n z row)).at b=Ha.at b:=λb hb=>by
  unfold AH.new;rw[AH.at_put _ _ _ _ _ _ _ _ aa,if_neg hb]
 have nilcase:∀(hn0:n=0) (hu0:wN v used=used\/∃b,wN v used=b::used/\∃x,Hc.at b=some x),(∃ad,u= .slice ad 0 0)->∃σ2,HR B σ2 (Ha.new (fg ty esz n z row)) w'/\VR σ2 (.os Ha.next n) u/\σa.le σ2/\σ2.fz=σa.fz/\(∀b,b<Ha.next->σ2 b=σa b)/\(∀b c o,Ha.next<=b->σ2 b=some (c,o)->B'<=c)/\A9 B' σ' σ2 Hc (Ha.new (fg ty esz n z row)) (wN v used):=by
  rintro rfl hu0 ⟨ad,rfl⟩;refine⟨σa.extNil Ha.next,ha.placeNil rfl (λ_ _ h=>h) hnx rfl (by simp[fg]) rfl ⟨rfl,rfl⟩,.os0 (σ:=σa.extNil Ha.next) (Or.inl rfl) _,Sg.le_extNil _ _,rfl,λ_ _=>rfl,λb c o hb hs=>?_,?_,λb c o hs hne=>?_⟩
  ·have hs':σa b=some (c,o):=hs;rw[ha.new b hb] at hs';cases hs'
  ·rcases hu0 with e|⟨b0,e,x0,hx0⟩
   ·rw[e];exact hold.1
   ·rw[e];intro b hb;rcases apv.1 hb with rfl|hb
    ·exact⟨x0,hx0⟩
    ·exact hold.1 b hb
  ·have hs':σa b=some (c,o):=hs;have hb:b≠Ha.next:=λe=>by rw[e,ha.new _ (bL _)] at hs';cases hs'
   rw[hatn b hb] at hne;rcases hold.2 b c o hs' hne with h1|⟨b',o',h1,h2⟩
   ·exact .inl h1
   ·refine .inr ⟨b',o',?_,h2⟩;rcases hu0 with e|⟨b0,e,_⟩
    ·rw[e];exact h1
    ·rw[e];exact apx _ h1
 rcases hr with⟨rfl,rfl⟩|⟨b,rfl,hbu,x,hx,rfl,rfl,hez,hop,hsz,hfz,hget,hcell⟩
 ·refine nilcase rfl (.inl rfl) ?_;cases hv with
  |sl0 a=>exact⟨_,rfl⟩
 cases hv with
 |os0 hh a=>exact nilcase rfl (.inr ⟨b,rfl,x,hx⟩) ⟨_,rfl⟩
 |@os _ _ _ c k hh hl=>
  obtain⟨cs,p1,p2,p3⟩:=hc.blk b x c _ hx hh;obtain⟨p4,p5⟩:=p3.op _ rfl;have hle:σa.le (σa.ext Ha.next (c,some k)):=Sg.le_ext (ha.new _ (bL _))
  refine⟨σa.ext Ha.next (c,some k),?_,.os (Sg.ext_self _ _ _) hl,hle,rfl,λb' hb'=>Sg.ext_ne _ _ aa,λb' c' o' hb' hs'=>?_,?_,λb' c' o' hs' hne=>?_⟩
  ·refine ha.place rfl (λb' y hy=>⟨hy,λc' o' hs'=>⟨?_,rfl⟩⟩) hnx rfl aa p2 ha.hB ⟨?_,λe=>(by cases e),λk' hk'=>?_,rfl,λi hi=>?_⟩ ?_ (λc' fs hf=>⟨λ_=>rfl,λe=>?_⟩) ha.ob
   ·rcases hold.2 b' c' o' hs' (by rw[hy];simp) with h1|⟨b2,o2,h1,h2⟩
    ·omega
    ·rintro rfl;obtain⟨x2,hx2⟩:=hold.1 b2 h1;have:=hc.inj b2 b x2 x c' o2 _ hx2 hx h2 hh;exact hbu (this ▸ h1)
   ·have:=p3.sz;show n*x.esz<=cs.size;omega
   ·cases hk';exact⟨p4,p5⟩
   ·have hi':i<n*x.esz:=hi;have hq:i / x.esz<n:=Nat.div_lt_of_lt_mul (by rw[apT];exact hi')
    have hmd:i%x.esz<x.esz:=Nat.mod_lt _ hez;have hdm:i / x.esz*x.esz+i%x.esz=i:=by
     have:=Nat.div_add_mod i x.esz;rw[apT] at this;exact this
    have e1:(fg x.ty x.esz n z row).get i=row (i / x.esz) (i%x.esz):=rfl;rw[e1];have e2:=hget _ _ hq hmd;rw[hdm] at e2;have e3:=p3.cell i aa;rw[e2] at e3;have hce:=hcell _ _ hq hmd;simp only[AV.cell,apq] at hce;exact hm hce.1 (hg _ _ hq hmd) hle e3
   ·show n*x.esz<2^40;have:=hc.szs b x hx;omega
   ·subst e;obtain⟨cs',t',fr',q1,q2,q3⟩:=hc.frz _ fs (hz _ fs p1 hf);rw[p2] at q1;cases q1;have:=q3 b x _ hx hh;exact⟨by show fs.size<=z;omega,q2⟩
  ·by_cases e:b'=Ha.next
   ·subst e;rw[Sg.ext_self] at hs';cases hs';exact p1
   ·rw[Sg.ext_ne _ _ e,ha.new b' hb'] at hs';cases hs'
  ·intro b' hb';rcases apv.1 hb' with rfl|hb'
   ·exact⟨x,hx⟩
   ·exact hold.1 b' hb'
  ·by_cases e:b'=Ha.next
   ·subst e;rw[Sg.ext_self] at hs';cases hs';exact .inr ⟨b,_,aps ..,hh⟩
   ·rw[Sg.ext_ne _ _ e] at hs';rw[hatn b' e] at hne;rcases hold.2 b' c' o' hs' hne with h1|⟨b2,o2,h1,h2⟩
    ·exact .inl h1
    ·exact .inr ⟨b2,o2,apx _ h1,h2⟩
theorem vS{good:AV->Prop}{σ0:Sg}(hm:∀{a:AV} {u:Value} {σn:Sg},a.pu 3=true->good a->σ0.le σn->VR σ' a u->VR σn a u)(hc:HR B' σ' Hc w')(hB:B<=B')(hz:∀c fs,B'<=c->σ0.fz c=some fs->σ'.fz c=some fs):∀(rs:List og) (l:List AV) (us:List Value) {used:List Nat} {Ha:AH} {σa:Sg},σ0.le σa->HR B σa Ha w'->σa.fz=σ0.fz->A9 B' σ' σa Hc Ha used->Ha.next+rs.length<2^40->yR Hc used rs l->(∀r ∈ rs,gO good r)->gn σ' l us->
  ∃σ2,HR B σ2 (qC Ha rs).2 w'/\gn σ2 (qC Ha rs).1 us/\σa.le σ2/\σ2.fz=σa.fz/\(∀b,b<Ha.next->σ2 b=σa b)/\Ha.next<=(qC Ha rs).2.next/\(qC Ha rs).2.low=Ha.low/\∀b c o,Ha.next<=b->σ2 b=some (c,o)->B'<=c
 |[],[],us,used,Ha,σa,h0,ha,hz',hold,hnx,h,hg,hv=>⟨σa,ha,⟨hv.1,λi v hi=>by simp[qC] at hi⟩,σa.le_refl,rfl,λ_ _=>rfl,bL _,rfl,λb c o hb hs=>by rw[ha.new b hb] at hs;cases hs⟩
 |[],_::_,_,_,_,_,_,_,_,_,_,h,_,_=>h.elim
 |.v x::rs,[],_,_,_,_,_,_,_,_,_,h,_,_=>h.elim
 |.o _ _ _ _ _::rs,[],_,_,_,_,_,_,_,_,_,h,_,_=>h.elim
 |.v x::rs,v::l,us,used,Ha,σa,h0,ha,hz',hold,hnx,h,hg,hv=>by
  obtain⟨⟨rfl,h1⟩,h2⟩:=h;cases us with
  |nil=>have:=hv.1;simp at this
  |cons u us=>
   have hu:VR σ' v u:=by simpa using hv.2 0 v rfl
   have hv':gn σ' l us:=⟨by simpa using hv.1,λj y hj=>by simpa using hv.2 (j+1) y (by simpa using hj)⟩
   obtain⟨σ2,e1,e2,e3,e4,e5,e6,e7,e8⟩:=vS hm hc hB hz rs l us h0 ha hz' hold (by simp only[List.length_cons] at hnx;omega) h2 (λr hr=>hg r (apx _ hr)) hv'
   exact⟨σ2,e1,e2.cons (hm h1 (hg _ (aps ..)) (h0.trans e3) hu),e3,e4,e5,e6,e7,e8⟩
 |.o ty esz n z row::rs,v::l,us,used,Ha,σa,h0,ha,hz',hold,hnx,h,hg,hv=>by
  obtain⟨h1,h2⟩:=h;simp only[List.length_cons] at hnx;cases us with
  |nil=>have:=hv.1;simp at this
  |cons u us=>
   have hu:VR σ' v u:=by simpa using hv.2 0 v rfl
   have hv':gn σ' l us:=⟨by simpa using hv.1,λj y hj=>by simpa using hv.2 (j+1) y (by simpa using hj)⟩
   obtain⟨σ1,d1,d2,d3,d4,d5,d6,d7⟩:=MW (good:=good) (λha hg hle hu=>hm ha hg (h0.trans hle) hu) hc ha (λc fs hc hf=>hz c fs hc (by rw[<-hz'];exact hf)) hB hold aa h1 (hg _ (aps ..)) hu
   have hnn:(Ha.new (fg ty esz n z row)).next=Ha.next+1:=rfl
   obtain⟨σ2,e1,e2,e3,e4,e5,e6,e7,e8⟩:=vS hm hc hB hz rs l us (h0.trans d3) d1 (d4.trans hz') d7 (by rw[hnn];omega) h2 (λr hr=>hg r (apx _ hr)) hv'
   rw[hnn] at e5 e6 e8;refine⟨σ2,e1,e2.cons (d2.mono e3),d3.trans e3,e4.trans d4,λb hb=>(e5 b aa).trans (d5 b hb),apj (Nat.le_succ _) e6,e7,λb c o hb hs=>?_⟩;by_cases e:b=Ha.next
   ·subst e;rw[e5 _ aa] at hs;exact d6 _ c o (bL _) hs
   ·exact e8 b c o aa hs
theorem rn{good:AV->Prop}(hm:∀{a:AV} {u:Value} {σn:Sg},a.pu 3=true->good a->σa.le σn->VR σ' a u->VR σn a u)(hc:HR B' σ' Hc w')(ha:HR B σa Ha w')(hz:∀c fs,B'<=c->σa.fz c=some fs->σ'.fz c=some fs)(hB:B<=B')(hold:∀b c o,σa b=some (c,o)->Ha.at b≠none->c<B')(hnx:Ha.next+9<2^40):∀(rs:List RT) (l:List AV) (us:List Value),qP rs l Hc->(∀r ∈ rs,gR good r)->gn σ' l us->
  ∃σ2,HR B σ2 (iG Ha rs).2 w'/\gn σ2 (iG Ha rs).1 us/\σa.le σ2/\σ2.fz=σa.fz/\(∀b,b<Ha.next->σ2 b=σa b)/\Ha.next<=(iG Ha rs).2.next/\(iG Ha rs).2.low=Ha.low/\∀b c o,Ha.next<=b->σ2 b=some (c,o)->B'<=c
 |[],[],us,h,hg,hv=>⟨σa,ha,⟨hv.1,λi v hi=>by simp[iG] at hi⟩,σa.le_refl,rfl,λ_ _=>rfl,bL _,rfl,λb c o hb hs=>by rw[ha.new b hb] at hs;cases hs⟩
 |[],_::_,_,h,_,_=>h.elim
 |.v x::rs,[],_,h,_,_=>h.elim
 |.o _ _ _ _ _::rs,[],_,h,_,_=>h.elim
 |.a _::rs,[],_,h,_,_=>h.elim
 |.v x::rs,v::l,us,h,hg,hv=>by
  obtain⟨⟨rfl,h1⟩,h2⟩:=h;cases us with
  |nil=>have:=hv.1;simp at this
  |cons u us=>
   have hu:VR σ' v u:=by simpa using hv.2 0 v rfl
   have hv':gn σ' l us:=⟨by simpa using hv.1,λj y hj=>by simpa using hv.2 (j+1) y (by simpa using hj)⟩
   obtain⟨σ2,e1,e2,e3,e4,e5,e6,e7,e8⟩:=rn hm hc ha hz hB hold hnx rs l us h2 (λr hr=>hg r (apx _ hr)) hv';exact⟨σ2,e1,e2.cons (hm h1 (hg _ (aps ..)) e3 hu),e3,e4,e5,e6,e7,e8⟩
 |.o ty esz n z row::rs,v::l,us,h,hg,hv=>by
  obtain⟨h1,h3,h2⟩:=h;cases us with
  |nil=>have:=hv.1;simp at this
  |cons u us=>
   have hu:VR σ' v u:=by simpa using hv.2 0 v rfl
   have hv':gn σ' l us:=⟨by simpa using hv.1,λj y hj=>by simpa using hv.2 (j+1) y (by simpa using hj)⟩
   obtain⟨σ2,e1,e2,e3,e4,e5,e6,_⟩:=MW (good:=good) hm hc ha hz hB (used:=[]) ⟨λb hb=>(by cases hb),λb c o hs hn=> .inl (hold b c o hs hn)⟩ aa h1 (hg _ (aps ..)) hu
   exact⟨σ2,e1,(E7 (good:=good) (λha hg hu=>hm ha hg e3 hu) rs l us Ha h2 h3 (λr hr=>hg r (apx _ hr)) hv').2.cons e2,e3,e4,e5,Nat.le_succ _,rfl,e6⟩
 |.a c::rs,v::l,us,h,hg,hv=>by
  obtain⟨⟨h0,vs,rfl,h1⟩,h3,h2⟩:=h;cases us with
  |nil=>have:=hv.1;simp at this
  |cons u us=>
   have hu:VR σ' (.agg vs) u:=by simpa using hv.2 0 _ rfl
   have hv':gn σ' l us:=⟨by simpa using hv.1,λj y hj=>by simpa using hv.2 (j+1) y (by simpa using hj)⟩
   cases hu with
   |@agg _ _ cs hl hh=>
    have hvs:gn σ' vs cs.toList:=⟨by simpa using hl,λi x hx=>by simpa [apd,apA] using hh i x hx⟩
    obtain⟨σ2,e1,e2,e3,e4,e5,e6,e7,e8⟩:=vS hm hc hB hz c vs cs.toList (used:=[]) σa.le_refl ha rfl ⟨λb hb=>(by cases hb),λb c o hs hn=> .inl (hold b c o hs hn)⟩ aa h1 (hg _ (aps ..)) hvs
    refine⟨σ2,e1,(E7 (good:=good) (λha hg hu=>hm ha hg e3 hu) rs l us Ha h2 h3 (λr hr=>hg r (apx _ hr)) hv').2.cons ?_,e3,e4,e5,e6,e7,e8⟩;simpa using e2.agg
theorem m9{σ:Sg}:∀{l:List AV} {u:Value},VR σ (gD l) u->∃us:List Value,gn σ l us/\∀{σ2:Sg} {l2:List AV},l2.length=l.length->gn σ2 l2 us->VR σ2 (gD l2) u
 |[],u,h=>by
  cases h with
  |tup hl hh=>
   rename_i cs;refine⟨[],gn.nil,λ{σ2 l2} hn hv=>?_⟩;have:l2=[]:=aqe hn;subst this;exact .tup hl (λi v hi=>by simp at hi)
 |[v],u,h=>by
  refine⟨[u],gn.nil.cons h,λ{σ2 l2} hn hv=>?_⟩
  match l2,hn with
  |[x],_=>exact hv.2 0 x rfl
 |v1::v2::l,u,h=>by
  cases h with
  |tup hl hh=>
   rename_i cs;refine⟨cs.toList,⟨by simpa using hl,λi x hx=>by simpa [apd,apA] using hh i x hx⟩,λ{σ2 l2} hn hv=>?_⟩
   match l2,hn with
   |x1::x2::l2,hn=>exact hv.tup
theorem kS:∀(rs:List RT) (l:List AV) (H:AH),qP rs l Hc->(iG H rs).1.length=l.length
 |[],[],_,_=>rfl
 |[],_::_,_,h=>h.elim
 |.v x::rs,[],_,h=>h.elim
 |.o _ _ _ _ _::rs,[],_,h=>h.elim
 |.a _::rs,[],_,h=>h.elim
 |.v x::rs,v::l,H,h=>by simp[iG,kS rs l H h.2]
 |.o ty esz n z row::rs,v::l,H,h=>by simp[iG,kS rs l H h.2.2]
 |.a c::rs,v::l,H,h=>by simp[iG,kS rs l H h.2.2]
end
def ja(M:List Nat)(H:AH):List AV->List AV->Prop
 |[],[]=>True
 |v::l,v2::l2=>Cv M H v v2/\ja M H l l2
 |_,_=>False
theorem ja.ok{M:List Nat}{B:Nat}{σ σ2:Sg}{H:AH}{w:World}(h:HR B σ H w)(hle:σ.le σ2)(hnm:σ2.nm=σ.nm)(hM:∀b ∈ M,wo σ2 H w b):∀{l l2:List AV} {us:List Value},ja M H l l2->gn σ l us->gn σ2.bare l2 us
 |[],[],us,_,hv=>⟨hv.1,λi v hi=>by simp at hi⟩
 |[],_::_,_,hc,_=>hc.elim
 |_::_,[],_,hc,_=>hc.elim
 |v::l,v2::l2,[],hc,hv=>by have:=hv.1;simp at this
 |v::l,v2::l2,u::us,hc,hv=>by
  have hu:VR σ v u:=by simpa using hv.2 0 v rfl
  have hv':gn σ l us:=⟨by simpa using hv.1,λj y hj=>by simpa using hv.2 (j+1) y (by simpa using hj)⟩
  exact(ja.ok h hle hnm hM hc.2 hv').cons (hc.1.ok h hle hnm hM hu)
theorem gm{P:Program}{g:FuncId}{args fargs:List AV}{H:AH}{rs:List RT}{Q:AV->AH->Prop}(M:List Nat)(hcv:ja M H args fargs)(h:gw P g fargs rs)(hnx:H.next+9<2^40)
  (hQ:Q (gD (iG (gF H M) rs).1) (iG (gF H M) rs).2):qS P g args H Q:=by
 refine⟨h.1,λB σ w args' hH ha=>?_⟩;obtain⟨σ2,q1,q2,q3,q4,q5,q6,q7⟩:=hH.marks M;have hd:gn (Sg.data σ2.fz) fargs args'.toList:=hcv.ok hH q1 q2 q7 ha;have hin:wv σ2.fz w:=λc fs hf=>by
  obtain⟨cs,t,fr,e1,e2,_⟩:=q6.frz c fs hf;exact aqS
 refine(h.2 σ2.fz w args' hin hd).mono λe w' hp=>?_;cases e with
 |panicked c=>exact hp.elim
 |outgrown=>exact hp.elim
 |returned u=>
  obtain⟨v,Hc,σ',⟨l,rfl,hr⟩,hv,hHc,hbel,hfz⟩:=hp;obtain⟨us,hus,hback⟩:=m9 hv;let σa:Sg:=⟨σ2.nm,σ2.nl,σ'.fz⟩;have hle:σ2.le σa:=⟨λ_ _ hh=>hh,λ_ hh=>hh,λc fs hf=>⟨fs,by show σ'.fz c=_;rw[hfz c (q6.fzlt hf)];exact hf,oq.refl _⟩⟩
  have hblt:∀b c o,σa b=some (c,o)->(gF H M).at b≠none->c<w.heap.size:=λb c o hs hne=>by
   cases hx:(gF H M).at b with
   |none=>exact absurd hx hne
   |some x=>
    obtain⟨cs,e1,e2,e3⟩:=q6.blk b x c o hx hs;exact(apo.1 e2).1
  have hHa:HR B σa (gF H M) w':=by
   refine⟨q6.new,q6.newl,q6.old,q6.small,apj q6.hB hbel.size,q6.nil,q6.nilp,λb x c o hx hs=>?_,q6.szs,q6.inj,λc fs hf=>?_,(q6.ob.mono hle).keep λr hr _=>hbel.block r hr⟩
   ·exact aqT
   ·by_cases hc:c<w.heap.size
    ·exact aqU
    ·obtain⟨cs,t,fr,e1,e2,_⟩:=hHc.frz c fs hf;refine⟨cs,t,fr,e1,e2,λb x o hx hs=>?_⟩;have:=hblt b c o hs (by rw[hx];simp)
     omega
  have hnx':(gF H M).next+9<2^40:=by rw[jU];exact hnx
  have hmm:∀{a:AV} {u:Value} {σn:Sg},a.pu 3=true->True->σa.le σn->VR σ' a u->VR σn a u:=λhp _ hle' hu=>by
   have e1:=hu.pure 3 hp;have e2:σ'.bare.le _:=⟨λb x hx=>(by cases hx),λb hb=>False.elim hb,λc' fs hf=>hle'.fz c' fs hf⟩
   exact e1.mono e2
  obtain⟨σ3,p1,p2,p3,p4,p5,p6,p7,p8⟩:=rn (σa:=σa) (good:=λ_=>True) hmm hHc hHa (λc fs _ hf=>hf) hH.hB hblt hnx' rs l us hr (λr _=>vX r) hus;rw[jU] at p5 p6 p8;rw[pd] at p7;refine⟨_,_,σ3,hQ,hback (kS rs l _ hr) p2,p1,⟨λb hb=>?_,(q1.trans hle).trans p3,p6,by rw[p7];exact bL _,?_,λc hc=> .inl (hbel.block c hc),λb c o hb hs hc=>?_⟩,⟨λc hc=>?_,((q1.trans hle).trans p3).fz⟩⟩
  ·exact aqV
  ·exact aqW
  ·exact aqX
  ·exact aqY
section
variable {H:AH}{L:List (Nat×AV)}{bl:List AB}{M:List Nat}{b n:Nat}{r:Nat->Option Nat}{e:Tr AV}
/-! ### temporaries-/
def fu:List (Nat×AV)->Tr AV
 |[]=> .nil
 |p::l=>Tr.set 48 (fu l) p.1 p.2
theorem lB(t:Nat):(fu []).get t=none:=id rfl
theorem kT{d:Nat}(h:d<1000000)(v:AV)(l:List (Nat×AV))(t:Nat):(fu ((d,v)::l)).get t=if t=d then some v else(fu l).get t:=by
 show(Tr.set 48 (fu l) d v).get t=_;rw[Tr.get_set 48 _ _ _ _ aa]
theorem jP(l:List (Nat×AV))(d:Nat)(v:AV):fQ (fu l) (some d) v=fu ((d,v)::l):=rfl
theorem FK(e:Tr AV)(v:AV):fQ e none v=e:=id rfl
def fy:Nat->List AV->List (Nat×AV)
 |_,[]=>[]
 |i,v::l=>(i,v)::fy (i+1) l
theorem tW:∀(l:List AV) (i t:Nat),i+l.length<1000000->(fu (fy i l)).get t=if i<=t/\t<i+l.length then l[t-i]? else none
 |[],i,t,_=>by simp[fy,lB]
 |v::l,i,t,h=>by
  simp only[List.length_cons] at h;rw[fy,kT aa,tW l (i+1) t aa,List.length_cons];by_cases e:t=i
  ·subst e;rw[if_pos rfl,if_pos aa];simp
  ·rw[if_neg e];by_cases h2:i+1<=t/\t<i+1+l.length
   ·rw[if_pos h2,if_pos aa,show t-i=(t-(i+1))+1 by omega,List.getElem?_cons_succ]
   ·rw[if_neg h2,if_neg aa]
/-! ### blocks-/
def fi:List AB->AH
 |[]=>⟨.nil,0,2^40,λ_=>none,[]⟩
 |x::l=>(fi l).new x
theorem gl:∀l:List AB,(fi l).next=l.length
 |[]=>rfl
 |x::l=>by show(fi l).next+1=_;rw[gl l];rfl
theorem oV(b:Nat):(fi []).at b=none:=by simp[fi,AH.at,Tr.get]
theorem kG(h:H.next<1000000)(x:AB)(b:Nat):(H.new x).at b=if b=H.next then(if x.live then some x else none) else H.at b:=by
 unfold AH.new;rw[AH.at_put _ _ _ _ _ _ _ _ aa]
theorem oI(H:AH)(x:AB):(H.new x).next=H.next+1:=id rfl
theorem LI(H:AH)(x:AB):(H.new x).low=H.low:=id rfl
theorem jE(x:AB)(l:List AB):fi (x::l)=(fi l).new x:=id rfl
theorem sy:∀l:List AB,(fi l).ob=λ_=>none
 |[]=>rfl
 |_::l=>sy l
theorem uL:∀l:List AB,(fi l).mp=[]
 |[]=>rfl
 |_::l=>uL l
def ft(ob:Nat->Option OB)(l:List AB):AH:={fi l with ob:=ob}
theorem fv(l:List AB):ft (λ_=>none) l=fi l:=by unfold ft;rw[<-sy l]
theorem qN(ob:Nat->Option OB)(l:List AB)(b:Nat):(ft ob l).at b=(fi l).at b:=id rfl
theorem gG(ob:Nat->Option OB)(l:List AB):(ft ob l).next=l.length:=gl l
theorem Cm(ob:Nat->Option OB)(l:List AB):(ft ob l).low=(fi l).low:=id rfl
theorem ko(ob:Nat->Option OB)(l:List AB):(ft ob l).ob=ob:=id rfl
theorem qu(ob:Nat->Option OB)(l:List AB):(ft ob l).mp=[]:=uL l
theorem aae(H:AH)(x:AB):(H.new x).ob=H.ob:=id rfl
theorem LH:(fi []).low=2^40:=id rfl
theorem Gg(h:b<1000000)(b':Nat):(H.kill b).at b'=if b'=b then none else H.at b':=by
 unfold AH.kill;cases hx:H.at b with
 |none=>
  simp only;by_cases e:b'=b
  ·subst e;rw[if_pos rfl,hx]
  ·rw[if_neg e]
 |some x=>
  simp only;rw[AH.at_put _ _ _ _ _ _ _ _ aa];by_cases e:b'=b
  ·rw[if_pos e,if_pos e];simp
  ·rw[if_neg e,if_neg e]
theorem Cc(H:AH)(b:Nat):(H.kill b).next=H.next:=AH.kill_next H b
def AH.upd(H:AH)(b:Nat)(x:AB):AH:={H with blks:=Tr.set 48 H.blks b x,low:=min H.low b}
theorem ux(H:AH)(b o:Nat)(v:AV):H.store b o v=match H.at b with
 |some x=>if o<x.size/\x.fzn<=o then some (H.upd b (x.set o v)) else none
 |none=>none:=rfl
theorem Tr.set_set{α:Type}:∀(f:Nat) (t:Tr α) (k:Nat) (x y:α),Tr.set f (Tr.set f t k x) k y=Tr.set f t k y
 |0,t,k,x,y=>by rw[Tr.set_zero,Tr.set_zero,Tr.set_zero]
 |f+1,t,k,x,y=>by
  cases t with
  |nil=>
   by_cases k0:k=0
   ·simp[Tr.set_nil,Tr.set_node,k0]
   ·by_cases k1:k%2=1
    ·exact aqZ
    ·exact aqZ
  |node v l r=>
   by_cases k0:k=0
   ·simp[Tr.set_nil,Tr.set_node,k0]
   ·by_cases k1:k%2=1
    ·exact aqZ
    ·exact aqZ
theorem Ag(H:AH)(b:Nat)(x y:AB):(H.upd b x).upd b y=H.upd b y:=by
 simp only[AH.upd,Tr.set_set,Nat.min_assoc,Nat.min_self]
def AB.putN(x:AB)(o:Nat)(l:List AV):AB:={x with cells:=wR x.cells o l}
theorem pK{H:AH}{b:Nat}(hb:b<1000000):∀(l:List AV) (o:Nat) (v:AV),H.storeN b o (v::l)=match H.at b with
  |some x=>if o+(l.length+1)<=x.size/\x.fzn<=o then some (H.upd b (x.putN o (v::l))) else none
  |none=>none
 |[],o,v=>by
  simp only[AH.storeN,ux];cases hx:H.at b with
  |none=>rfl
  |some x=>
   simp only[List.length_nil];by_cases h:o<x.size/\x.fzn<=o
   ·rw[if_pos h,if_pos ⟨aa,h.2⟩];rfl
   ·rw[if_neg h,if_neg (λh'=>h ⟨aa,h'.2⟩)]
 |v'::l,o,v=>by
  rw[AH.storeN,ux];cases hx:H.at b with
  |none=>rfl
  |some x=>
   have hl:x.live=true:=by
    unfold AH.at at hx;split at hx
    ·split at hx
     ·rename_i hl;cases hx;exact hl
     ·cases hx
    ·cases hx
   simp only[List.length_cons];by_cases h:o<x.size/\x.fzn<=o
   ·rw[if_pos h];simp only;have h1:(H.upd b (x.set o v)).at b=some (x.set o v):=by
     show AH.at ⟨Tr.set 48 H.blks b (x.set o v),H.next,min H.low b,H.ob,H.mp⟩ b=_
     rw[AH.at_put _ _ _ _ _ _ _ _ aa,if_pos rfl,if_pos (show(x.set o v).live=true from hl)]
    rw[pK (H:=H.upd b (x.set o v)) hb l (o+1) v',h1];simp only;have e1:(x.set o v).size=x.size:=rfl;have e2:(x.set o v).fzn=x.fzn:=rfl;rw[e1,e2,Ag];by_cases h2:o+(l.length+1+1)<=x.size
    ·rw[if_pos ⟨aa,aa⟩,if_pos ⟨h2,h.2⟩];rfl
    ·rw[if_neg (λhh=>h2 aa),if_neg (λhh=>h2 hh.1)]
   ·rw[if_neg h,if_neg (λh'=>h ⟨aa,h'.2⟩)]
theorem y9(H:AH)(b o:Nat):H.storeN b o []=some H:=id rfl
theorem jL{x:AB}{o:Nat}{l:List AV}(h:o+l.length<1000000)(i:Nat):(x.putN o l).get i=if o<=i/\i<o+l.length then l[i-o]?.getD .u else x.get i:=by
 simp only[AB.putN,AB.get];rw[uu _ _ _ _ aa];by_cases hh:o<=i/\i<o+l.length
 ·rw[if_pos hh,if_pos hh,apk aa];rfl
 ·rw[if_neg hh,if_neg hh]
theorem BE(x:AB)(o:Nat)(l:List AV):(x.putN o l).size=x.size:=id rfl
theorem Fv(x:AB)(o:Nat)(l:List AV):(x.putN o l).fzn=x.fzn:=id rfl
theorem uM(x:AB)(o:Nat)(l:List AV):(x.putN o l).live=x.live:=id rfl
theorem FH(x:AB)(o:Nat)(l:List AV):(x.putN o l).esz=x.esz:=id rfl
theorem K6(x:AB)(o:Nat)(l:List AV):(x.putN o l).ty=x.ty:=id rfl
theorem Ea(x:AB)(o:Nat)(l:List AV):(x.putN o l).opn=x.opn:=id rfl
theorem zX(h:b<1000000)(x:AB)(b':Nat):(H.upd b x).at b'=if b'=b then(if x.live then some x else none) else H.at b':=AH.at_put _ _ _ _ _ _ _ _ aa
theorem El(H:AH)(b:Nat)(x:AB):(H.upd b x).next=H.next:=id rfl
theorem LG(H:AH)(b:Nat)(x:AB):(H.upd b x).low=min H.low b:=id rfl
theorem Gf(h:b<1000000)(b':Nat):(H.mark b).at b'=if b'=b then(H.at b).map (λx=>{x with fzn:=max x.size x.fzn}) else H.at b':=AH.at_mark aa
theorem Em(H:AH)(l:Nat):AH.next {H with low:=l}=H.next:=id rfl
theorem aa6(H:AH)(l b:Nat):AH.at {H with low:=l} b=H.at b:=id rfl
theorem DE(x:AB)(i:Nat)(v:AV):(x.set i v).size=x.size:=id rfl
theorem L1(x:AB)(i:Nat)(v:AV):(x.set i v).fzn=x.fzn:=id rfl
theorem EO(x:AB)(i:Nat)(v:AV):(x.set i v).live=x.live:=id rfl
theorem Mc(x:AB)(i:Nat)(v:AV):(x.set i v).esz=x.esz:=id rfl
theorem Zl(x:AB)(i:Nat)(v:AV):(x.set i v).ty=x.ty:=id rfl
theorem Lp(x:AB)(i:Nat)(v:AV):(x.set i v).opn=x.opn:=id rfl
def eZ(esz ty:Nat)(l:List AV):AB:=⟨l.length,esz,ty,λ_=> .u,oh l,false,true,0⟩
theorem qy(esz ty:Nat)(l:List AV)(i:Nat)(h:l.length<1000000):(eZ esz ty l).get i=l[i]?.getD .u:=by
 simp only[eZ,AB.get];rw[mT l i aa]
theorem fI{ty esz z:Nat}{row:Nat->Nat->AV}(i j:Nat)(h:j<esz):(fg ty esz n z row).get (i*esz+j)=row i j:=by
 show row ((i*esz+j) / esz) ((i*esz+j)%esz)=_;have h0:0<esz:=aa;rw[show i*esz+j=j+esz*i by rw[apT];omega,Nat.add_mul_div_left _ _ h0,Nat.div_eq_of_lt h,apz,Nat.add_mul_mod_self_left,Nat.mod_eq_of_lt h]
/-! ### another view of a state-/
inductive Wv(r:Nat->Option Nat)(M:List Nat)(H:AH):AV->AV->Prop where
 |cv {v v2:AV} (h:Cv M H v v2):Wv r M H v v2
 |os {b b2 n:Nat} (h:r b2=some b):Wv r M H (.os b n) (.os b2 n)
 |sl {b b2 o n cap:Nat} (h:r b2=some b):Wv r M H (.sl b o n cap) (.sl b2 o n cap)
 |p {b b2 o:Nat} (h:r b2=some b):Wv r M H (.p b o) (.p b2 o)
 |nil {b2:Nat} (h:r b2=none):Wv r M H .sl0 .sl0
 |f {g:FuncId} {l1 l2 l1' l2':List AV} (n1:l1.length=l1'.length) (n2:l2.length=l2'.length) (h1:∀(i:Nat) (v v':AV),l1[i]? =some v->l1'[i]? =some v'->Wv r M H v v') (h2:∀(i:Nat) (v v':AV),l2[i]? =some v->l2'[i]? =some v'->Wv r M H v v'):Wv r M H (.f g l1 l2) (.f g l1' l2')
 |agg {l l':List AV} (n1:l.length=l'.length) (h1:∀(i:Nat) (v v':AV),l[i]? =some v->l'[i]? =some v'->Wv r M H v v'):Wv r M H (.agg l) (.agg l')
theorem Wv.ok{B:Nat}{σ σ2 σ3:Sg}{w:World}(h:HR B σ H w)(hle:σ.le σ2)(hnm:σ2.nm=σ.nm)(hM:∀b ∈ M,wo σ2 H w b)(h3:σ2.bare.le σ3)(hr:∀b2 b,r b2=some b->σ3 b2=σ b/\(σ.nl b->σ3.nl b2))
  {v v2:AV} (hc:Wv r M H v v2):∀{u:Value},VR σ v u->VR σ3 v2 u:=by
 induction hc with
 |cv hc=>intro u hu;exact(hc.ok h hle hnm hM hu).mono h3
 |os hb=>
  intro u hu;obtain⟨e1,e2⟩:=hr _ _ hb;cases hu with
  |os0 hh a=>exact .os0 (e2 hh) a
  |os hh hl=>exact .os aq0 hl
 |sl hb=>
  intro u hu;obtain⟨e1,e2⟩:=hr _ _ hb;cases hu with
  |sl hh=>exact .sl aq0
  |slo hh hc h0=>exact .slo aq0 hc h0
 |p hb=>
  intro u hu;obtain⟨e1,e2⟩:=hr _ _ hb;cases hu with
  |p hh=>exact .p aq0
 |nil hb=>intro u hu;cases hu;exact .sl0 _
 |f n1 n2 h1 h2 i1 i2=>
  intro u hu;cases hu with
  |f m1 k1 m2 k2=>
   refine .f aa (λi v' hv'=>?_) aa (λi v' hv'=>?_)
   ·have hlt:=(ap4.1 hv').1;exact i1 i _ v' (apk aa) hv' (k1 i _ (apk aa))
   ·have hlt:=(ap4.1 hv').1;exact i2 i _ v' (apk aa) hv' (k2 i _ (apk aa))
 |agg n1 h1 i1=>
  intro u hu;cases hu with
  |agg m1 k1=>
   refine .agg aa (λi v' hv'=>?_);have hlt:=(ap4.1 hv').1;exact i1 i _ v' (apk aa) hv' (k1 i _ (apk aa))
def iT(r:Nat->Option Nat)(M:List Nat)(H:AH)(e:Tr AV):List (Nat×AV)->Prop
 |[]=>True
 |(t,v2)::l=>(t<1000000/\∃v,e.get t=some v/\Wv r M H v v2)/\iT r M H e l
def js(r:Nat->Option Nat)(M:List Nat)(H:AH)(b:Nat)(x2:AB):Prop:=
 ∃x,H.at b=some x/\x2.ty=x.ty/\x2.esz=x.esz/\x2.opn=x.opn/\x2.live=true/\(x2.size=x.size\/(x.opn=true/\x2.size<=x.size))/\(if b ∈ M then max x.size x.fzn else x.fzn)<=x2.fzn/\∀i,i<x2.size->Wv r M H (x.get i) (x2.get i)
def ig(r:Nat->Option Nat)(M:List Nat)(H:AH):List Nat->List AB->Prop
 |[],[]=>True
 |b::ρ,x2::bl=>b ∉ ρ/\js r M H b x2/\ig r M H ρ bl
 |_,_=>False
theorem iT.get:∀{L:List (Nat×AV)},iT r M H e L->∀t v2,(fu L).get t=some v2->∃v,e.get t=some v/\Wv r M H v v2
 |[],_,t,v2,h=>by rw[lB] at h;cases h
 |(d,v)::L,⟨⟨hd,v0,h1,h2⟩,hL⟩,t,v2,h=>by
  rw[kT hd] at h;by_cases e1:t=d
  ·rw[if_pos e1] at h;cases h;exact⟨v0,by rw[e1];exact h1,h2⟩
  ·rw[if_neg e1] at h;exact hL.get t v2 h
theorem ig.len:∀{ρ:List Nat} {bl:List AB},ig r M H ρ bl->ρ.length=bl.length
 |[],[],_=>rfl
 |[],_::_,h=>h.elim
 |_::_,[],h=>h.elim
 |_::ρ,_::bl,h=>by simp[h.2.2.len]
theorem ig.at{r:Nat->Option Nat}{M:List Nat}{H:AH}:∀{ρ:List Nat} {bl:List AB},ig r M H ρ bl->bl.length<1000000->∀b2 x2,(fi bl).at b2=some x2->∃b,ρ.reverse[b2]? =some b/\js r M H b x2
 |[],[],_,_,b2,x2,hx=>by rw[oV] at hx;cases hx
 |[],_::_,h,_,_,_,_=>h.elim
 |_::_,[],h,_,_,_,_=>h.elim
 |b::ρ,x::bl,h,hl,b2,x2,hx=>by
  simp only[List.length_cons] at hl;have hlen:=h.2.2.len;rw[jE,kG (by rw[gl];omega),gl] at hx
  by_cases e:b2=bl.length
  ·rw[if_pos e] at hx;split at hx
   ·cases hx;refine⟨b,?_,h.2.1⟩;rw[e,List.reverse_cons,apP (by simp;omega)]
    simp[hlen]
   ·cases hx
  ·rw[if_neg e] at hx;obtain⟨b',h1,h2⟩:=h.2.2.at aa b2 x2 hx;refine⟨b',?_,h2⟩;have hlt:=(ap4.1 h1).1;rw[List.reverse_cons,apF (by simpa using hlt)]
   exact h1
theorem ig.inj:∀{ρ:List Nat} {bl:List AB},ig r M H ρ bl->∀(i j:Nat) (b:Nat),ρ.reverse[i]? =some b->ρ.reverse[j]? =some b->i=j
 |[],[],_,i,j,b,h1,_=>by simp at h1
 |[],_::_,h,_,_,_,_,_=>h.elim
 |_::_,[],h,_,_,_,_,_=>h.elim
 |b0::ρ,_::bl,h,i,j,b,h1,h2=>by
  have hn:=h.1;have part:∀i,(b0::ρ).reverse[i]? =some b->(i<ρ.length/\ρ.reverse[i]? =some b)\/(i=ρ.length/\b=b0):=λi hi=>by
   rw[List.reverse_cons] at hi;by_cases hl:i<ρ.length
   ·rw[apF (by simpa using hl)] at hi
    exact .inl ⟨hl,hi⟩
   ·rw[apP (by simp;omega),List.length_reverse] at hi
    have:i-ρ.length=0:=by
     by_cases hz:i-ρ.length=0
     ·exact hz
     ·rw[apI (by simp;omega)] at hi;cases hi
    rw[this] at hi;simp at hi;exact .inr ⟨aa,hi.symm⟩
  have mem:∀i,ρ.reverse[i]? =some b->b ∈ ρ:=λi hi=>List.mem_reverse.1 (apB hi);rcases part i h1 with⟨_,e1⟩|⟨e1,e2⟩<;>rcases part j h2 with⟨_,f1⟩|⟨f1,f2⟩
  ·exact h.2.2.inj i j b e1 f1
  ·exact absurd (f2 ▸ mem i e1) hn
  ·exact absurd (e2 ▸ mem j f1) hn
  ·omega
theorem tU:∀(M:List Nat) {H:AH} {b:Nat} {x:AB},(∀b x,H.at b=some x->b<2^40)->H.at b=some x->∃y,(gF H M).at b=some y/\y.fzn<=if b ∈ M then max x.size x.fzn else x.fzn
 |[],H,b,x,_,hx=>⟨x,hx,ae⟩
 |m::M,H,b,x,hs,hx=>by
  have h1:∀b',(H.mark m).at b'=if b'=m then(H.at m).map (λx=>{x with fzn:=max x.size x.fzn}) else H.at b':=λb'=>by
   by_cases hm:m<2^40
   ·exact AH.at_mark hm
   ·have hn:H.at m=none:=by
     cases h0:H.at m with
     |none=>rfl
     |some z=>exact absurd (hs m z h0) hm
    have:H.mark m=H:=by unfold AH.mark;rw[hn]
    rw[this];by_cases e:b'=m
    ·rw[if_pos e,e,hn];rfl
    ·rw[if_neg e]
  have hs2:∀b x,(H.mark m).at b=some x->b<2^40:=λb' x' hx'=>by
   rw[h1] at hx';by_cases e:b'=m
   ·rw[if_pos e] at hx';cases h0:H.at m with
    |none=>rw[h0] at hx';cases hx'
    |some z=>rw[e];exact hs m z h0
   ·rw[if_neg e] at hx';exact hs b' x' hx'
  by_cases e:b=m
  ·have h2:(H.mark m).at b=some {x with fzn:=max x.size x.fzn}:=by rw[h1,if_pos e,<-e,hx];rfl
   obtain⟨y,y1,y2⟩:=tU M hs2 h2;refine⟨y,y1,?_⟩;rw[if_pos (by simp[e])]
   split at y2<;>simp at y2<;>omega
  ·have h2:(H.mark m).at b=some x:=by rw[h1,if_neg e,hx]
   obtain⟨y,y1,y2⟩:=tU M hs2 h2;refine⟨y,y1,?_⟩;simpa [e] using y2
theorem Wk.mkE{ob:Nat->Option OB}(ρ M:List Nat)(he:iT (λb2=>ρ.reverse[b2]?) M H e L)(hh:ig (λb2=>ρ.reverse[b2]?) M H ρ bl)(hl:bl.length<1000000)(hob:∀r x,ob r=some x->H.ob r=some x){B:Nat}{σ:Sg}{a:Act}{w:World}(hE:EN n σ e a)(hH:HR B σ H w):∃σ2:Sg,EN n σ2 (fu L) a/\HR B σ2 (ft ob bl) w/\ov B σ σ2/\(∀b2,σ2 b2=(ρ.reverse[b2]?).bind σ.nm)/\(∀c,(∀b o,σ b≠some (c,o))->σ2.fz c=σ.fz c)/\∀{v v2:AV} {u:Value},Wv (λb2=>ρ.reverse[b2]?) M H v v2->VR σ v u->VR σ2 v2 u:=by
 obtain⟨σ2,q0,q1,q2,q3,q4,q5,q6,q7⟩:=hH.marksE M;have hlen:=hh.len;let σ3:Sg:=⟨λb2=>(ρ.reverse[b2]?).bind σ.nm,λb2=>∃b,ρ.reverse[b2]? =some b/\σ.nl b,σ2.fz⟩;have hr:∀b2 b,ρ.reverse[b2]? =some b->σ3 b2=σ b/\(σ.nl b->σ3.nl b2):=λb2 b hb=>⟨by show(ρ.reverse[b2]?).bind σ.nm=_;rw[hb];rfl,λhn=>⟨b,hb,hn⟩⟩
 have h3:σ2.bare.le σ3:=⟨λb x hx=>(by cases hx),λb hb=>False.elim hb,λc fs hf=>⟨fs,hf,oq.refl _⟩⟩
 have conv:∀{v v2:AV} {u:Value},Wv (λb2=>ρ.reverse[b2]?) M H v v2->VR σ v u->VR σ3 v2 u:=λhc hu=>hc.ok hH q1 q2 q7 h3 hr hu
 have hat:=hh.at hl;have out:∀b2,bl.length<=b2->ρ.reverse[b2]? =none:=λb2 hb=>apI (by simp;omega)
 refine⟨σ3,⟨⟨hE.er.df,λt v2 hv=>?_⟩,hE.sz,hE.sm⟩,?_,⟨λc hc=>q4.eq c hc,λc fs hf=>q4.le c fs hf⟩,λ_=>rfl,q0,conv⟩
 ·obtain⟨v,h1,h2⟩:=he.get t v2 hv;exact conv h2 (hE.er.get t v h1)
 ·refine⟨λb hb=>?_,λb hb=>?_,λb hb=>?_,by rw[gG];omega,hH.hB,λb x hx hs=>?_,λb hb=>?_,λb x c o hx hs=>?_,λb x hx=>?_,λb b' x x' c o o' k1 k2 k3 k4=>?_,λc fs hf=>?_,by rw[qu,ko];exact .none λr x hx=>hH.ob.o r x (hob r x hx)⟩
  ·rw[gG] at hb;show(ρ.reverse[b]?).bind σ.nm=none;rw[out b hb];rfl
  ·rw[gG] at hb;rintro ⟨b0,e1,_⟩;rw[out b hb] at e1;cases e1
  ·rw[gG] at hb;cases hx:(ft ob bl).at b with
   |none=>rfl
   |some x=>
    obtain⟨b0,e1,_⟩:=hat b x hx;rw[out b hb] at e1;cases e1
  ·obtain⟨b0,e1,x0,e2,e3,e4,e5,e6,e7,e8,e9⟩:=hat b x hx;obtain⟨g1,g2⟩:=hr b b0 e1;rw[g1] at hs;obtain⟨p1,p2,p3⟩:=hH.nil b0 x0 e2 hs;refine⟨?_,by rw[e5];exact p2,g2 p3⟩
   rcases e7 with e7|e7<;>omega
  ·obtain⟨b0,e1,e2⟩:=hb;rw[(hr b b0 e1).1];exact hH.nilp b0 e2
  ·obtain⟨b0,e1,x0,e2,e3,e4,e5,e6,e7,e8,e9⟩:=hat b x hx;rw[(hr b b0 e1).1] at hs;obtain⟨cs,p1,p2,p3⟩:=hH.blk b0 x0 c o e2 hs;refine⟨cs,p1,by rw[e3];exact p2,⟨?_,λho=>?_,λk hk=>by rw[e4];exact p3.op k hk,by rw[e5];exact p3.ob,λi hi=>conv (e9 i hi) (p3.cell i ?_)⟩⟩
   ·have:=p3.sz;rcases e7 with e7|e7<;>omega
   ·rcases e7 with e7|e7
    ·rw[e7];exact p3.ex ho
    ·have:=p3.ob;rw[e7.1,ho] at this;cases this
   ·rcases e7 with e7|e7<;>omega
  ·obtain⟨b0,e1,x0,e2,e3,e4,e5,e6,e7,e8,e9⟩:=hat b x hx;have:=hH.szs b0 x0 e2;rcases e7 with e7|e7<;>omega
  ·obtain⟨b0,e1,x0,e2,_⟩:=hat b x k1;obtain⟨b1,f1,x1,f2,_⟩:=hat b' x' k2;rw[(hr b b0 e1).1] at k3;rw[(hr b' b1 f1).1] at k4;have hbb:=hH.inj b0 b1 x0 x1 c o o' e2 f2 k3 k4;subst hbb;exact hh.inj b b' b0 e1 f1
  ·obtain⟨cs,t,fr,p1,p2,p3⟩:=q6.frz c fs hf;refine⟨cs,t,fr,p1,p2,λb x o hx hs=>?_⟩;obtain⟨b0,e1,x0,e2,e3,e4,e5,e6,e7,e8,e9⟩:=hat b x hx;rw[(hr b b0 e1).1] at hs;obtain⟨y,y1,y2⟩:=tU M (λb x hx=>Nat.lt_trans (AH.at_lt hH hx) hH.small) e2;have:=p3 b0 y o y1 (by rw[q2];exact hs)
   omega
theorem Wk.mkO{ob:Nat->Option OB}(ρ M:List Nat)(he:iT (λb2=>ρ.reverse[b2]?) M H e L)(hh:ig (λb2=>ρ.reverse[b2]?) M H ρ bl)(hl:bl.length<1000000)(hob:∀r x,ob r=some x->H.ob r=some x):Wk n e H (fu L) (ft ob bl):=by
 intro B σ a w hE hH;obtain⟨σ2,q1,q2,q3,_⟩:=Wk.mkE ρ M he hh hl hob hE hH;exact⟨σ2,q1,q2,q3⟩
theorem Wk.mk(ρ M:List Nat)(he:iT (λb2=>ρ.reverse[b2]?) M H e L)(hh:ig (λb2=>ρ.reverse[b2]?) M H ρ bl)(hl:bl.length<1000000):Wk n e H (fu L) (fi bl):=
 fv bl ▸ Wk.mkO ρ M he hh hl (λr x hx=>by cases hx)
end
def v9(P:Program)(ops:Array Oper):Nat->Array Bool->List (Nat×Nat)->List (Nat×Nat)
 |0,_,acc=>acc.reverse
 |f+1,listed,acc=>
  let ready:=Region.ready .any ops listed;let kind (j:Nat):Nat:=match ops[j]? with
   |some o=>match pr P o.op with
    |some (.ap x)=>x.kind
    |_=>0
   |none=>0
  let fr:=ready.filter λj=>Region.free .any ops listed j
  match fr.find? (λj=>kind j==2) with
  |some j=>v9 P ops f (listed.setIfInBounds j true) ((2,j)::acc)
  |none=>match fr.find? (λj=>kind j==1) with
   |some j=>v9 P ops f (listed.setIfInBounds j true) ((1,j)::acc)
   |none=>match ready with
    |j::_=>v9 P ops f (listed.setIfInBounds j true) ((0,j)::acc)
    |[]=>acc.reverse
def LQ(ops:Array Oper)(fl:List Nat):List (Nat×Nat)->List (Nat×Nat)
 |[]=>[]
 |(0,j)::l=>(if l.all (·.1 != 1)&&vm .any ops fl j then(3,j) else(0,j))::LQ ops fl l
 |p::l=>p::LQ ops fl l
def Gb(P:Program)(ops:Array Oper):List Nat×List Nat×List (Nat×Nat):=
 let pl:=v9 P ops ops.size (Array.replicate ops.size false) [];let fl:=(pl.filter (·.1==1)).map (·.2);let pu:=(pl.filter (·.1==2)).map (·.2)
 (fl,pu,LQ ops fl pl)
def yb(P:Program)(ops:Array Oper):Nat->Array Bool->List (Nat×Nat)->List (Nat×Nat)×Array Bool
 |0,listed,acc=>(acc.reverse,listed)
 |f+1,listed,acc=>
  let kind (j:Nat):Nat:=match ops[j]? with
   |some o=>match pr P o.op with
    |some (.ap x)=>x.kind
    |_=>0
   |none=>0
  match(Region.ready .any ops listed).find? (λj=>kind j != 0&&Region.free .any ops listed j) with
  |some j=>yb P ops f (listed.setIfInBounds j true) ((kind j,j)::acc)
  |none=>(acc.reverse,listed)
def DA(ops:Array Oper):Nat->Array Bool->PT
 |0,_=> .fin
 |f+1,listed=>match Region.ready .any ops listed with
  |[]=> .fin
  |l=>l.foldr (λj more=> .alt j (DA ops f (listed.setIfInBounds j true)) more) .none
def ya(P:Program)(ops:Array Oper):List Nat×List Nat×List (Nat×Nat)×Option PT:=
 let(pl,listed):=yb P ops ops.size (Array.replicate ops.size false) []
 ((pl.filter (·.1==1)).map (·.2),(pl.filter (·.1==2)).map (·.2),pl,some (DA ops ops.size listed))
def anH(P:Program)(ops:Array Oper)(j:Nat):Bool:=match ops[j]? with
 |some o=>match pr P o.op with
  |some (.mo (.lk _ false _ _))=>true
  |_=>false
 |none=>false
def sF(P:Program)(ops:Array Oper):Nat->Array Bool->List (Nat×Nat)->List (Nat×Nat)
 |0,_,acc=>acc.reverse
 |f+1,listed,acc=>
  let ready:=Region.ready .any ops listed;let kind (j:Nat):Nat:=match ops[j]? with
   |some o=>match pr P o.op with
    |some (.ap x)=>x.kind
    |some (.mo (.lk _ false _ _))=>1
    |_=>0
   |none=>0
  let fr:=ready.filter λj=>Region.free .any ops listed j
  match fr.find? (λj=>kind j==2) with
  |some j=>sF P ops f (listed.setIfInBounds j true) ((2,j)::acc)
  |none=>match fr.find? (λj=>kind j==1) with
   |some j=>sF P ops f (listed.setIfInBounds j true) ((1,j)::acc)
   |none=>match ready with
    |j::_=>sF P ops f (listed.setIfInBounds j true) ((0,j)::acc)
    |[]=>acc.reverse
def EJ(P:Program)(ops:Array Oper):List Nat×List Nat×List (Nat×Nat):=
 let pl:=sF P ops ops.size (Array.replicate ops.size false) [];let fl:=(pl.filter (·.1==1)).map (·.2);let pu:=(pl.filter (·.1==2)).map (·.2)
 (fl,pu,(LQ ops fl pl).map λp=>if p.1==1&&anH P ops p.2 then(4,p.2) else p)
def aaJ(P:Program)(ops:Array Oper):List Nat×List Nat×List (Nat×Nat)×Option PT:=
 if(List.range ops.size).any (anH P ops) then
  let(fl,pu,pl):=EJ P ops
  if zw .any ops fl pu (pl.map iZ) then(fl,pu,pl,none) else ya P ops
 else ya P ops
def Mt(P:Program)(ops:Array Oper):List Nat×List Nat×List (Nat×Nat)×Option PT:=
 let(fl,pu,pl):=Gb P ops
 if zw .any ops fl pu (pl.map iZ) then(fl,pu,pl,none) else aaJ P ops
def kz:Code->List (Nat×Array Oper)
 |.region id ops true=>[(id,ops)]
 |.region _ _ false=>[]
 |.seq a b=>kz a++kz b
 |.cond _ a b=>kz a++kz b
 |.block _ b=>kz b
 |.loop b=>kz b
 |_=>[]
def fc(P:Program)(f:FuncId):gN:=λid=>match(P.funcs[f]?).bind (·.body) with
 |some c=>((kz c).find? (·.1==id)).map λx=>Mt P x.2
 |none=>none
end Go.Proofs.YtdpkgnmmikebdaaGreat