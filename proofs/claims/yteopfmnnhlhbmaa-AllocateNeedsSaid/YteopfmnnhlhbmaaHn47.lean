/- A part of the proof of AllocateNeeds: GnA GnB. No condition. -/
import Derived.Test.YteopfmnnhlhbmaaHn15
set_option linter.unusedSimpArgs false
set_option linter.unusedVariables false
set_option linter.constructorNameAsVariable false
set_option maxRecDepth 100000
set_option maxHeartbeats 4000000
namespace Go.Proofs.Yteopfmnnhlhbmaa
open Go.RowKit
def GNW(P:Program)(n:Nat)(c:Code)(e:Tr AV)(H:AH)(Q:AE->Tr AV->AH->Prop):Prop:=
 ∀(B:Nat) (σ:Sg) (a:Act) (w:World) (R:Exit->Act->World->Prop),EN n σ e a->HR B σ H w->(∀c a w,¬R (.panic c) a w)->
  (∀x e' H' a' w' σ',Q x e' H'->EN n σ' e' a'->HR B σ' H' w'->Fr B σ σ' H H' w w'->gX B σ σ'->R x.to a' w')->c.wp P R a w
def GN(P:Program)(n:Nat)(hints:bz)(ac:AC)(e:Tr AV)(H:AH)(Q:AE->Tr AV->AH->Prop):Prop:=∀c,cf P n hints c=some ac->GNW P n c e H Q
section
variable {P:Program} {n:Nat} {hints:bz} {e:Tr AV} {H:AH} {Q:AE->Tr AV->AH->Prop}
theorem GN.skip(h:Q .normal e H):GN P n hints .skip e H Q:=λc hc B σ a w R hE hH hp hR=>by
 obtain rfl:=bc hc
 exact wp_skip (hR .normal e H a w σ h hE hH (Fr.refl hH) (.refl _ _))
theorem GN.exit{i:Nat}(h:Q (.exit i) e H):GN P n hints (.exit i) e H Q:=λc hc B σ a w R hE hH hp hR=>by
 obtain rfl:=bc hc
 exact wp_exit (hR (.exit i) e H a w σ h hE hH (Fr.refl hH) (.refl _ _))
theorem GN.ret(h:Q .ret e H):GN P n hints .ret e H Q:=λc hc B σ a w R hE hH hp hR=>by
 obtain rfl:=bc hc
 exact wp_ret (hR .ret e H a w σ h hE hH (Fr.refl hH) (.refl _ _))
theorem GN.seq{x y:AC}(h:GN P n hints x e H (eT (λe' H'=>GN P n hints y e' H' Q) Q)):GN P n hints (.seq x y) e H Q:=λc hc B σ a w R hE hH hp hR=>by
 obtain⟨ca,cb,rfl,h1,h2⟩:=bc hc
 refine wp_seq ?_
 refine h ca h1 B σ a w _ hE hH (λc a w hq=>hp c a w hq) (λx' e' H' a' w' σ' q k1 k2 k3 k4=>?_)
 cases x' with
 |normal=>exact q cb h2 B σ' a' w' R k1 k2 hp (λx e' H' a'' w'' σ'' q' m1 m2 m3 m4=>hR x e' H' a'' w'' σ'' q' m1 m2 (k3.trans m3 k2) (k4.trans m4))
 |exit i=>exact hR (.exit i) e' H' a' w' σ' q k1 k2 k3 k4
 |ret=>exact hR .ret e' H' a' w' σ' q k1 k2 k3 k4
def qU(P:Program)(n:Nat)(hints:bz)(cc:AX)(x y:AC)(e:Tr AV)(H:AH)(Q:AE->Tr AV->AH->Prop):Prop:=match cc.ev e with
 |some (.b t)=>(t=true->GN P n hints x e H Q)/\(t=false->GN P n hints y e H Q)
 |_=>False
theorem GN.cond{cc:AX}{x y:AC}(h:qU P n hints cc x y e H Q):GN P n hints (.cond cc x y) e H Q:=λc hcc B σ a w R hE hH hp hR=>by
 obtain⟨o,ca,cb,rfl,h0,g1,g2⟩:=bc hcc
 unfold qU at h
 split at h
 ·rename_i t ht
  cases t with
  |true=>exact wp_cond_true (qP h0 hE.er ht) (h.1 rfl ca g1 B σ a w R hE hH hp hR)
  |false=>exact wp_cond_false (qP h0 hE.er ht) (h.2 rfl cb g2 B σ a w R hE hH hp hR)
 ·exact h.elim
theorem GN.block{id:Nat}{x:AC}(h:GN P n hints x e H (eI id Q)):GN P n hints (.block id x) e H Q:=λc hc B σ a w R hE hH hp hR=>by
 obtain⟨b,rfl,h1⟩:=bc hc
 refine wp_block ?_
 refine h b h1 B σ a w _ hE hH (λc a w hq=>hp c a w hq) (λx' e' H' a' w' σ' q k1 k2 k3 k4=>?_)
 cases x' with
 |normal=>exact hR .normal e' H' a' w' σ' q k1 k2 k3 k4
 |exit i=>
  show if i=id then R .normal a' w' else R (.exit i) a' w'
  by_cases hi:i=id
  ·rw[if_pos hi]
   refine hR .normal e' H' a' w' σ' ?_ k1 k2 k3 k4
   have q':if i=id then Q .normal e' H' else Q (.exit i) e' H':=q
   rwa [if_pos hi] at q'
  ·rw[if_neg hi]
   refine hR (.exit i) e' H' a' w' σ' ?_ k1 k2 k3 k4
   have q':if i=id then Q .normal e' H' else Q (.exit i) e' H':=q
   rwa [if_neg hi] at q'
 |ret=>exact hR .ret e' H' a' w' σ' q k1 k2 k3 k4
theorem GN.reg{l:List AO}(h:eF P l e H (λe' H'=>Q .normal e' H')):GN P n hints (.reg l) e H Q:=λc hc B σ a w R hE hH hp hR=>by
 obtain⟨id,ops,rfl,hl⟩:=bc hc
 exact wp_region_list (jy _ _ hl h hE hH (.refl _ σ) (λe' H' a' w' σ' q k1 k2 k3 k4=>hR .normal e' H' a' w' σ' q k1 k2 k3 k4))
def v8(e e2:Tr AV):Prop:=∀t v,e2.get t=some v->e.get t=some v
theorem v8.of{e:Tr AV}:∀{L:List (Nat×AV)},(∀p ∈ L,p.1<1000000/\e.get p.1=some p.2)->v8 e (aE L)
 |[],_,t,v,h=>by rw[il] at h;cases h
 |(d,x)::L,hL,t,v,h=>by
  obtain⟨h1,h2⟩:=hL (d,x) (List.mem_cons_self ..)
  rw[dC h1] at h
  by_cases e:t=d
  ·rw[if_pos e] at h
   cases h
   subst e
   exact h2
  ·rw[if_neg e] at h
   exact v8.of (λp hp=>hL p (List.mem_cons_of_mem _ hp)) t v h
theorem EN.sub{σ:Sg}{e e2:Tr AV}{a:Act}{n:Nat}(h:EN n σ e a)(hs:v8 e e2):EN n σ e2 a:=⟨⟨h.er.df,λt v hv=>h.er.get t v (hs t v hv)⟩,h.sz,h.sm⟩
def bZ(I:Nat->Tr AV->AH->Prop)(Q:AE->Tr AV->AH->Prop)(m:Nat):AE->Tr AV->AH->Prop
 |.normal,e,H=>∃m' e2,m'<m/\v8 e e2/\I m' e2 H
 |x,e,H=>Q x e H
theorem GN.loop{x:AC}(I:Nat->Tr AV->AH->Prop){m:Nat}{e0:Tr AV}(hs:v8 e e0)(hi:I m e0 H)(h:∀m e H,I m e H->GN P n hints x e H (bZ I Q m)):GN P n hints (.loop x) e H Q:=λc hc B σ a w R hE hH hp hR=>by
 obtain⟨b,rfl,h1⟩:=bc hc
 refine wp_loop_rounds (m+1) ?_
 have key:∀(k m:Nat) {e:Tr AV} {H:AH} {σ:Sg} {a:Act} {w:World},m<k->I m e H->EN n σ e a->HR B σ H w->
   (∀x e' H' a' w' σ',Q x e' H'->EN n σ' e' a'->HR B σ' H' w'->Fr B σ σ' H H' w w'->gX B σ σ'->R x.to a' w')->Code.rounds P b R k a w:=by
  intro k
  induction k with
  |zero=>intro m e H σ a w hlt;omega
  |succ k ih=>
   intro m e H σ a w hlt hi hE hH hR
   rw[rounds_succ]
   refine h m e H hi b h1 B σ a w _ hE hH (λc a w hq=>hp c a w hq) (λx' e' H' a' w' σ' q m1 m2 m3 m4=>?_)
   cases x' with
   |normal=>
    obtain⟨m',e2,hlt2,hs2,hi2⟩:=q
    exact ih m' (by omega) hi2 (m1.sub hs2) m2 (λx e' H' a'' w'' σ'' q' p1 p2 p3 p4=>hR x e' H' a'' w'' σ'' q' p1 p2 (m3.trans p3 m2) (m4.trans p4))
   |exit i=>exact hR (.exit i) e' H' a' w' σ' q m1 m2 m3 m4
   |ret=>exact hR .ret e' H' a' w' σ' q m1 m2 m3 m4
 exact key (m+1) m (by omega) hi (hE.sub hs) hH hR
theorem GN.mono{ac:AC}{Q':AE->Tr AV->AH->Prop}(h:GN P n hints ac e H Q)(hq:∀x e H,Q x e H->Q' x e H):GN P n hints ac e H Q':=λc hc B σ a w R hE hH hp hR=>
 h c hc B σ a w R hE hH hp (λx e' H' a' w' σ' q=>hR x e' H' a' w' σ' (hq _ _ _ q))
def goN:AC->Bool
 |.skip=>true
 |.exit _=>true
 |.ret=>true
 |.seq _ _=>true
 |.cond _ _ _=>true
 |.block _ _=>true
 |.reg _=>true
 |_=>false
attribute [reducible] goN
def mQ(P:Program)(n:Nat)(hints:bz)(ac:AC)(e:Tr AV)(H:AH)(Q:AE->Tr AV->AH->Prop):Prop:=match ac with
 |.skip=>Q .normal e H
 |.exit i=>Q (.exit i) e H
 |.ret=>Q .ret e H
 |.seq x y=>GN P n hints x e H (eT (λe' H'=>GN P n hints y e' H' Q) Q)
 |.cond c x y=>qU P n hints c x y e H Q
 |.block id x=>GN P n hints x e H (eI id Q)
 |.reg l=>eF P l e H (λe' H'=>Q .normal e' H')
 |_=>False
theorem GN.go{ac:AC}(hg:goN ac=true)(h:mQ P n hints ac e H Q):GN P n hints ac e H Q:=by
 cases ac with
 |skip=>exact GN.skip h
 |exit i=>exact GN.exit h
 |ret=>exact GN.ret h
 |seq x y=>exact GN.seq h
 |cond c x y=>exact GN.cond h
 |block id x=>exact GN.block h
 |reg l=>exact GN.reg h
 |_=>cases hg
end
section
variable {P:Program} {n:Nat} {hints:bz} {e:Tr AV} {H:AH} {Q:AE->Tr AV->AH->Prop}
theorem mQ.skip:mQ P n hints .skip e H Q=Q .normal e H:=id rfl
theorem mQ.exit(i:Nat):mQ P n hints (.exit i) e H Q=Q (.exit i) e H:=id rfl
theorem mQ.ret:mQ P n hints .ret e H Q=Q .ret e H:=id rfl
theorem mQ.seq(x y:AC):mQ P n hints (.seq x y) e H Q=GN P n hints x e H (eT (λe' H'=>GN P n hints y e' H' Q) Q):=id rfl
theorem mQ.cond(c:AX)(x y:AC):mQ P n hints (.cond c x y) e H Q=qU P n hints c x y e H Q:=id rfl
theorem mQ.block(id:Nat)(x:AC):mQ P n hints (.block id x) e H Q=GN P n hints x e H (eI id Q):=_root_.id rfl
theorem mQ.reg(l:List AO):mQ P n hints (.reg l) e H Q=eF P l e H (λe' H'=>Q .normal e' H'):=id rfl
end
attribute [go_sem] mQ.skip mQ.exit mQ.ret mQ.seq mQ.cond mQ.block mQ.reg qU
theorem jA{P:Program}{f:FuncId}{hints:bz}{F:AF}(hF:bF P hints f=some F){args:List AV}(hlen:args.length<=F.nt){H:AH}{Q:AV->AH->Prop}
  (h:GN P F.nt hints F.code (eB args) H (gL F.res Q)):cN P f args H Q:=by
 unfold bF at hF
 obtain⟨fn,h1,hF⟩:=Option.bind_eq_some_iff.1 hF
 obtain⟨c,h3,hF⟩:=Option.bind_eq_some_iff.1 hF
 obtain⟨ac,h5,hF⟩:=Option.bind_eq_some_iff.1 hF
 obtain⟨r,h6,hF⟩:=Option.bind_eq_some_iff.1 hF
 split at hF
 rotate_left
 ·cases hF
 rename_i hq
 cases hF
 refine⟨⟨fn,h1,hq.1,by rw[h3];rfl⟩,λB σ w args' hH ha=>?_⟩
 refine calls_of_wp h1 h3 ?_
 refine h c h5 B σ _ w _ (ij ha hlen hq.2) hH (λc a w hq=>hq.2) (λx e' H' a' w' σ' q q1 q2 q3 q4=>?_)
 have key:∀l,dv e' H' r=some l->Q (bB l) H'->a'.defers=[]/\∃v,(results fn a'.tmps).run P w'= .ok v w'/\CE B σ H w Q (.returned v) w':=by
  intro l hl hQ
  obtain⟨us,g1,g2⟩:=gv q1.er q2 _ _ _ h6 hl
  have hres:∃u,(results fn a'.tmps).run P w'= .ok u w'/\VR σ' (bB l) u:=by
   have hsem:results fn a'.tmps=(do let vs<-fn.results.mapM (dh a');pure (if h:vs.size=1 then vs[0] else .tuple vs)):=by
    unfold results
    rfl
   have hrun:(fn.results.mapM (dh a')).run P w'= .ok us.toArray w':=by
    simp[Array.mapM_eq_mapM_toList,g1]
   rw[hsem]
   simp only[Sem.run_bind,hrun,Result.andThen_ok,Sem.run_pure]
   refine⟨_,rfl,?_⟩
   have hn:=g2.1
   match l,us,g2,hn with
   |[v],[u],g2,_=>exact g2.2 0 v rfl
   |[],[],_,_=>exact bw.nil.tup
   |v1::v2::l,u1::u2::us,g2,_=>exact g2.tup
  obtain⟨u,k1,k2⟩:=hres
  exact⟨q1.er.df,u,k1,bB l,H',σ',hQ,k2,q2,q3,q4⟩
 have q':∃l,dv e' H' r=some l/\Q (bB l) H':=by
  cases x with
  |exit i=>exact q.elim
  |normal=>
   simp only[gL] at q
   split at q
   ·rename_i l hl;exact⟨l,hl,q⟩
   ·exact q.elim
  |ret=>
   simp only[gL] at q
   split at q
   ·rename_i l hl;exact⟨l,hl,q⟩
   ·exact q.elim
 obtain⟨l,hl,hQ⟩:=q'
 have post:=key l hl hQ
 cases x with
 |exit i=>exact q.elim
 |normal=>exact post
 |ret=>exact post
end Go.Proofs.Yteopfmnnhlhbmaa
namespace Go.Proofs.Yteopfmnnhlhbmaa
open Go.RowKit
def b6(T n:Nat)(m:Nat->Bool):AB:=aH T 1 n 0 (λi _=> .b (m i))
structure lh(T n:Nat)(m:Nat->Bool)(x:AB):Prop where
 ty:x.ty=T
 esz:x.esz=1
 opn:x.opn=true
 size:x.size=n
 get:∀i,i<n->x.get i= .b (m i)
theorem lh.row(T n:Nat)(m:Nat->Bool):lh T n m (b6 T n m):=⟨rfl,rfl,rfl,Nat.mul_one n,λi hi=>by show AV.b (m (i / 1))=_;rw[Nat.div_one]⟩
def px(s T n:Nat)(Q:Bool->(Nat->Bool)->Prop)(v:AV)(H':AH):Prop:=∃(res:Bool) (m':Nat->Bool),v= .b res/\Q res m'/\(∃x,H'.at s=some x/\lh T n m' x)/\s<=H'.low
theorem eY{P:Program}{f:FuncId}{args args0:List AV}{H:AH}{T n:Nat}{m:Nat->Bool}{bl:List AB}{Q:Bool->(Nat->Bool)->Prop}(b:Nat)(ρ':List Nat)(hb:b<1000000)(hob:∀r,H.ob r=none)
  (ha0:args0.length=args.length) (hargs:∀(i:Nat) (v2:AV),args0[i]? =some v2->∃v:AV,args[i]? =some v/\Wv (λb2=>(b::ρ').reverse[b2]?) [] H v v2) (hh:bh (λb2=>(b::ρ').reverse[b2]?) [] H (b::ρ') (b6 T n m::bl)) (hl:bl.length<900000)
  (hc:cN P f args0 (aN (b6 T n m::bl)) (px bl.length T n Q)):cN P f args H (λv H'=>∃res m',v= .b res/\Q res m'/\H'=H.upd b (b6 T n m')):=by
 refine⟨hc.1,λB σ w args' hH ha=>?_⟩
 obtain⟨σ2,q1,q2,q3,q4,q5,q6,q7⟩:=hH.marks []
 have hlen:=hh.len
 have hl1:(b6 T n m::bl).length<1000000:=by simp only[List.length_cons];omega
 let σ3:Sg:=⟨λb2=>((b::ρ').reverse[b2]?).bind σ.nm,λb2=>∃b0,(b::ρ').reverse[b2]? =some b0/\σ.nl b0,σ2.fz⟩
 have hr:∀b2 b0,(b::ρ').reverse[b2]? =some b0->σ3 b2=σ b0/\(σ.nl b0->σ3.nl b2):=λb2 b0 hb=>⟨by show((b::ρ').reverse[b2]?).bind σ.nm=_;rw[hb];rfl,λhn=>⟨b0,hb,hn⟩⟩
 have h3:σ2.bare.le σ3:=⟨λb x hx=>(by cases hx),λb hb=>False.elim hb,λc fs hf=>⟨fs,hf,fZ.refl _⟩⟩
 have conv:∀{v v2:AV} {u:Value},Wv (λb2=>(b::ρ').reverse[b2]?) [] H v v2->VR σ v u->VR σ3 v2 u:=λhc hu=>hc.ok hH q1 q2 q7 h3 hr hu
 have hat:=hh.at hl1
 have out:∀b2,(b6 T n m::bl).length<=b2->(b::ρ').reverse[b2]? =none:=λb2 hb=>List.getElem?_eq_none (by simp only[List.length_reverse];omega)
 have hH3:HR B σ3 (aN (b6 T n m::bl)) w:=by
  refine⟨λb hb=>?_,λb hb=>?_,λb hb=>?_,by rw[ag];omega,hH.hB,λb x hx hs=>?_,λb hb=>?_,λb x c o hx hs=>?_,λb x hx=>?_,λb b' x x' c o o' k1 k2 k3 k4=>?_,λc fs hf=>?_,λr x hx=>(by rw[bP] at hx;cases hx)⟩
  ·rw[ag] at hb
   show((_::ρ').reverse[b]?).bind σ.nm=none
   rw[out b hb];rfl
  ·rw[ag] at hb
   rintro ⟨b0,e1,_⟩
   rw[out b hb] at e1;cases e1
  ·rw[ag] at hb
   cases hx:(aN (b6 T n m::bl)).at b with
   |none=>rfl
   |some x=>
    obtain⟨b0,e1,_⟩:=hat b x hx
    rw[out b hb] at e1;cases e1
  ·obtain⟨b0,e1,x0,e2,e3,e4,e5,e6,e7,e8,e9⟩:=hat b x hx
   obtain⟨g1,g2⟩:=hr b b0 e1
   rw[g1] at hs
   obtain⟨p1,p2,p3⟩:=hH.nil b0 x0 e2 hs
   refine⟨?_,by rw[e5];exact p2,g2 p3⟩
   rcases e7 with e7|e7<;>omega
  ·obtain⟨b0,e1,e2⟩:=hb
   rw[(hr b b0 e1).1]
   exact hH.nilp b0 e2
  ·obtain⟨b0,e1,x0,e2,e3,e4,e5,e6,e7,e8,e9⟩:=hat b x hx
   rw[(hr b b0 e1).1] at hs
   obtain⟨cs,p1,p2,p3⟩:=hH.blk b0 x0 c o e2 hs
   refine⟨cs,p1,by rw[e3];exact p2,⟨?_,λho=>?_,λk hk=>by rw[e4];exact p3.op k hk,by rw[e5];exact p3.ob,λi hi=>conv (e9 i hi) (p3.cell i ?_)⟩⟩
   ·have:=p3.sz
    rcases e7 with e7|e7<;>omega
   ·rcases e7 with e7|e7
    ·rw[e7];exact p3.ex ho
    ·have:=p3.ob
     rw[e7.1,ho] at this;cases this
   ·rcases e7 with e7|e7<;>omega
  ·obtain⟨b0,e1,x0,e2,e3,e4,e5,e6,e7,e8,e9⟩:=hat b x hx
   have:=hH.szs b0 x0 e2
   rcases e7 with e7|e7<;>omega
  ·obtain⟨b0,e1,x0,e2,_⟩:=hat b x k1
   obtain⟨b1,f1,x1,f2,_⟩:=hat b' x' k2
   rw[(hr b b0 e1).1] at k3
   rw[(hr b' b1 f1).1] at k4
   have hbb:=hH.inj b0 b1 x0 x1 c o o' e2 f2 k3 k4
   subst hbb
   exact hh.inj b b' b0 e1 f1
  ·obtain⟨cs,t,fr,p1,p2,p3⟩:=q6.frz c fs hf
   refine⟨cs,t,fr,p1,p2,λb x o hx hs=>?_⟩
   obtain⟨b0,e1,x0,e2,e3,e4,e5,e6,e7,e8,e9⟩:=hat b x hx
   rw[(hr b b0 e1).1] at hs
   obtain⟨y,y1,y2⟩:=gU [] (λb x hx=>Nat.lt_trans (AH.at_lt hH hx) hH.small) e2
   have:=p3 b0 y o y1 (by rw[q2];exact hs)
   omega
 have hargs':bw σ3 args0 args'.toList:=⟨by rw[ha0];exact ha.1,λi v2 hv=>by
  obtain⟨v,g1,g2⟩:=hargs i v2 hv
  exact conv g2 (ha.2 i v g1)⟩
 refine(hc.2 B σ3 w args' hH3 hargs').mono λen w' hp=>?_
 cases en with
 |panicked c=>exact hp.elim
 |outgrown=>exact hp.elim
 |returned u=>
  obtain⟨v,H0',σ',⟨res,m',rfl,hQ,⟨y0,hat',hyl⟩,hlow⟩,hv,hH',hFr,hFz⟩:=hp
  have hs0:(b::ρ').reverse[bl.length]? =some b:=by
   simp only[List.length_cons] at hlen
   rw[List.reverse_cons,List.getElem?_append_right (by rw[List.length_reverse];omega),List.length_reverse,show bl.length-ρ'.length=0 by omega];rfl
  obtain⟨hbn,⟨x0,hx0,t1,t2,t3,t4,t5,t6,t7⟩,_⟩:=hh
  have hdom:σ' bl.length=σ b:=(hFr.dom bl.length (by rw[ag];simp)).trans (hr _ _ hs0).1
  have hbl:=AH.at_lt hH hx0
  have only:∀c,c<w.heap.size->w'.heap[c]? =w.heap[c]? \/(∃o,σ b=some (c,o))\/dg w.heap[c]? :=λc hc=>by
   rcases hFr.old c hc with g|⟨b0,o,g1,g2,g3⟩|g
   ·exact .inl g
   ·rw[ag,List.length_cons] at g1
    have:b0=bl.length:=by omega
    subst this
    rw[(hr _ _ hs0).1] at g2
    exact .inr (.inl ⟨o,g2⟩)
   ·exact .inr (.inr g)
  have same:∀b' x c o,H.at b'=some x->σ b'=some (c,o)->b'≠b->w'.heap[c]? =w.heap[c]? :=λb' x c o hx hs hne=>by
   obtain⟨cs,p1,p2,p3⟩:=hH.blk b' x c o hx hs
   rcases only c (Array.getElem?_eq_some_iff.1 p2).1 with g|⟨o',g⟩|g
   ·exact g
   ·exact absurd (hH.inj b' b x x0 c o o' hx hx0 hs g) hne
   ·exact(g _ _ _ p2).elim
  have hx1:∀b' y,(H.upd b (b6 T n m')).at b'=some y->(b'=b/\y=b6 T n m')\/(b'≠b/\H.at b'=some y):=λb' y hy=>by
   rw[gS hb] at hy
   by_cases e:b'=b
   ·rw[if_pos e] at hy
    have:(b6 T n m').live=true:=rfl
    rw[if_pos this] at hy
    cases hy
    exact .inl ⟨e,rfl⟩
   ·rw[if_neg e] at hy
    exact .inr ⟨e,hy⟩
  have hfz0:x0.fzn=0:=by
   rw[if_neg (by simp)] at t6
   have:(b6 T n m).fzn=0:=rfl
   omega
  refine⟨.b res,H.upd b (b6 T n m'),σ,⟨res,m',rfl,hQ,rfl⟩,by cases hv;exact .b _,?_,⟨λb hb=>rfl,σ.le_refl,Nat.le_refl _,Nat.min_le_left _ _,hFr.bel,λc hc=>?_,λb' c o hb' hs hc=>by rw[hH.new b' hb'] at hs;cases hs⟩,gX.refl B σ⟩
  ·refine⟨hH.new,hH.newl,λb' hb'=>?_,hH.small,Nat.le_trans hH.hB hFr.bel.size,λb' y hy hs=>?_,hH.nilp,λb' y c o hy hs=>?_,λb' y hy=>?_,λb1 b2 y1 y2 c o o' k1 k2 k3 k4=>?_,λc fs hf=>?_,?_⟩
   ·have hb'':H.next<=b':=hb'
    rw[gS hb,if_neg (by omega)]
    exact hH.old b' hb'
   ·rcases hx1 b' y hy with⟨rfl,rfl⟩|⟨hne,hy⟩
    ·obtain⟨p1,p2,p3⟩:=hH.nil b' x0 hx0 hs
     obtain⟨r1,r2,r3⟩:=hH'.nil bl.length _ hat' (by rw[hdom];exact hs)
     refine⟨?_,rfl,p3⟩
     show n*1=0
     rw[Nat.mul_one,<-hyl.size];exact r1
    ·exact hH.nil b' y hy hs
   ·rcases hx1 b' y hy with⟨rfl,rfl⟩|⟨hne,hy⟩
    ·obtain⟨cs,p1,p2,p3⟩:=hH'.blk bl.length _ c o hat' (by rw[hdom];exact hs)
     have hsz:(b6 T n m').size=y0.size:=by rw[hyl.size];exact Nat.mul_one n
     refine⟨cs,p1,by rw[<-show y0.ty=(b6 T n m').ty from hyl.ty];exact p2,⟨by rw[hsz];exact p3.sz,λho=>by rw[hsz];exact p3.ex ho,λk hk=>?_,?_,λi hi=>?_⟩⟩
     ·have:=p3.op k hk
      rw[hyl.esz] at this
      exact this
     ·rw[<-p3.ob,hyl.opn];rfl
     ·rw[hsz] at hi
      have:=p3.cell i hi
      rw[hyl.get i (by rw[<-hyl.size];exact hi)] at this
      have e:(b6 T n m').get i= .b (m' i):=by show AV.b (m' (i / 1))=_;rw[Nat.div_one]
      rw[e]
      generalize cs.getD i undef=u at this ⊢
      cases this with
      |b x=>exact .b _
    ·obtain⟨cs,p1,p2,p3⟩:=hH.blk b' y c o hy hs
     exact⟨cs,p1,by rw[same b' y c o hy hs hne];exact p2,p3⟩
   ·rcases hx1 b' y hy with⟨rfl,rfl⟩|⟨hne,hy⟩
    ·have:=hH'.szs _ _ hat'
     rw[hyl.size] at this
     show n*1<2^40
     omega
    ·exact hH.szs b' y hy
   ·have g:∀b' y,(H.upd b (b6 T n m')).at b'=some y->∃x,H.at b'=some x:=λb' y hy=>by
     rcases hx1 b' y hy with⟨rfl,rfl⟩|⟨hne,hy⟩
     ·exact⟨_,hx0⟩
     ·exact⟨_,hy⟩
    obtain⟨z1,g1⟩:=g b1 y1 k1
    obtain⟨z2,g2⟩:=g b2 y2 k2
    exact hH.inj _ _ _ _ c o o' g1 g2 k3 k4
   ·obtain⟨cs,t,fr,p1,p2,p3⟩:=hH.frz c fs hf
    have p3':∀b' y o,(H.upd b (b6 T n m')).at b'=some y->σ b'=some (c,o)->fs.size<=y.fzn:=λb' y o hy hs=>by
     rcases hx1 b' y hy with⟨rfl,rfl⟩|⟨hne,hy⟩
     ·have:=p3 b' x0 o hx0 hs
      have e:(b6 T n m').fzn=0:=rfl
      omega
     ·exact p3 b' y o hy hs
    rcases only c (Array.getElem?_eq_some_iff.1 p1).1 with g|⟨o',g⟩|g
    ·exact⟨cs,t,fr,by rw[g];exact p1,p2,p3'⟩
    ·obtain⟨cs',r1,r2,r3⟩:=hH'.blk bl.length _ c o' hat' (by rw[hdom];exact g)
     have:=p3 b x0 o' hx0 g
     exact⟨cs',_,_,r2,⟨by omega,λi hi=>by omega⟩,p3'⟩
    ·exact(g _ _ _ p1).elim
   ·exact λr x hx=>by
     have hx:H.ob r=some x:=hx
     rw[hob] at hx;cases hx
  ·rcases only c hc with g|⟨o',g⟩|g
   ·exact .inl g
   ·exact .inr (.inl ⟨b,o',hbl,g,Nat.min_le_right _ _⟩)
   ·exact .inr (.inr g)
end Go.Proofs.Yteopfmnnhlhbmaa