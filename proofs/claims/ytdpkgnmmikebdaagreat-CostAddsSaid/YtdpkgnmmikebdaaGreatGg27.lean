/- A part of the proof of CostAdds: EvMl. No condition. -/
import Derived.Test.YtdpkgnmmikebdaaGreatGg21
set_option linter.unusedSimpArgs false
set_option linter.unusedVariables false
set_option linter.constructorNameAsVariable false
set_option maxRecDepth 100000
set_option maxHeartbeats 4000000
namespace Go.Proofs.YtdpkgnmmikebdaaGreat
open Go.RowKit
def WG(B:Nat)(H0:AH)(w':World):Prop:=∀r x,H0.ob r=some (.mp x)->Dd B w' r (.mp x)
def Ca(a b:Nat->Option OB):Prop:=∀r x,a r=some x->b r=some x
theorem yS(a:Nat->Option OB):Ca a a=True:=eq_true (λ_ _ h=>h)
theorem WG.of{B:Nat}{σ:Sg}{H0 H:AH}{w:World}(h:HR B σ H w)(hle:Ca H0.ob H.ob):WG B H0 w:=λr x hx=>h.ob.o r _ (hle r _ hx)
def tF(B m:Nat)(σ0:Sg)(H0:AH)(w0 w':World):Prop:=bt m σ0 H0 w0 w'/\WG B H0 w'
def WO(Q:AV->Prop):AV->Prop
 |.n q j=>Q (.n q j)
 |_=>False
def WP(z:AV)(i:Int)(Q:AV->Prop):Option OB->Prop
 |some (.mp y)=>WO Q (y.look false z i)
 |_=>False
def Km(H0:AH)(z:AV)(ok:Bool)(Q:AV->Prop):Option AV->Option AV->Prop
 |some (.cv (.map (some r))),some (.n .i64 i)=>ok=false/\WP z i Q (H0.ob r)
 |_,_=>False
theorem B8{H0:AH}{z:AV}{ok:Bool}{Q:AV->Prop}{x k:Option AV}(h:Km H0 z ok Q x k):∃r i y q j,x=some (.cv (.map (some r)))/\k=some (.n .i64 i)/\ok=false/\H0.ob r=some (.mp y)/\y.look false z i= .n q j/\Q (.n q j):=by
 unfold Km at h
 split at h
 ·rename_i r i
  obtain⟨h0,h⟩:=h
  unfold WP at h
  split at h
  ·rename_i y hy
   unfold WO at h
   split at h
   ·rename_i q j hv
    exact⟨r,i,y,q,j,rfl,rfl,h0,hy,hv,h⟩
   ·exact h.elim
  ·exact h.elim
 ·exact h.elim
def vB(H0:AH)(e:Tr AV)(k:AK)(Q:AV->Prop):Prop:=match k with
 |.mo (.lk z ok x k)=>Km H0 z ok Q (x.ev e) (k.ev e)
 |_=>False
def dc(P:Program)(H0:AH)(m:Nat):Bool->List (Nat×AO)->Tr AV->AH->(Tr AV->AH->Prop)->Prop
 |_,[],e,H,Q=>Q e H
 |nc,(k,o)::l,e,H,Q=>match bq e o.gd with
  |some t=>
   (t=true->if k=1 then bS H0 m nc e o.k/\m<=H.low/\gK P e H o.k (λv H'=>dc P H0 m nc l (aN e o.dst v) H' Q)
    else if k=2 then cE o.k=true/\gK P e H o.k (λv H'=>dc P H0 m nc l (aN e o.dst v) H' Q)
    else if k=4 then vB H0 e o.k (λv=>dc P H0 m nc l (aN e o.dst v) H Q)
    else gK P e H o.k (λv H'=>(k=3\/(m<=H'.low/\Ca H0.ob H'.ob))/\dc P H0 m (nc&& !eu o.k) l (aN e o.dst v) H' Q))/\
   (t=false->(k=0->m<=H.low/\Ca H0.ob H.ob)/\dc P H0 m nc l (aN e o.dst (.tup [])) H Q)
  |none=>False
section
variable {P:Program} {B n m:Nat} {σ0:Sg} {H0:AH} {w0:World} {ops:Array Oper} {fl:List Nat} {Q:Exit->Act->World->Prop}
theorem vA{o:Oper}{z:AV}{x' k':AX}(hc:je P o.op=some (.mo (.lk z false x' k'))){σ:Sg}{e:Tr AV}{a:Act}(hE:ER σ e a){r:Nat}{i:Int}{y:fW}{q:IntKind}{j:Int}
  (h1:x'.ev e=some (.cv (.map (some r)))) (h2:k'.ev e=some (.n .i64 i)) (hv:y.look false z i= .n q j) {w':World} (hw:Dd B w' r (.mp y)):(execOp a.eval o).run P w'= .ok (.value (.int q j)) w':=by
 have hm:yq P o.op=some (.lk z false x' k'):=by
  unfold je at hc
  split at hc
  ·rename_i m hm;cases hc;exact hm
  ·unfold nC at hc
   exfalso
   split at hc
   ·split at hc
    ·obtain⟨_,_,hc⟩:=Option.map_eq_some_iff.1 hc;cases hc
    ·obtain⟨_,_,hc⟩:=Option.map_eq_some_iff.1 hc;cases hc
   ·split at hc
    ·obtain⟨_,_,hc⟩:=Option.bind_eq_some_iff.1 hc
     obtain⟨_,_,hc⟩:=Option.map_eq_some_iff.1 hc;cases hc
    ·obtain⟨_,_,hc⟩:=Option.map_eq_some_iff.1 hc;cases hc
   ·obtain⟨_,_,hc⟩:=Option.map_eq_some_iff.1 hc;cases hc
 obtain⟨T,x,k,E,ho,hE',hx,hk,hz⟩:∃T x k E,o.op= .lookup T x k false/\lD P T=some E/\aG x=some x'/\aG k=some k'/\qb P E=some z:=by
  generalize o.op=op at hm
  unfold yq at hm
  split at hm
  case h_2 t x k ok=>
   obtain⟨E,hE',hm⟩:=Option.bind_eq_some_iff.1 hm
   obtain⟨x1,hx,hm⟩:=Option.bind_eq_some_iff.1 hm
   obtain⟨k1,hk,hm⟩:=Option.bind_eq_some_iff.1 hm
   split at hm
   ·rename_i z1 hz
    cases hm
    exact⟨t,x,k,E,rfl,hE',hx,hk,hz⟩
   ·obtain⟨_,_,hm⟩:=Option.map_eq_some_iff.1 hm
    cases hm
  all_goals
   exfalso
   repeat' split at hm
   all_goals first
    |(cases hm;done)
    |(simp only[Option.bind_eq_some_iff,Option.map_eq_some_iff,reduceCtorEq,and_false,exists_false] at hm;done)
 obtain⟨K,hT,hK⟩:=fc hE'
 obtain⟨_,es,c,g1,g2⟩:=hw
 have e1:=cZ hx hE h1
 have e2:=eP hk hE h2
 obtain⟨zu,hz1,hz2,hz3⟩:=mj hz w'
 unfold execOp
 rw[ho]
 unfold fW.look at hv
 rcases qu hT hK g1 g2.int i false hz1 with⟨q1,q2⟩|⟨e0,q1,q2,q3⟩
 ·rw[g2.miss q2] at hv
  have hv:z= .n q j:=hv
  have hzz:=hz3 σ
  rw[hv] at hzz
  cases hzz
  simp only[e1,e2,q1,Sem.run_bind,Result.andThen_ok,Sem.run_pure,Bool.false_eq_true,if_false]
 ·obtain⟨v,p1,p2,p3⟩:=g2.hit q1 q2
  rw[p1] at hv
  have hv:v= .n q j:=hv
  rw[hv] at p3
  have hval:e0.val= .int q j:=by
   generalize e0.val=u at p3
   cases p3;rfl
  simp only[e1,e2,q3,Sem.run_bind,Result.andThen_ok,Sem.run_pure,hval,Bool.false_eq_true,if_false]
theorem eO(h0:HR B σ0 H0 w0)(htop:bI H0 m (H0.next-m))(hp:∀c a w,¬Q (.panic c) a w):∀(pl:List (Nat×Nat)) (l':List (Nat×AO)) {nc:Bool} {σ:Sg} {e:Tr AV} {H:AH} {a:Act} {w:World} {Q':Tr AV->AH->Prop},kB P n ops fl pl=some l'->dc P H0 m nc l' e H Q'->EN n σ e a->HR B σ H w->
  Fr B σ0 σ H0 H w0 w->(nc=true->σ.fz=σ0.fz)->gV B σ0 σ->
  (∀e' H' a' w' σ',Q' e' H'->EN n σ' e' a'->HR B σ' H' w'->Fr B σ0 σ' H0 H' w0 w'->gV B σ0 σ'->Q .normal a' w')->au P .any ops Q (tF B m σ0 H0 w0) fl (aq ops (pl.map cg)) a w
 |[],l',nc,σ,e,H,a,w,Q',hl,hr,hE,h,hF,hz,hzb,hQ=>by
  simp only[kB,Option.some.injEq] at hl
  subst hl
  show au P .any ops Q (tF B m σ0 H0 w0) fl [] a w
  exact eF (hQ e H a w σ hr hE h hF hzb)
 |(k,j)::pl,l',nc,σ,e,H,a,w,Q',hl,hr,hE,h,hF,hz,hzb,hQ=>by
  simp only[kB] at hl
  split at hl
  rotate_left
  ·cases hl
  rename_i o ho
  obtain⟨x,hx,hl⟩:=Option.bind_eq_some_iff.1 hl
  split at hl
  rotate_left
  ·cases hl
  rename_i hk3
  obtain⟨hk3,hsee⟩:=hk3
  obtain⟨r,hl2,rfl⟩:=Option.map_eq_some_iff.1 hl
  unfold jC at hx
  split at hx
  rotate_left
  ·cases hx
  rename_i hd
  obtain⟨g,hg,hx⟩:=Option.bind_eq_some_iff.1 hx
  obtain⟨ak,hk,rfl⟩:=Option.map_eq_some_iff.1 hx
  have hgp:aq ops (((k,j)::pl).map cg)=((cg (k,j)).1,j,o)::aq ops (pl.map cg):=by
   have:cg (k,j)=((cg (k,j)).1,j):=by unfold cg;split<;>first|rfl|(rename_i heq;cases heq;rfl)
   rw[List.map_cons,this]
   simp[aq,ho]
  rw[hgp]
  simp only[dc] at hr
  split at hr
  rotate_left
  ·exact hr.elim
  rename_i t hw
  cases t
  rotate_left
  ·replace hr:=hr.1 rfl
   have hwant:=cd hE.er hg hw
   split at hr
   ·
    rename_i hk1
    subst hk1
    obtain⟨hearly,hlow,hr⟩:=hr
    cases ak with
    |cl f args=>exact hearly.elim
    |sn neg x=>exact hearly.elim
    |mo x=>exact hearly.elim
    |ap ap0=>
     cases ap0<;>try exact hearly.elim
     rename_i nn row xx
     simp only[gK] at hr
     split at hr
     rotate_left
     ·exact hr.elim
     rename_i v H1 hrun
     obtain⟨q1,_,_,_,c,u,q2,q34,q5,q6⟩:=pT (kj hk) rfl hE.er h hrun
     subst q1
     cases q2
     have hgw:bt m σ0 H0 w0 w:=bt.of_fr hF hlow
     have htop':=bI.get _ _ htop
     have hclt:(∃(cs:Array Value) (t:TypeId) (fr:Nat×Nat),w0.heap[c]? =some (Obj.cells cs t fr))/\∀b o,m<=b->b<H0.next->σ0 b≠some (c,o):=by
      rcases q34 with⟨b,off,oc,q3,q4⟩|⟨_,_,_,fs,q3,q4,q40⟩
      ·simp only[bS,q3] at hearly
       obtain⟨hbm,hearly⟩:=hearly
       obtain⟨xb,hxb⟩:=Option.isSome_iff_exists.1 hearly
       have hc0:σ b=σ0 b:=hF.dom b (AH.at_lt h0 hxb)
       rw[hc0] at q4
       obtain⟨cs0,p2,p3,p4⟩:=h0.blk b xb c oc hxb q4
       refine⟨⟨_,_,_,p3⟩,λb' o' h1 h2 h3=>?_⟩
       obtain⟨x',hx',_⟩:=htop' b' h1 (by omega)
       have:=h0.inj b b' xb x' c oc o' hxb hx' q4 h3
       omega
      ·simp only[bS,q3] at hearly
       rw[hz hearly] at q4
       refine⟨by obtain⟨cs',t',fr',m1,_⟩:=h0.frz c fs q4;exact⟨_,_,_,m1⟩,λb' o' h1 h2 h3=>?_⟩
       obtain⟨x',hx',hx0⟩:=htop' b' h1 (by omega)
       obtain⟨cs',t',fr',_,_,m3⟩:=h0.frz c fs q4
       have:=m3 b' x' o' hx' h3
       omega
     have hcell:∀{w':World},bt m σ0 H0 w0 w'->∀i,w'.cell? ⟨c,i,none⟩=w0.cell? ⟨c,i,none⟩:=λhw' i=>by
      have:=hw' c hclt.1 hclt.2
      simp only[World.cell?,this]
     show au P .any ops Q (tF B m σ0 H0 w0) fl ((1,j,o)::aq ops (pl.map cg)) a w
     unfold au
     rw[if_pos hwant]
     refine⟨u,λw' hw'=>q6 w' (λi=>(hcell hw'.1 i).trans (hcell hgw i).symm),?_⟩
     exact eO h0 htop hp pl r hl2 hr (hE.put q5 hd) h hF hz hzb hQ
   ·split at hr
    ·
     rename_i hk1 hk2
     subst hk2
     obtain⟨hpure,hr⟩:=hr
     cases ak with
     |cl f args=>cases hpure
     |sn neg x=>cases hpure
     |mo x=>cases hpure
     |ap xx=>
      have hkind:xx.kind=2:=by simpa [cE] using hpure
      simp only[gK] at hr
      split at hr
      rotate_left
      ·exact hr.elim
      rename_i v H1 hrun
      obtain⟨q1,u,q2,q3⟩:=nA (kj hk) hkind hE.er h hrun
      subst q1
      show au P .any ops Q (tF B m σ0 H0 w0) fl ((2,j,o)::aq ops (pl.map cg)) a w
      unfold au
      rw[if_pos hwant]
      exact⟨u,q3,eO h0 htop hp pl r hl2 hr (hE.put q2 hd) h hF hz hzb hQ⟩
    ·rename_i hk1 hk2
     split at hr
     ·rename_i hk4
      subst hk4
      cases ak with
      |cl f args=>exact hr.elim
      |sn neg x=>exact hr.elim
      |ap x=>exact hr.elim
      |mo mo0=>
       cases mo0<;>try exact hr.elim
       rename_i z ok xx kk
       simp only[vB] at hr
       obtain⟨r',i,y,q,jj,g1,g2,rfl,g4,g5,hr⟩:=B8 hr
       show au P .any ops Q (tF B m σ0 H0 w0) fl ((1,j,o)::aq ops (pl.map cg)) a w
       unfold au
       rw[if_pos hwant]
       exact⟨_,λw' hw'=>vA hk hE.er g1 g2 g5 (hw'.2 r' y g4),eO h0 htop hp pl r hl2 hr (hE.put (.n q jj) hd) h hF hz hzb hQ⟩
     rename_i hk4
     have hu0:(cg (k,j)).1=0:=by
      have:k=0\/k=3:=by omega
      rcases this with rfl|rfl<;>rfl
     rw[hu0]
     have hz':∀{σ1:Sg},(eu ak=false->σ1.fz=σ.fz)->(nc&& !eu ak)=true->σ1.fz=σ0.fz:=λh1 h2=>by
      simp only[Bool.and_eq_true,Bool.not_eq_true'] at h2
      rw[h1 h2.2,hz h2.1]
     by_cases hk0:k=3
     ·subst hk0
      have s1:=hsee rfl
      refine da s1 (co hwant ?_)
      refine kc hk hE.er h hr λv H1 u w1 σ1 q0 q1 q2 q3 q5 q4=>?_
      exact eO h0 htop hp pl r hl2 q0.2 ((hE.mono q3.ext).put q1 hd) q2 (hF.trans q3 h) (hz' q4) (hzb.trans q5) hQ
     ·refine eV (co hwant ?_)
      refine kc hk hE.er h hr λv H1 u w1 σ1 q0 q1 q2 q3 q5 q4=>?_
      have hlow':=q0.1.resolve_left hk0
      have hF1:=hF.trans q3 h
      have hg1:tF B m σ0 H0 w0 w1:=⟨bt.of_fr hF1 hlow'.1,WG.of q2 hlow'.2⟩
      exact⟨hg1,eO h0 htop hp pl r hl2 q0.2 ((hE.mono q3.ext).put q1 hd) q2 hF1 (hz' q4) (hzb.trans q5) hQ⟩
  ·replace hr:=hr.2 rfl
   obtain⟨hlow,hr⟩:=hr
   have hwant:=cd hE.er hg hw
   have hput:=hE.put (u:=undef) (v:= .tup []) (.tup rfl (λi v h=>by simp at h)) hd
   have next:=eO h0 htop hp pl r hl2 hr hput h hF hz hzb hQ
   have:(cg (k,j)).1=0\/(cg (k,j)).1=1\/(cg (k,j)).1=2:=by
    have:k=0\/k=1\/k=2\/k=3\/k=4:=by omega
    rcases this with rfl|rfl|rfl|rfl|rfl<;>simp[cg]
   rcases this with q|q|q<;>rw[q]
   ·have hskip:∀R:Exit->Act->World->Prop,R .normal (a.put o.dst undef) w->wpList P ops R [o] a w:=λR hR=>by
     unfold wpList
     rw[hwant,if_neg (by simp)]
     exact hR
    unfold au
    split
    ·exact hskip _ next
    ·rename_i hs
     refine hskip _ ⟨?_,next⟩
     have:k=0\/k=1\/k=2\/k=3\/k=4:=by omega
     rcases this with rfl|rfl|rfl|rfl|rfl
     ·exact⟨bt.of_fr hF (hlow rfl).1,WG.of h (hlow rfl).2⟩
     ·simp[cg] at q
     ·simp[cg] at q
     ·exact absurd (hsee rfl) hs
     ·simp[cg] at q
   ·unfold au
    rw[hwant,if_neg (by simp)]
    exact next
   ·unfold au
    rw[hwant,if_neg (by simp)]
    exact next
theorem BO{hints:bu}{c:Code}{l:List (Nat×AO)}(h:cA P n hints c=some (.mxl l)):∃id ops fl pu pl,c= .region id ops true/\sM .any ops fl pu (pl.map cg)=true/\kB P n ops fl pl=some l:=by
 cases c with
 |region id ops dr=>
  simp only[cA,Option.some.injEq] at h
  cases hc0:qB P n hints id ops dr with
  |none=>rw[hc0] at h;cases h
  |some ac0=>
  rw[hc0] at h
  have e0:ac0= .mxl l:=h
  subst e0
  clear h
  have h:=hc0
  clear hc0
  unfold qB at h
  split at h
  ·rename_i hd
   subst hd
   split at h
   ·rename_i fl pu pl hh
    split at h
    rotate_left
    ·cases h
    rename_i hB
    split at h
    ·rename_i l' hl
     cases h
    ·obtain⟨l',hl,h⟩:=Option.map_eq_some_iff.1 h
     cases h
     exact⟨id,ops,fl,pu,pl,rfl,hB,hl⟩
   ·rename_i fl pu pl T hh
    split at h
    rotate_left
    ·cases h
    obtain⟨l',hl,h⟩:=Option.bind_eq_some_iff.1 h
    obtain⟨T',hT,h⟩:=Option.map_eq_some_iff.1 h
    cases h
   ·cases h
  ·split at h
   ·cases h
   ·obtain⟨_,hl,h⟩:=Option.map_eq_some_iff.1 h
    cases h
 |rangeFunc g ps asg body=>
  simp only[cA] at h
  obtain⟨g1,h1,h⟩:=Option.bind_eq_some_iff.1 h
  obtain⟨x1,h2,h⟩:=Option.bind_eq_some_iff.1 h
  obtain⟨y1,h3,h⟩:=Option.bind_eq_some_iff.1 h
  unfold ZN at h
  split at h
  ·split at h
   ·cases h
   ·cases h
  ·cases h
 |seq a b=>
  simp only[cA] at h
  obtain⟨x,h1,h⟩:=Option.bind_eq_some_iff.1 h
  obtain⟨y,h2,h⟩:=Option.map_eq_some_iff.1 h
  cases h
 |cond o a b=>
  simp only[cA] at h
  obtain⟨cc,h0,h⟩:=Option.bind_eq_some_iff.1 h
  obtain⟨x,h1,h⟩:=Option.bind_eq_some_iff.1 h
  obtain⟨y,h2,h⟩:=Option.map_eq_some_iff.1 h
  cases h
 |block id b=>
  simp only[cA] at h
  obtain⟨x,h1,h⟩:=Option.map_eq_some_iff.1 h
  cases h
 |loop b=>
  simp only[cA] at h
  obtain⟨x,h1,h⟩:=Option.map_eq_some_iff.1 h
  cases h
 |_=>simp[cA] at h
end
section
variable {P:Program} {n:Nat} {hints:bu} {e:Tr AV} {H:AH} {Q:AE->Tr AV->AH->Prop}
theorem GA.mxl(hm:P.follows .mixedOrders=true)(m:Nat){l:List (Nat×AO)}(htop:bI H m (H.next-m))(h:dc P {H with low:=2^40} m true l e {H with low:=2^40} (λe' H'=>Q .normal e' {H' with low:=min H.low H'.low})):GA P n hints (.mxl l) e H Q:=λc hc B σ a w R hE hH hp hR=>by
 obtain⟨id,ops,fl,pu,pl,rfl,hB,hl⟩:=BO hc
 have hops:ops=ops.toList.toArray:=by simp
 rw[hops]
 rw[hops] at hB
 have hd:HR B σ {H with low:=2^40} w.drew:=⟨hH.new,hH.newl,hH.old,hH.small,hH.hB,hH.nil,hH.nilp,hH.blk,hH.szs,hH.inj,hH.frz,hH.ob.of_eq rfl⟩
 refine fk (tF B m σ {H with low:=2^40} w.drew) fl pu (pl.map cg) hm hB (λc a d v w hq=>(hp _ _ _ hq).elim) ⟨bt.refl _ _ _ _,λr x hx=>hd.ob.o r _ hx⟩ ?_
 rw[<-hops]
 have htop':bI {H with low:=2^40} m (AH.next {H with low:=2^40}-m):=by
  have key:∀(k m:Nat),bI H m k->bI {H with low:=2^40} m k:=by
   intro k
   induction k with
   |zero=>intro m _;trivial
   |succ k ih=>intro m h;exact⟨h.1,ih _ h.2⟩
  exact key _ _ htop
 refine eO hd htop' hp pl l hl h hE hd (Fr.refl hd) (λ_=>rfl) (.refl _ _) (λe' H' a' w' σ' q q1 q2 q3 q4=>?_)
 exact hR .normal e' _ a' w' σ' q q1 (q2.relow _) ((Below.refl _ _).drew.trans q3.bel) q4
end
/-! what simp needs-/
def mO(P:Program)(H0:AH)(m:Nat)(nc:Bool)(l:List (Nat×AO))(e:Tr AV)(d:Option Nat)(Q:Tr AV->AH->Prop)(v:AV)(H:AH):Prop:=dc P H0 m nc l (aN e d v) H Q
theorem vV(P:Program)(H0:AH)(m:Nat)(nc:Bool)(l:List (Nat×AO))(e:Tr AV)(d:Option Nat)(Q:Tr AV->AH->Prop)(v:AV)(H:AH):mO P H0 m nc l e d Q v H=dc P H0 m nc l (aN e d v) H Q:=id rfl
def ur(P:Program)(H0:AH)(m:Nat)(nc:Bool)(l:List (Nat×AO))(e:Tr AV)(d:Option Nat)(Q:Tr AV->AH->Prop)(H:AH)(v:AV):Prop:=dc P H0 m nc l (aN e d v) H Q
theorem vU(P:Program)(H0:AH)(m:Nat)(nc:Bool)(l:List (Nat×AO))(e:Tr AV)(d:Option Nat)(Q:Tr AV->AH->Prop)(v:AV)(H:AH):ur P H0 m nc l e d Q H v=dc P H0 m nc l (aN e d v) H Q:=id rfl
def pq(P:Program)(H0:AH)(m:Nat)(nc:Bool)(k:Nat)(l:List (Nat×AO))(e:Tr AV)(d:Option Nat)(Q:Tr AV->AH->Prop)(v:AV)(H:AH):Prop:=(k=3\/(m<=H.low/\Ca H0.ob H.ob))/\dc P H0 m nc l (aN e d v) H Q
theorem sR(P:Program)(H0:AH)(m:Nat)(nc:Bool)(k:Nat)(l:List (Nat×AO))(e:Tr AV)(d:Option Nat)(Q:Tr AV->AH->Prop)(v:AV)(H:AH):pq P H0 m nc k l e d Q v H=((k=3\/(m<=H.low/\Ca H0.ob H.ob))/\dc P H0 m nc l (aN e d v) H Q):=id rfl
theorem wv(P:Program)(H0:AH)(m:Nat)(nc:Bool)(e:Tr AV)(H:AH)(Q:Tr AV->AH->Prop):dc P H0 m nc [] e H Q=Q e H:=id rfl
def WW(P:Program)(H0:AH)(m:Nat)(nc:Bool)(k:Nat)(d:Option Nat)(a:AK)(l:List (Nat×AO))(e:Tr AV)(H:AH)(Q:Tr AV->AH->Prop):Option Bool->Prop
 |some true=>if k=1 then bS H0 m nc e a/\m<=H.low/\gK P e H a (mO P H0 m nc l e d Q)
    else if k=2 then cE a=true/\gK P e H a (mO P H0 m nc l e d Q)
    else if k=4 then vB H0 e a (ur P H0 m nc l e d Q H)
    else gK P e H a (pq P H0 m (nc&& !eu a) k l e d Q)
 |some false=>(k=0->m<=H.low/\Ca H0.ob H.ob)/\dc P H0 m nc l (aN e d (.tup [])) H Q
 |none=>False
theorem zp(P:Program)(H0:AH)(m:Nat)(nc:Bool)(k:Nat)(d:Option Nat)(a:AK)(l:List (Nat×AO))(e:Tr AV)(H:AH)(Q:Tr AV->AH->Prop):WW P H0 m nc k d a l e H Q (some true)=if k=1 then bS H0 m nc e a/\m<=H.low/\gK P e H a (mO P H0 m nc l e d Q)
    else if k=2 then cE a=true/\gK P e H a (mO P H0 m nc l e d Q)
    else if k=4 then vB H0 e a (ur P H0 m nc l e d Q H)
    else gK P e H a (pq P H0 m (nc&& !eu a) k l e d Q):=id rfl
theorem wc(P:Program)(H0:AH)(m:Nat)(nc:Bool)(k:Nat)(d:Option Nat)(a:AK)(l:List (Nat×AO))(e:Tr AV)(H:AH)(Q:Tr AV->AH->Prop):WW P H0 m nc k d a l e H Q (some false)=((k=0->m<=H.low/\Ca H0.ob H.ob)/\dc P H0 m nc l (aN e d (.tup [])) H Q):=id rfl
theorem sY(P:Program)(H0:AH)(m:Nat)(nc:Bool)(k:Nat)(d:Option Nat)(g:Option (Nat×Bool))(a:AK)(l:List (Nat×AO))(e:Tr AV)(H:AH)(Q:Tr AV->AH->Prop):dc P H0 m nc ((k,⟨d,g,a⟩)::l) e H Q=WW P H0 m nc k d a l e H Q (bq e g):=by
 show(match bq e g with
  |some t=>
   (t=true->if k=1 then bS H0 m nc e a/\m<=H.low/\gK P e H a (mO P H0 m nc l e d Q)
    else if k=2 then cE a=true/\gK P e H a (mO P H0 m nc l e d Q)
    else if k=4 then vB H0 e a (ur P H0 m nc l e d Q H)
    else gK P e H a (pq P H0 m (nc&& !eu a) k l e d Q))/\
   (t=false->(k=0->m<=H.low/\Ca H0.ob H.ob)/\dc P H0 m nc l (aN e d (.tup [])) H Q)
  |none=>False)=_
 cases bq e g with
 |none=>rfl
 |some t=>cases t<;>simp[WW]
theorem BW(H0:AH)(e:Tr AV)(z:AV)(ok:Bool)(x k:AX)(Q:AV->Prop):vB H0 e (.mo (.lk z ok x k)) Q=Km H0 z ok Q (x.ev e) (k.ev e):=id rfl
theorem yM(H0:AH)(z:AV)(Q:AV->Prop)(r:Nat)(i:Int):Km H0 z false Q (some (.cv (.map (some r)))) (some (.n .i64 i))=WP z i Q (H0.ob r):=by simp[Km]
theorem JE(z:AV)(i:Int)(Q:AV->Prop)(y:fW):WP z i Q (some (.mp y))=WO Q (y.look false z i):=id rfl
theorem Wb(Q:AV->Prop)(q:IntKind)(j:Int):WO Q (.n q j)=Q (.n q j):=id rfl
theorem GA.mxlm{P:Program}{n:Nat}{hints:bu}{e:Tr AV}{H:AH}{Q:AE->Tr AV->AH->Prop}(hm:P.follows .mixedOrders=true)(m:Nat){l:List (Nat×AO)}(htop:bI H m (H.next-m))(h:dc P (H.setLow (2^40)) m true l e (H.setLow (2^40)) (λe' H'=>Q .normal e' (H'.setLow (min H.low H'.low)))):GA P n hints (.mxl l) e H Q:=GA.mxl hm m htop h
attribute [go_sem] vV vU sR wv zp wc sY BW yM JE Wb yS
end Go.Proofs.YtdpkgnmmikebdaaGreat