/- A part of the proof of CostGrows: EvMl. No condition. -/
import Derived.Test.YtdpkgnmmikebdaaGreatGf21
set_option linter.unusedSimpArgs false
set_option linter.unusedVariables false
set_option linter.constructorNameAsVariable false
set_option maxRecDepth 100000
set_option maxHeartbeats 4000000
namespace Go.Proofs.YtdpkgnmmikebdaaGreat
open Go.RowKit
def WQ(B:Nat)(H0:AH)(w':World):Prop:=∀r x,H0.ob r=some (.mp x)->Dq B w' r (.mp x)
def Ce(a b:Nat->Option OB):Prop:=∀r x,a r=some x->b r=some x
theorem yX(a:Nat->Option OB):Ce a a=True:=eq_true (λ_ _ h=>h)
theorem WQ.of{B:Nat}{σ:Sg}{H0 H:AH}{w:World}(h:HR B σ H w)(hle:Ce H0.ob H.ob):WQ B H0 w:=λr x hx=>h.ob.o r _ (hle r _ hx)
def tG(B m:Nat)(σ0:Sg)(H0:AH)(w0 w':World):Prop:=bo m σ0 H0 w0 w'/\WQ B H0 w'
def W1(Q:AV->Prop):AV->Prop
 |.n q j=>Q (.n q j)
 |_=>False
def W2(z:AV)(i:Int)(Q:AV->Prop):Option OB->Prop
 |some (.mp y)=>W1 Q (y.look false z i)
 |_=>False
def Kx(H0:AH)(z:AV)(ok:Bool)(Q:AV->Prop):Option AV->Option AV->Prop
 |some (.cv (.map (some r))),some (.n .i64 i)=>ok=false/\W2 z i Q (H0.ob r)
 |_,_=>False
theorem Cc{H0:AH}{z:AV}{ok:Bool}{Q:AV->Prop}{x k:Option AV}(h:Kx H0 z ok Q x k):∃r i y q j,x=some (.cv (.map (some r)))/\k=some (.n .i64 i)/\ok=false/\H0.ob r=some (.mp y)/\y.look false z i= .n q j/\Q (.n q j):=by
 unfold Kx at h
 split at h
 ·rename_i r i
  obtain⟨h0,h⟩:=h
  unfold W2 at h
  split at h
  ·rename_i y hy
   unfold W1 at h
   split at h
   ·rename_i q j hv
    exact⟨r,i,y,q,j,rfl,rfl,h0,hy,hv,h⟩
   ·exact h.elim
  ·exact h.elim
 ·exact h.elim
def vG(H0:AH)(e:Tr AV)(k:AK)(Q:AV->Prop):Prop:=match k with
 |.mo (.lk z ok x k)=>Kx H0 z ok Q (x.ev e) (k.ev e)
 |_=>False
def dk(P:Program)(H0:AH)(m:Nat):Bool->List (Nat×AO)->Tr AV->AH->(Tr AV->AH->Prop)->Prop
 |_,[],e,H,Q=>Q e H
 |nc,(k,o)::l,e,H,Q=>match bn e o.gd with
  |some t=>
   (t=true->if k=1 then bP H0 m nc e o.k/\m<=H.low/\gK P e H o.k (λv H'=>dk P H0 m nc l (aK e o.dst v) H' Q)
    else if k=2 then cD o.k=true/\gK P e H o.k (λv H'=>dk P H0 m nc l (aK e o.dst v) H' Q)
    else if k=4 then vG H0 e o.k (λv=>dk P H0 m nc l (aK e o.dst v) H Q)
    else gK P e H o.k (λv H'=>(k=3\/(m<=H'.low/\Ce H0.ob H'.ob))/\dk P H0 m (nc&& !eH o.k) l (aK e o.dst v) H' Q))/\
   (t=false->(k=0->m<=H.low/\Ce H0.ob H.ob)/\dk P H0 m nc l (aK e o.dst (.tup [])) H Q)
  |none=>False
section
variable {P:Program} {B n m:Nat} {σ0:Sg} {H0:AH} {w0:World} {ops:Array Oper} {fl:List Nat} {Q:Exit->Act->World->Prop}
theorem vF{o:Oper}{z:AV}{x' k':AX}(hc:fY P o.op=some (.mo (.lk z false x' k'))){σ:Sg}{e:Tr AV}{a:Act}(hE:ER σ e a){r:Nat}{i:Int}{y:ga}{q:IntKind}{j:Int}
  (h1:x'.ev e=some (.cv (.map (some r)))) (h2:k'.ev e=some (.n .i64 i)) (hv:y.look false z i= .n q j) {w':World} (hw:Dq B w' r (.mp y)):(execOp a.eval o).run P w'= .ok (.value (.int q j)) w':=by
 have hm:pn P o.op=some (.lk z false x' k'):=by
  unfold fY at hc
  split at hc
  ·rename_i m hm;cases hc;exact hm
  ·unfold kn at hc
   exfalso
   split at hc
   ·split at hc
    ·obtain⟨_,_,hc⟩:=Option.map_eq_some_iff.1 hc;cases hc
    ·obtain⟨_,_,hc⟩:=Option.map_eq_some_iff.1 hc;cases hc
   ·split at hc
    ·obtain⟨_,_,hc⟩:=Option.bind_eq_some_iff.1 hc
     obtain⟨_,_,hc⟩:=Option.map_eq_some_iff.1 hc;cases hc
    ·obtain⟨_,_,hc⟩:=Option.map_eq_some_iff.1 hc;cases hc
   ·obtain⟨_,_,hc⟩:=Option.map_eq_some_iff.1 hc;cases hc
 obtain⟨T,x,k,E,ho,hE',hx,hk,hz⟩:∃T x k E,o.op= .lookup T x k false/\kE P T=some E/\ax x=some x'/\ax k=some k'/\nP P E=some z:=by
  generalize o.op=op at hm
  unfold pn at hm
  split at hm
  case h_2 t x k ok=>
   obtain⟨E,hE',hm⟩:=Option.bind_eq_some_iff.1 hm
   obtain⟨x1,hx,hm⟩:=Option.bind_eq_some_iff.1 hm
   obtain⟨k1,hk,hm⟩:=Option.bind_eq_some_iff.1 hm
   split at hm
   ·rename_i z1 hz
    cases hm
    exact⟨t,x,k,E,rfl,hE',hx,hk,hz⟩
   ·obtain⟨_,_,hm⟩:=Option.map_eq_some_iff.1 hm
    cases hm
  all_goals
   exfalso
   repeat' split at hm
   all_goals first
    |(cases hm;done)
    |(simp only[Option.bind_eq_some_iff,Option.map_eq_some_iff,reduceCtorEq,and_false,exists_false] at hm;done)
 obtain⟨K,hT,hK⟩:=c9 hE'
 obtain⟨_,es,c,g1,g2⟩:=hw
 have e1:=de hx hE h1
 have e2:=cX hk hE h2
 obtain⟨zu,hz1,hz2,hz3⟩:=hY hz w'
 unfold execOp
 rw[ho]
 unfold ga.look at hv
 rcases jK hT hK g1 g2.int i false hz1 with⟨q1,q2⟩|⟨e0,q1,q2,q3⟩
 ·rw[g2.miss q2] at hv
  have hv:z= .n q j:=hv
  have hzz:=hz3 σ
  rw[hv] at hzz
  cases hzz
  simp only[e1,e2,q1,Sem.run_bind,Result.andThen_ok,Sem.run_pure,Bool.false_eq_true,if_false]
 ·obtain⟨v,p1,p2,p3⟩:=g2.hit q1 q2
  rw[p1] at hv
  have hv:v= .n q j:=hv
  rw[hv] at p3
  have hval:e0.val= .int q j:=by
   generalize e0.val=u at p3
   cases p3;rfl
  simp only[e1,e2,q3,Sem.run_bind,Result.andThen_ok,Sem.run_pure,hval,Bool.false_eq_true,if_false]
theorem eZ(h0:HR B σ0 H0 w0)(htop:bH H0 m (H0.next-m))(hp:∀c a w,¬Q (.panic c) a w):∀(pl:List (Nat×Nat)) (l':List (Nat×AO)) {nc:Bool} {σ:Sg} {e:Tr AV} {H:AH} {a:Act} {w:World} {Q':Tr AV->AH->Prop},eu P n ops fl pl=some l'->dk P H0 m nc l' e H Q'->EN n σ e a->HR B σ H w->
  Fr B σ0 σ H0 H w0 w->(nc=true->σ.fz=σ0.fz)->gX B σ0 σ->
  (∀e' H' a' w' σ',Q' e' H'->EN n σ' e' a'->HR B σ' H' w'->Fr B σ0 σ' H0 H' w0 w'->gX B σ0 σ'->Q .normal a' w')->ao P .any ops Q (tG B m σ0 H0 w0) fl (au ops (pl.map bu)) a w
 |[],l',nc,σ,e,H,a,w,Q',hl,hr,hE,h,hF,hz,hzb,hQ=>by
  simp only[eu,Option.some.injEq] at hl
  subst hl
  show ao P .any ops Q (tG B m σ0 H0 w0) fl [] a w
  exact db (hQ e H a w σ hr hE h hF hzb)
 |(k,j)::pl,l',nc,σ,e,H,a,w,Q',hl,hr,hE,h,hF,hz,hzb,hQ=>by
  simp only[eu] at hl
  split at hl
  rotate_left
  ·cases hl
  rename_i o ho
  obtain⟨x,hx,hl⟩:=Option.bind_eq_some_iff.1 hl
  split at hl
  rotate_left
  ·cases hl
  rename_i hk3
  obtain⟨hk3,hsee⟩:=hk3
  obtain⟨r,hl2,rfl⟩:=Option.map_eq_some_iff.1 hl
  unfold gS at hx
  split at hx
  rotate_left
  ·cases hx
  rename_i hd
  obtain⟨g,hg,hx⟩:=Option.bind_eq_some_iff.1 hx
  obtain⟨ak,hk,rfl⟩:=Option.map_eq_some_iff.1 hx
  have hgp:au ops (((k,j)::pl).map bu)=((bu (k,j)).1,j,o)::au ops (pl.map bu):=by
   have:bu (k,j)=((bu (k,j)).1,j):=by unfold bu;split<;>first|rfl|(rename_i heq;cases heq;rfl)
   rw[List.map_cons,this]
   simp[au,ho]
  rw[hgp]
  simp only[dk] at hr
  split at hr
  rotate_left
  ·exact hr.elim
  rename_i t hw
  cases t
  rotate_left
  ·replace hr:=hr.1 rfl
   have hwant:=bB hE.er hg hw
   split at hr
   ·
    rename_i hk1
    subst hk1
    obtain⟨hearly,hlow,hr⟩:=hr
    cases ak with
    |cl f args=>exact hearly.elim
    |sn neg x=>exact hearly.elim
    |mo x=>exact hearly.elim
    |ap ap0=>
     cases ap0<;>try exact hearly.elim
     rename_i nn row xx
     simp only[gK] at hr
     split at hr
     rotate_left
     ·exact hr.elim
     rename_i v H1 hrun
     obtain⟨q1,_,_,_,c,u,q2,q34,q5,q6⟩:=kR (fu hk) rfl hE.er h hrun
     subst q1
     cases q2
     have hgw:bo m σ0 H0 w0 w:=bo.of_fr hF hlow
     have htop':=bH.get _ _ htop
     have hclt:(∃(cs:Array Value) (t:TypeId) (fr:Nat×Nat),w0.heap[c]? =some (Obj.cells cs t fr))/\∀b o,m<=b->b<H0.next->σ0 b≠some (c,o):=by
      rcases q34 with⟨b,off,oc,q3,q4⟩|⟨_,_,_,fs,q3,q4,q40⟩
      ·simp only[bP,q3] at hearly
       obtain⟨hbm,hearly⟩:=hearly
       obtain⟨xb,hxb⟩:=Option.isSome_iff_exists.1 hearly
       have hc0:σ b=σ0 b:=hF.dom b (AH.at_lt h0 hxb)
       rw[hc0] at q4
       obtain⟨cs0,p2,p3,p4⟩:=h0.blk b xb c oc hxb q4
       refine⟨⟨_,_,_,p3⟩,λb' o' h1 h2 h3=>?_⟩
       obtain⟨x',hx',_⟩:=htop' b' h1 (by omega)
       have:=h0.inj b b' xb x' c oc o' hxb hx' q4 h3
       omega
      ·simp only[bP,q3] at hearly
       rw[hz hearly] at q4
       refine⟨by obtain⟨cs',t',fr',m1,_⟩:=h0.frz c fs q4;exact⟨_,_,_,m1⟩,λb' o' h1 h2 h3=>?_⟩
       obtain⟨x',hx',hx0⟩:=htop' b' h1 (by omega)
       obtain⟨cs',t',fr',_,_,m3⟩:=h0.frz c fs q4
       have:=m3 b' x' o' hx' h3
       omega
     have hcell:∀{w':World},bo m σ0 H0 w0 w'->∀i,w'.cell? ⟨c,i,none⟩=w0.cell? ⟨c,i,none⟩:=λhw' i=>by
      have:=hw' c hclt.1 hclt.2
      simp only[World.cell?,this]
     show ao P .any ops Q (tG B m σ0 H0 w0) fl ((1,j,o)::au ops (pl.map bu)) a w
     unfold ao
     rw[if_pos hwant]
     refine⟨u,λw' hw'=>q6 w' (λi=>(hcell hw'.1 i).trans (hcell hgw i).symm),?_⟩
     exact eZ h0 htop hp pl r hl2 hr (hE.put q5 hd) h hF hz hzb hQ
   ·split at hr
    ·
     rename_i hk1 hk2
     subst hk2
     obtain⟨hpure,hr⟩:=hr
     cases ak with
     |cl f args=>cases hpure
     |sn neg x=>cases hpure
     |mo x=>cases hpure
     |ap xx=>
      have hkind:xx.kind=2:=by simpa [cD] using hpure
      simp only[gK] at hr
      split at hr
      rotate_left
      ·exact hr.elim
      rename_i v H1 hrun
      obtain⟨q1,u,q2,q3⟩:=jz (fu hk) hkind hE.er h hrun
      subst q1
      show ao P .any ops Q (tG B m σ0 H0 w0) fl ((2,j,o)::au ops (pl.map bu)) a w
      unfold ao
      rw[if_pos hwant]
      exact⟨u,q3,eZ h0 htop hp pl r hl2 hr (hE.put q2 hd) h hF hz hzb hQ⟩
    ·rename_i hk1 hk2
     split at hr
     ·rename_i hk4
      subst hk4
      cases ak with
      |cl f args=>exact hr.elim
      |sn neg x=>exact hr.elim
      |ap x=>exact hr.elim
      |mo mo0=>
       cases mo0<;>try exact hr.elim
       rename_i z ok xx kk
       simp only[vG] at hr
       obtain⟨r',i,y,q,jj,g1,g2,rfl,g4,g5,hr⟩:=Cc hr
       show ao P .any ops Q (tG B m σ0 H0 w0) fl ((1,j,o)::au ops (pl.map bu)) a w
       unfold ao
       rw[if_pos hwant]
       exact⟨_,λw' hw'=>vF hk hE.er g1 g2 g5 (hw'.2 r' y g4),eZ h0 htop hp pl r hl2 hr (hE.put (.n q jj) hd) h hF hz hzb hQ⟩
     rename_i hk4
     have hu0:(bu (k,j)).1=0:=by
      have:k=0\/k=3:=by omega
      rcases this with rfl|rfl<;>rfl
     rw[hu0]
     have hz':∀{σ1:Sg},(eH ak=false->σ1.fz=σ.fz)->(nc&& !eH ak)=true->σ1.fz=σ0.fz:=λh1 h2=>by
      simp only[Bool.and_eq_true,Bool.not_eq_true'] at h2
      rw[h1 h2.2,hz h2.1]
     by_cases hk0:k=3
     ·subst hk0
      have s1:=hsee rfl
      refine cG s1 (bE hwant ?_)
      refine ke hk hE.er h hr λv H1 u w1 σ1 q0 q1 q2 q3 q5 q4=>?_
      exact eZ h0 htop hp pl r hl2 q0.2 ((hE.mono q3.ext).put q1 hd) q2 (hF.trans q3 h) (hz' q4) (hzb.trans q5) hQ
     ·refine d9 (bE hwant ?_)
      refine ke hk hE.er h hr λv H1 u w1 σ1 q0 q1 q2 q3 q5 q4=>?_
      have hlow':=q0.1.resolve_left hk0
      have hF1:=hF.trans q3 h
      have hg1:tG B m σ0 H0 w0 w1:=⟨bo.of_fr hF1 hlow'.1,WQ.of q2 hlow'.2⟩
      exact⟨hg1,eZ h0 htop hp pl r hl2 q0.2 ((hE.mono q3.ext).put q1 hd) q2 hF1 (hz' q4) (hzb.trans q5) hQ⟩
  ·replace hr:=hr.2 rfl
   obtain⟨hlow,hr⟩:=hr
   have hwant:=bB hE.er hg hw
   have hput:=hE.put (u:=undef) (v:= .tup []) (.tup rfl (λi v h=>by simp at h)) hd
   have next:=eZ h0 htop hp pl r hl2 hr hput h hF hz hzb hQ
   have:(bu (k,j)).1=0\/(bu (k,j)).1=1\/(bu (k,j)).1=2:=by
    have:k=0\/k=1\/k=2\/k=3\/k=4:=by omega
    rcases this with rfl|rfl|rfl|rfl|rfl<;>simp[bu]
   rcases this with q|q|q<;>rw[q]
   ·have hskip:∀R:Exit->Act->World->Prop,R .normal (a.put o.dst undef) w->wpList P ops R [o] a w:=λR hR=>by
     unfold wpList
     rw[hwant,if_neg (by simp)]
     exact hR
    unfold ao
    split
    ·exact hskip _ next
    ·rename_i hs
     refine hskip _ ⟨?_,next⟩
     have:k=0\/k=1\/k=2\/k=3\/k=4:=by omega
     rcases this with rfl|rfl|rfl|rfl|rfl
     ·exact⟨bo.of_fr hF (hlow rfl).1,WQ.of h (hlow rfl).2⟩
     ·simp[bu] at q
     ·simp[bu] at q
     ·exact absurd (hsee rfl) hs
     ·simp[bu] at q
   ·unfold ao
    rw[hwant,if_neg (by simp)]
    exact next
   ·unfold ao
    rw[hwant,if_neg (by simp)]
    exact next
theorem BV{hints:bp}{c:Code}{l:List (Nat×AO)}(h:bN P n hints c=some (.mxl l)):∃id ops fl pu pl,c= .region id ops true/\pq .any ops fl pu (pl.map bu)=true/\eu P n ops fl pl=some l:=by
 cases c with
 |region id ops dr=>
  simp only[bN,Option.some.injEq] at h
  cases hc0:mw P n hints id ops dr with
  |none=>rw[hc0] at h;cases h
  |some ac0=>
  rw[hc0] at h
  have e0:ac0= .mxl l:=h
  subst e0
  clear h
  have h:=hc0
  clear hc0
  unfold mw at h
  split at h
  ·rename_i hd
   subst hd
   split at h
   ·rename_i fl pu pl hh
    split at h
    rotate_left
    ·cases h
    rename_i hB
    split at h
    ·rename_i l' hl
     cases h
    ·obtain⟨l',hl,h⟩:=Option.map_eq_some_iff.1 h
     cases h
     exact⟨id,ops,fl,pu,pl,rfl,hB,hl⟩
   ·rename_i fl pu pl T hh
    split at h
    rotate_left
    ·cases h
    obtain⟨l',hl,h⟩:=Option.bind_eq_some_iff.1 h
    obtain⟨T',hT,h⟩:=Option.map_eq_some_iff.1 h
    cases h
   ·cases h
  ·split at h
   ·cases h
   ·obtain⟨_,hl,h⟩:=Option.map_eq_some_iff.1 h
    cases h
 |rangeFunc g ps asg body=>
  simp only[bN] at h
  obtain⟨g1,h1,h⟩:=Option.bind_eq_some_iff.1 h
  obtain⟨x1,h2,h⟩:=Option.bind_eq_some_iff.1 h
  obtain⟨y1,h3,h⟩:=Option.bind_eq_some_iff.1 h
  unfold WX at h
  split at h
  ·split at h
   ·cases h
   ·cases h
  ·cases h
 |seq a b=>
  simp only[bN] at h
  obtain⟨x,h1,h⟩:=Option.bind_eq_some_iff.1 h
  obtain⟨y,h2,h⟩:=Option.map_eq_some_iff.1 h
  cases h
 |cond o a b=>
  simp only[bN] at h
  obtain⟨cc,h0,h⟩:=Option.bind_eq_some_iff.1 h
  obtain⟨x,h1,h⟩:=Option.bind_eq_some_iff.1 h
  obtain⟨y,h2,h⟩:=Option.map_eq_some_iff.1 h
  cases h
 |block id b=>
  simp only[bN] at h
  obtain⟨x,h1,h⟩:=Option.map_eq_some_iff.1 h
  cases h
 |loop b=>
  simp only[bN] at h
  obtain⟨x,h1,h⟩:=Option.map_eq_some_iff.1 h
  cases h
 |_=>simp[bN] at h
end
section
variable {P:Program} {n:Nat} {hints:bp} {e:Tr AV} {H:AH} {Q:AE->Tr AV->AH->Prop}
theorem GA.mxl(hm:P.follows .mixedOrders=true)(m:Nat){l:List (Nat×AO)}(htop:bH H m (H.next-m))(h:dk P {H with low:=2^40} m true l e {H with low:=2^40} (λe' H'=>Q .normal e' {H' with low:=min H.low H'.low})):GA P n hints (.mxl l) e H Q:=λc hc B σ a w R hE hH hp hR=>by
 obtain⟨id,ops,fl,pu,pl,rfl,hB,hl⟩:=BV hc
 have hops:ops=ops.toList.toArray:=by simp
 rw[hops]
 rw[hops] at hB
 have hd:HR B σ {H with low:=2^40} w.drew:=⟨hH.new,hH.newl,hH.old,hH.small,hH.hB,hH.nil,hH.nilp,hH.blk,hH.szs,hH.inj,hH.frz,hH.ob.of_eq rfl⟩
 refine cT (tG B m σ {H with low:=2^40} w.drew) fl pu (pl.map bu) hm hB (λc a d v w hq=>(hp _ _ _ hq).elim) ⟨bo.refl _ _ _ _,λr x hx=>hd.ob.o r _ hx⟩ ?_
 rw[<-hops]
 have htop':bH {H with low:=2^40} m (AH.next {H with low:=2^40}-m):=by
  have key:∀(k m:Nat),bH H m k->bH {H with low:=2^40} m k:=by
   intro k
   induction k with
   |zero=>intro m _;trivial
   |succ k ih=>intro m h;exact⟨h.1,ih _ h.2⟩
  exact key _ _ htop
 refine eZ hd htop' hp pl l hl h hE hd (Fr.refl hd) (λ_=>rfl) (.refl _ _) (λe' H' a' w' σ' q q1 q2 q3 q4=>?_)
 exact hR .normal e' _ a' w' σ' q q1 (q2.relow _) ((Below.refl _ _).drew.trans q3.bel) q4
end
/-! what simp needs-/
def mF(P:Program)(H0:AH)(m:Nat)(nc:Bool)(l:List (Nat×AO))(e:Tr AV)(d:Option Nat)(Q:Tr AV->AH->Prop)(v:AV)(H:AH):Prop:=dk P H0 m nc l (aK e d v) H Q
theorem vY(P:Program)(H0:AH)(m:Nat)(nc:Bool)(l:List (Nat×AO))(e:Tr AV)(d:Option Nat)(Q:Tr AV->AH->Prop)(v:AV)(H:AH):mF P H0 m nc l e d Q v H=dk P H0 m nc l (aK e d v) H Q:=id rfl
def uo(P:Program)(H0:AH)(m:Nat)(nc:Bool)(l:List (Nat×AO))(e:Tr AV)(d:Option Nat)(Q:Tr AV->AH->Prop)(H:AH)(v:AV):Prop:=dk P H0 m nc l (aK e d v) H Q
theorem vX(P:Program)(H0:AH)(m:Nat)(nc:Bool)(l:List (Nat×AO))(e:Tr AV)(d:Option Nat)(Q:Tr AV->AH->Prop)(v:AV)(H:AH):uo P H0 m nc l e d Q H v=dk P H0 m nc l (aK e d v) H Q:=id rfl
def pB(P:Program)(H0:AH)(m:Nat)(nc:Bool)(k:Nat)(l:List (Nat×AO))(e:Tr AV)(d:Option Nat)(Q:Tr AV->AH->Prop)(v:AV)(H:AH):Prop:=(k=3\/(m<=H.low/\Ce H0.ob H.ob))/\dk P H0 m nc l (aK e d v) H Q
theorem sS(P:Program)(H0:AH)(m:Nat)(nc:Bool)(k:Nat)(l:List (Nat×AO))(e:Tr AV)(d:Option Nat)(Q:Tr AV->AH->Prop)(v:AV)(H:AH):pB P H0 m nc k l e d Q v H=((k=3\/(m<=H.low/\Ce H0.ob H.ob))/\dk P H0 m nc l (aK e d v) H Q):=id rfl
theorem wz(P:Program)(H0:AH)(m:Nat)(nc:Bool)(e:Tr AV)(H:AH)(Q:Tr AV->AH->Prop):dk P H0 m nc [] e H Q=Q e H:=id rfl
def W8(P:Program)(H0:AH)(m:Nat)(nc:Bool)(k:Nat)(d:Option Nat)(a:AK)(l:List (Nat×AO))(e:Tr AV)(H:AH)(Q:Tr AV->AH->Prop):Option Bool->Prop
 |some true=>if k=1 then bP H0 m nc e a/\m<=H.low/\gK P e H a (mF P H0 m nc l e d Q)
    else if k=2 then cD a=true/\gK P e H a (mF P H0 m nc l e d Q)
    else if k=4 then vG H0 e a (uo P H0 m nc l e d Q H)
    else gK P e H a (pB P H0 m (nc&& !eH a) k l e d Q)
 |some false=>(k=0->m<=H.low/\Ce H0.ob H.ob)/\dk P H0 m nc l (aK e d (.tup [])) H Q
 |none=>False
theorem zx(P:Program)(H0:AH)(m:Nat)(nc:Bool)(k:Nat)(d:Option Nat)(a:AK)(l:List (Nat×AO))(e:Tr AV)(H:AH)(Q:Tr AV->AH->Prop):W8 P H0 m nc k d a l e H Q (some true)=if k=1 then bP H0 m nc e a/\m<=H.low/\gK P e H a (mF P H0 m nc l e d Q)
    else if k=2 then cD a=true/\gK P e H a (mF P H0 m nc l e d Q)
    else if k=4 then vG H0 e a (uo P H0 m nc l e d Q H)
    else gK P e H a (pB P H0 m (nc&& !eH a) k l e d Q):=id rfl
theorem wh(P:Program)(H0:AH)(m:Nat)(nc:Bool)(k:Nat)(d:Option Nat)(a:AK)(l:List (Nat×AO))(e:Tr AV)(H:AH)(Q:Tr AV->AH->Prop):W8 P H0 m nc k d a l e H Q (some false)=((k=0->m<=H.low/\Ce H0.ob H.ob)/\dk P H0 m nc l (aK e d (.tup [])) H Q):=id rfl
theorem sZ(P:Program)(H0:AH)(m:Nat)(nc:Bool)(k:Nat)(d:Option Nat)(g:Option (Nat×Bool))(a:AK)(l:List (Nat×AO))(e:Tr AV)(H:AH)(Q:Tr AV->AH->Prop):dk P H0 m nc ((k,⟨d,g,a⟩)::l) e H Q=W8 P H0 m nc k d a l e H Q (bn e g):=by
 show(match bn e g with
  |some t=>
   (t=true->if k=1 then bP H0 m nc e a/\m<=H.low/\gK P e H a (mF P H0 m nc l e d Q)
    else if k=2 then cD a=true/\gK P e H a (mF P H0 m nc l e d Q)
    else if k=4 then vG H0 e a (uo P H0 m nc l e d Q H)
    else gK P e H a (pB P H0 m (nc&& !eH a) k l e d Q))/\
   (t=false->(k=0->m<=H.low/\Ce H0.ob H.ob)/\dk P H0 m nc l (aK e d (.tup [])) H Q)
  |none=>False)=_
 cases bn e g with
 |none=>rfl
 |some t=>cases t<;>simp[W8]
theorem B3(H0:AH)(e:Tr AV)(z:AV)(ok:Bool)(x k:AX)(Q:AV->Prop):vG H0 e (.mo (.lk z ok x k)) Q=Kx H0 z ok Q (x.ev e) (k.ev e):=id rfl
theorem yR(H0:AH)(z:AV)(Q:AV->Prop)(r:Nat)(i:Int):Kx H0 z false Q (some (.cv (.map (some r)))) (some (.n .i64 i))=W2 z i Q (H0.ob r):=by simp[Kx]
theorem JN(z:AV)(i:Int)(Q:AV->Prop)(y:ga):W2 z i Q (some (.mp y))=W1 Q (y.look false z i):=id rfl
theorem Wl(Q:AV->Prop)(q:IntKind)(j:Int):W1 Q (.n q j)=Q (.n q j):=id rfl
theorem GA.mxlm{P:Program}{n:Nat}{hints:bp}{e:Tr AV}{H:AH}{Q:AE->Tr AV->AH->Prop}(hm:P.follows .mixedOrders=true)(m:Nat){l:List (Nat×AO)}(htop:bH H m (H.next-m))(h:dk P (H.setLow (2^40)) m true l e (H.setLow (2^40)) (λe' H'=>Q .normal e' (H'.setLow (min H.low H'.low)))):GA P n hints (.mxl l) e H Q:=GA.mxl hm m htop h
attribute [go_sem] vY vX sS wz zx wh sZ B3 yR JN Wl yX
end Go.Proofs.YtdpkgnmmikebdaaGreat