/- A part of the proof of CostGrows: EvL. No condition. -/
import Derived.LoopN
import Derived.Test.YtdpkgnmmikebdaaGreatGf11
set_option linter.unusedSimpArgs false
set_option linter.unusedVariables false
set_option linter.constructorNameAsVariable false
set_option maxRecDepth 100000
set_option maxHeartbeats 4000000
namespace Go.Proofs.YtdpkgnmmikebdaaGreat
open Go.RowKit
inductive AC where
 |skip
 |reg (l:List AO)
 |dfr (l:List AO) (f:AX) (as:List AX)
 |mix (l:List (Nat×AO))
 |mxl (l:List (Nat×AO))
 |frk (l:List (Nat×AO)) (T:AT)
 |seq (a b:AC)
 |cond (c:AX) (a b:AC)
 |block (id:Nat) (b:AC)
 |loop (b:AC)
 |exit (id:Nat)
 |ret
 |rf (g:AX) (p1 p2:Nat) (asg body:AC)
 |die
inductive AE where
 |normal
 |exit (id:Nat)
 |ret
def AE.to:AE->Exit
 |.normal=> .normal
 |.exit id=> .exit id
 |.ret=> .ret
abbrev bp:=Nat->Option (List Nat×List Nat×List (Nat×Nat)×Option PT)
def WX(n:Nat)(ps:Array Tmp)(g:AX)(x y:AC):Option AC:=match ps with
 |⟨[p1,p2]⟩=>if p1<n/\p2<n then some (.rf g p1 p2 x y) else none
 |_=>none
def mw(P:Program)(n:Nat)(hints:bp)(id:Nat)(ops:Array Oper)(dr:Bool):Option AC:=if dr=true then match hints id with
   |some (fl,pu,pl,none)=>if pq .any ops fl pu (pl.map bu)=true then(match cJ P n ops fl pl with
    |some l=>some (.mix l)
    |none=>(eu P n ops fl pl).map .mxl) else none
   |some (fl,pu,pl,some T)=>if uz .any ops fl pu pl T=true/\pl.all (λp=>p.1==1||p.1==2)=true then(cJ P n ops fl pl).bind λl=>(nN P n ops T).map λt=> .frk l t else none
   |none=>none
  else match dK P n ops ops.toList with
   |some l=>some (.reg l)
   |none=>(CG P n ops ops.toList).map λp=> .dfr p.1 p.2.1 p.2.2
def bN(P:Program)(n:Nat)(hints:bp):Code->Option AC
 |.skip=>some .skip
 |.region id ops dr=>some ((mw P n hints id ops dr).getD .die)
 |.seq a b=>(bN P n hints a).bind λx=>(bN P n hints b).map λy=> .seq x y
 |.cond c a b=>(ax c).bind λc=>(bN P n hints a).bind λx=>(bN P n hints b).map λy=> .cond c x y
 |.block id b=>(bN P n hints b).map (.block id ·)
 |.loop b=>(bN P n hints b).map .loop
 |.exit id=>some (.exit id)
 |.ret=>some .ret
 |.rangeFunc g ps asg body=>(ax g).bind λg=>(bN P n hints asg).bind λx=>(bN P n hints body).bind λy=>WX n ps g x y
 |_=>none
def qW(body:Tr AV->AH->Option (AE×Tr AV×AH)):Nat->Tr AV->AH->Option (AE×Tr AV×AH)
 |0,_,_=>none
 |k+1,e,H=>match body e H with
  |some (.normal,e',H')=>qW body k e' H'
  |some (.exit i,e',H')=>some (.exit i,e',H')
  |some (.ret,e',H')=>some (.ret,e',H')
  |none=>none
def AC.run(call:dE)(lf:Nat):AC->Tr AV->AH->Option (AE×Tr AV×AH)
 |.skip,e,H=>some (.normal,e,H)
 |.reg l,e,H=>match gl call l e H with
  |some (e',H')=>some (.normal,e',H')
  |none=>none
 |.mix l,e,H=>match gm call {H with low:=2^40} l e {H with low:=2^40} with
  |some (e',H')=>some (.normal,e',{H' with low:=min H.low H'.low})
  |none=>if(WW call l e H).all (λb=>(H.at b).isSome)=true then match cZ call false (WW call l e H) H true l e H with
    |some (e',H')=>some (.normal,e',H')
    |none=>none
   else none
 |.mxl l,e,H=>if(WW call l e H).all (λb=>(H.at b).isSome)=true then match cZ call true (WW call l e H) H true l e H with
    |some (e',H')=>some (.normal,e',H')
    |none=>none
   else none
 |.frk _ _,_,_=>none
 |.dfr l f as,e,H=>match gl call l e H with
  |some (e',H')=>if zg e' f as=true then some (.normal,e',H') else none
  |none=>none
 |.seq a b,e,H=>match a.run call lf e H with
  |some (.normal,e',H')=>b.run call lf e' H'
  |some (.exit i,e',H')=>some (.exit i,e',H')
  |some (.ret,e',H')=>some (.ret,e',H')
  |none=>none
 |.cond c a b,e,H=>match c.ev e with
  |some (.b true)=>a.run call lf e H
  |some (.b false)=>b.run call lf e H
  |_=>none
 |.block id b,e,H=>match b.run call lf e H with
  |some (.normal,e',H')=>some (.normal,e',H')
  |some (.exit i,e',H')=>if i=id then some (.normal,e',H') else some (.exit i,e',H')
  |some (.ret,e',H')=>some (.ret,e',H')
  |none=>none
 |.loop b,e,H=>qW (b.run call lf) lf e H
 |.exit id,e,H=>some (.exit id,e,H)
 |.ret,e,H=>some (.ret,e,H)
 |.rf _ _ _ _ _,_,_=>none
 |.die,_,_=>none
section
variable {P:Program} {B n:Nat} {hints:bp} {call:dE}
theorem CH(hm:P.follows .mixedOrders=true)(hC:dD P B call)(lf:Nat):∀(c:Code) (ac:AC) {σ:Sg} {e e':Tr AV} {H H':AH} {a:Act} {w:World} {x:AE} {Q:Exit->Act->World->Prop},bN P n hints c=some ac->ac.run call lf e H=some (x,e',H')->EN n σ e a->HR B σ H w->(∀c a w,¬Q (.panic c) a w)->
  (∀a' w' σ',EN n σ' e' a'->HR B σ' H' w'->Fr B σ σ' H H' w w'->Q x.to a' w')->c.wp P Q a w:=by
 intro c
 induction c with
 |skip=>
  intro ac σ e e' H H' a w x Q hc hr hE h hp hQ
  simp only[bN,Option.some.injEq] at hc
  subst hc
  simp only[AC.run,Option.some.injEq,Prod.mk.injEq] at hr
  obtain⟨rfl,rfl,rfl⟩:=hr
  exact wp_skip (hQ a w σ hE h (Fr.refl h))
 |exit id=>
  intro ac σ e e' H H' a w x Q hc hr hE h hp hQ
  simp only[bN,Option.some.injEq] at hc
  subst hc
  simp only[AC.run,Option.some.injEq,Prod.mk.injEq] at hr
  obtain⟨rfl,rfl,rfl⟩:=hr
  exact wp_exit (hQ a w σ hE h (Fr.refl h))
 |ret=>
  intro ac σ e e' H H' a w x Q hc hr hE h hp hQ
  simp only[bN,Option.some.injEq] at hc
  subst hc
  simp only[AC.run,Option.some.injEq,Prod.mk.injEq] at hr
  obtain⟨rfl,rfl,rfl⟩:=hr
  exact wp_ret (hQ a w σ hE h (Fr.refl h))
 |region id ops dr=>
  intro ac σ e e' H H' a w x Q hc hr hE h hp hQ
  simp only[bN,Option.some.injEq] at hc
  cases hc0:mw P n hints id ops dr with
  |none=>rw[hc0] at hc;subst hc;simp[AC.run] at hr
  |some ac0=>
  rw[hc0] at hc
  have e0:ac0=ac:=hc
  subst e0
  clear hc
  have hc:=hc0
  clear hc0
  unfold mw at hc
  split at hc
  ·rename_i hdr
   subst hdr
   split at hc
   rotate_left
   ·split at hc
    ·obtain⟨l',hl,hc⟩:=Option.bind_eq_some_iff.1 hc
     obtain⟨t',ht,rfl⟩:=Option.map_eq_some_iff.1 hc
     simp[AC.run] at hr
    ·cases hc
   ·cases hc
   rename_i fl pu pl hh
   split at hc
   rotate_left
   ·cases hc
   rename_i hB
   split at hc
   ·rename_i l' hl
    cases hc
    simp only[AC.run] at hr
    split at hr
    ·rename_i e1 H1 hrun
     simp only[Option.some.injEq,Prod.mk.injEq] at hr
     obtain⟨rfl,rfl,rfl⟩:=hr
     exact nG hC hm hB hl hrun hE h hp hQ
    ·split at hr
     rotate_left
     ·cases hr
     rename_i hW
     split at hr
     rotate_left
     ·cases hr
     rename_i e1 H1 hrun
     simp only[Option.some.injEq,Prod.mk.injEq] at hr
     obtain⟨rfl,rfl,rfl⟩:=hr
     exact ij hC hm hB (oo hl) hW hrun hE h hp hQ
   ·obtain⟨l',hl,rfl⟩:=Option.map_eq_some_iff.1 hc
    simp only[AC.run] at hr
    split at hr
    rotate_left
    ·cases hr
    rename_i hW
    split at hr
    rotate_left
    ·cases hr
    rename_i e1 H1 hrun
    simp only[Option.some.injEq,Prod.mk.injEq] at hr
    obtain⟨rfl,rfl,rfl⟩:=hr
    exact ij hC hm hB hl hW hrun hE h hp hQ
  ·rename_i hdr
   have:dr=false:=by simpa using hdr
   subst this
   split at hc
   ·rename_i l' hl
    cases hc
    simp only[AC.run] at hr
    split at hr
    rotate_left
    ·cases hr
    rename_i e1 H1 hrun
    simp only[Option.some.injEq,Prod.mk.injEq] at hr
    obtain⟨rfl,rfl,rfl⟩:=hr
    exact wp_region_list (I8 hC _ _ hl hrun hE h hQ)
   ·obtain⟨⟨l',f,as⟩,hl,rfl⟩:=Option.map_eq_some_iff.1 hc
    simp only[AC.run] at hr
    split at hr
    rotate_left
    ·cases hr
    rename_i e1 H1 hrun
    split at hr
    rotate_left
    ·cases hr
    rename_i hi
    simp only[Option.some.injEq,Prod.mk.injEq] at hr
    obtain⟨rfl,rfl,rfl⟩:=hr
    exact wp_region_list (WH hC hl hrun hi hE h hQ)
 |seq c1 c2 ih1 ih2=>
  intro ac σ e e' H H' a w x Q hc hr hE h hp hQ
  simp only[bN] at hc
  obtain⟨a1,h1,hc⟩:=Option.bind_eq_some_iff.1 hc
  obtain⟨a2,h2,rfl⟩:=Option.map_eq_some_iff.1 hc
  simp only[AC.run] at hr
  refine wp_seq ?_
  split at hr
  ·rename_i e1 H1 hrun
   refine ih1 a1 h1 hrun hE h (λc a w hq=>hp c a w hq) (λa' w' σ' q1 q2 q3=>?_)
   exact ih2 a2 h2 hr q1 q2 hp (λa'' w'' σ'' p1 p2 p3=>hQ a'' w'' σ'' p1 p2 (q3.trans p3 q2))
  ·rename_i i e1 H1 hrun
   simp only[Option.some.injEq,Prod.mk.injEq] at hr
   obtain⟨rfl,rfl,rfl⟩:=hr
   exact ih1 a1 h1 hrun hE h (λc a w hq=>hp c a w hq) (λa' w' σ' q1 q2 q3=>hQ a' w' σ' q1 q2 q3)
  ·rename_i e1 H1 hrun
   simp only[Option.some.injEq,Prod.mk.injEq] at hr
   obtain⟨rfl,rfl,rfl⟩:=hr
   exact ih1 a1 h1 hrun hE h (λc a w hq=>hp c a w hq) (λa' w' σ' q1 q2 q3=>hQ a' w' σ' q1 q2 q3)
  ·cases hr
 |cond cc c1 c2 ih1 ih2=>
  intro ac σ e e' H H' a w x Q hc hr hE h hp hQ
  simp only[bN] at hc
  obtain⟨cx,hcx,hc⟩:=Option.bind_eq_some_iff.1 hc
  obtain⟨a1,h1,hc⟩:=Option.bind_eq_some_iff.1 hc
  obtain⟨a2,h2,rfl⟩:=Option.map_eq_some_iff.1 hc
  simp only[AC.run] at hr
  split at hr
  ·rename_i hv
   exact wp_cond_true (tc hcx hE.er hv) (ih1 a1 h1 hr hE h hp hQ)
  ·rename_i hv
   exact wp_cond_false (tc hcx hE.er hv) (ih2 a2 h2 hr hE h hp hQ)
  ·cases hr
 |block id c1 ih1=>
  intro ac σ e e' H H' a w x Q hc hr hE h hp hQ
  simp only[bN] at hc
  obtain⟨a1,h1,rfl⟩:=Option.map_eq_some_iff.1 hc
  simp only[AC.run] at hr
  refine wp_block ?_
  split at hr
  ·rename_i e1 H1 hrun
   simp only[Option.some.injEq,Prod.mk.injEq] at hr
   obtain⟨rfl,rfl,rfl⟩:=hr
   exact ih1 a1 h1 hrun hE h (λc a w hq=>hp c a w hq) (λa' w' σ' q1 q2 q3=>hQ a' w' σ' q1 q2 q3)
  ·rename_i i e1 H1 hrun
   split at hr
   ·rename_i hi
    simp only[Option.some.injEq,Prod.mk.injEq] at hr
    obtain⟨rfl,rfl,rfl⟩:=hr
    refine ih1 a1 h1 hrun hE h (λc a w hq=>hp c a w hq) (λa' w' σ' q1 q2 q3=>?_)
    show if i=id then Q .normal a' w' else Q (.exit i) a' w'
    rw[if_pos hi]
    exact hQ a' w' σ' q1 q2 q3
   ·rename_i hi
    simp only[Option.some.injEq,Prod.mk.injEq] at hr
    obtain⟨rfl,rfl,rfl⟩:=hr
    refine ih1 a1 h1 hrun hE h (λc a w hq=>hp c a w hq) (λa' w' σ' q1 q2 q3=>?_)
    show if i=id then Q .normal a' w' else Q (.exit i) a' w'
    rw[if_neg hi]
    exact hQ a' w' σ' q1 q2 q3
  ·rename_i e1 H1 hrun
   simp only[Option.some.injEq,Prod.mk.injEq] at hr
   obtain⟨rfl,rfl,rfl⟩:=hr
   exact ih1 a1 h1 hrun hE h (λc a w hq=>hp c a w hq) (λa' w' σ' q1 q2 q3=>hQ a' w' σ' q1 q2 q3)
  ·cases hr
 |loop c1 ih1=>
  intro ac σ e e' H H' a w x Q hc hr hE h hp hQ
  simp only[bN] at hc
  obtain⟨a1,h1,rfl⟩:=Option.map_eq_some_iff.1 hc
  simp only[AC.run] at hr
  refine wp_loop_rounds lf ?_
  have key:∀(k:Nat) {σ:Sg} {e:Tr AV} {H:AH} {a:Act} {w:World},qW (a1.run call lf) k e H=some (x,e',H')->EN n σ e a->HR B σ H w->(∀a' w' σ',EN n σ' e' a'->HR B σ' H' w'->Fr B σ σ' H H' w w'->Q x.to a' w')->Code.rounds P c1 Q k a w:=by
   intro k
   induction k with
   |zero=>intro σ e H a w hr;simp[qW] at hr
   |succ k ihk=>
    intro σ e H a w hr hE h hQ
    simp only[qW] at hr
    rw[rounds_succ]
    split at hr
    ·rename_i e1 H1 hrun
     refine ih1 a1 h1 hrun hE h (λc a w hq=>hp c a w hq) (λa' w' σ' q1 q2 q3=>?_)
     exact ihk hr q1 q2 (λa'' w'' σ'' p1 p2 p3=>hQ a'' w'' σ'' p1 p2 (q3.trans p3 q2))
    ·rename_i i e1 H1 hrun
     simp only[Option.some.injEq,Prod.mk.injEq] at hr
     obtain⟨rfl,rfl,rfl⟩:=hr
     exact ih1 a1 h1 hrun hE h (λc a w hq=>hp c a w hq) (λa' w' σ' q1 q2 q3=>hQ a' w' σ' q1 q2 q3)
    ·rename_i e1 H1 hrun
     simp only[Option.some.injEq,Prod.mk.injEq] at hr
     obtain⟨rfl,rfl,rfl⟩:=hr
     exact ih1 a1 h1 hrun hE h (λc a w hq=>hp c a w hq) (λa' w' σ' q1 q2 q3=>hQ a' w' σ' q1 q2 q3)
    ·cases hr
  exact key lf hr hE h hQ
 |rangeFunc g ps asg body _ _=>
  intro ac σ e e' H H' a w x Q hc hr hE h hp hQ
  simp only[bN] at hc
  obtain⟨g1,_,hc⟩:=Option.bind_eq_some_iff.1 hc
  obtain⟨x1,_,hc⟩:=Option.bind_eq_some_iff.1 hc
  obtain⟨y1,_,hc⟩:=Option.bind_eq_some_iff.1 hc
  unfold WX at hc
  split at hc
  ·split at hc
   ·cases hc;simp[AC.run] at hr
   ·cases hc
  ·cases hc
 |_=>intro ac σ e e' H H' a w x Q hc;simp[bN] at hc
end
end Go.Proofs.YtdpkgnmmikebdaaGreat