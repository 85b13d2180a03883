/- A part of the proof of AllocateNeeds: EvL EvM. No condition. -/
import Derived.LoopN
import Derived.Test.YteopfmnnhlhbmaaHn08
set_option linter.unusedSimpArgs false
set_option linter.unusedVariables false
set_option linter.constructorNameAsVariable false
set_option maxRecDepth 100000
set_option maxHeartbeats 4000000
namespace Go.Proofs.Yteopfmnnhlhbmaa
open Go.RowKit
inductive AC where
 |skip
 |reg (l:List AO)
 |mix (l:List (Nat×AO))
 |frk (l:List (Nat×AO)) (T:AT)
 |seq (a b:AC)
 |cond (c:AX) (a b:AC)
 |block (id:Nat) (b:AC)
 |loop (b:AC)
 |exit (id:Nat)
 |ret
 |rf (g:AX) (p1 p2:Nat) (asg body:AC)
 |die
inductive AE where
 |normal
 |exit (id:Nat)
 |ret
def AE.to:AE->Exit
 |.normal=> .normal
 |.exit id=> .exit id
 |.ret=> .ret
abbrev bz:=Nat->Option (List Nat×List Nat×List (Nat×Nat)×Option PT)
def Rz(n:Nat)(ps:Array Tmp)(g:AX)(x y:AC):Option AC:=match ps with
 |⟨[p1,p2]⟩=>if p1<n/\p2<n then some (.rf g p1 p2 x y) else none
 |_=>none
def pY(P:Program)(n:Nat)(hints:bz)(id:Nat)(ops:Array Oper)(dr:Bool):Option AC:=if dr=true then match hints id with
   |some (fl,pu,pl,none)=>if u5 .any ops fl pu (pl.map eo)=true then(eV P n ops fl pl).map .mix else none
   |some (fl,pu,pl,some T)=>if tW .any ops fl pu pl T=true/\pl.all (λp=>p.1==1||p.1==2)=true then(eV P n ops fl pl).bind λl=>(s6 P n ops T).map λt=> .frk l t else none
   |none=>none
  else(dZ P n ops ops.toList).map .reg
def cf(P:Program)(n:Nat)(hints:bz):Code->Option AC
 |.skip=>some .skip
 |.region id ops dr=>some ((pY P n hints id ops dr).getD .die)
 |.seq a b=>(cf P n hints a).bind λx=>(cf P n hints b).map λy=> .seq x y
 |.cond c a b=>(aO c).bind λc=>(cf P n hints a).bind λx=>(cf P n hints b).map λy=> .cond c x y
 |.block id b=>(cf P n hints b).map (.block id ·)
 |.loop b=>(cf P n hints b).map .loop
 |.exit id=>some (.exit id)
 |.ret=>some .ret
 |.rangeFunc g ps asg body=>(aO g).bind λg=>(cf P n hints asg).bind λx=>(cf P n hints body).bind λy=>Rz n ps g x y
 |_=>none
def qu(body:Tr AV->AH->Option (AE×Tr AV×AH)):Nat->Tr AV->AH->Option (AE×Tr AV×AH)
 |0,_,_=>none
 |k+1,e,H=>match body e H with
  |some (.normal,e',H')=>qu body k e' H'
  |some (.exit i,e',H')=>some (.exit i,e',H')
  |some (.ret,e',H')=>some (.ret,e',H')
  |none=>none
def AC.run(call:jI)(lf:Nat):AC->Tr AV->AH->Option (AE×Tr AV×AH)
 |.skip,e,H=>some (.normal,e,H)
 |.reg l,e,H=>match jP call l e H with
  |some (e',H')=>some (.normal,e',H')
  |none=>none
 |.mix l,e,H=>match fL call {H with low:=2^40} l e {H with low:=2^40} with
  |some (e',H')=>some (.normal,e',{H' with low:=min H.low H'.low})
  |none=>none
 |.frk _ _,_,_=>none
 |.seq a b,e,H=>match a.run call lf e H with
  |some (.normal,e',H')=>b.run call lf e' H'
  |some (.exit i,e',H')=>some (.exit i,e',H')
  |some (.ret,e',H')=>some (.ret,e',H')
  |none=>none
 |.cond c a b,e,H=>match c.ev e with
  |some (.b true)=>a.run call lf e H
  |some (.b false)=>b.run call lf e H
  |_=>none
 |.block id b,e,H=>match b.run call lf e H with
  |some (.normal,e',H')=>some (.normal,e',H')
  |some (.exit i,e',H')=>if i=id then some (.normal,e',H') else some (.exit i,e',H')
  |some (.ret,e',H')=>some (.ret,e',H')
  |none=>none
 |.loop b,e,H=>qu (b.run call lf) lf e H
 |.exit id,e,H=>some (.exit id,e,H)
 |.ret,e,H=>some (.ret,e,H)
 |.rf _ _ _ _ _,_,_=>none
 |.die,_,_=>none
section
variable {P:Program} {B n:Nat} {hints:bz} {call:jI}
theorem BJ(hm:P.follows .mixedOrders=true)(hC:kg P B call)(lf:Nat):∀(c:Code) (ac:AC) {σ:Sg} {e e':Tr AV} {H H':AH} {a:Act} {w:World} {x:AE} {Q:Exit->Act->World->Prop},cf P n hints c=some ac->ac.run call lf e H=some (x,e',H')->EN n σ e a->HR B σ H w->(∀c a w,¬Q (.panic c) a w)->
  (∀a' w' σ',EN n σ' e' a'->HR B σ' H' w'->Fr B σ σ' H H' w w'->Q x.to a' w')->c.wp P Q a w:=by
 intro c
 induction c with
 |skip=>
  intro ac σ e e' H H' a w x Q hc hr hE h hp hQ
  simp only[cf,Option.some.injEq] at hc
  subst hc
  simp only[AC.run,Option.some.injEq,Prod.mk.injEq] at hr
  obtain⟨rfl,rfl,rfl⟩:=hr
  exact wp_skip (hQ a w σ hE h (Fr.refl h))
 |exit id=>
  intro ac σ e e' H H' a w x Q hc hr hE h hp hQ
  simp only[cf,Option.some.injEq] at hc
  subst hc
  simp only[AC.run,Option.some.injEq,Prod.mk.injEq] at hr
  obtain⟨rfl,rfl,rfl⟩:=hr
  exact wp_exit (hQ a w σ hE h (Fr.refl h))
 |ret=>
  intro ac σ e e' H H' a w x Q hc hr hE h hp hQ
  simp only[cf,Option.some.injEq] at hc
  subst hc
  simp only[AC.run,Option.some.injEq,Prod.mk.injEq] at hr
  obtain⟨rfl,rfl,rfl⟩:=hr
  exact wp_ret (hQ a w σ hE h (Fr.refl h))
 |region id ops dr=>
  intro ac σ e e' H H' a w x Q hc hr hE h hp hQ
  simp only[cf,Option.some.injEq] at hc
  cases hc0:pY P n hints id ops dr with
  |none=>rw[hc0] at hc;subst hc;simp[AC.run] at hr
  |some ac0=>
  rw[hc0] at hc
  have e0:ac0=ac:=hc
  subst e0
  clear hc
  have hc:=hc0
  clear hc0
  unfold pY at hc
  split at hc
  ·rename_i hdr
   subst hdr
   split at hc
   rotate_left
   ·split at hc
    ·obtain⟨l',hl,hc⟩:=Option.bind_eq_some_iff.1 hc
     obtain⟨t',ht,rfl⟩:=Option.map_eq_some_iff.1 hc
     simp[AC.run] at hr
    ·cases hc
   ·cases hc
   rename_i fl pu pl hh
   split at hc
   rotate_left
   ·cases hc
   rename_i hB
   obtain⟨l',hl,rfl⟩:=Option.map_eq_some_iff.1 hc
   simp only[AC.run] at hr
   split at hr
   rotate_left
   ·cases hr
   rename_i e1 H1 hrun
   simp only[Option.some.injEq,Prod.mk.injEq] at hr
   obtain⟨rfl,rfl,rfl⟩:=hr
   exact mT hC hm hB hl hrun hE h hp hQ
  ·rename_i hdr
   obtain⟨l',hl,rfl⟩:=Option.map_eq_some_iff.1 hc
   simp only[AC.run] at hr
   split at hr
   rotate_left
   ·cases hr
   rename_i e1 H1 hrun
   simp only[Option.some.injEq,Prod.mk.injEq] at hr
   obtain⟨rfl,rfl,rfl⟩:=hr
   have:dr=false:=by simpa using hdr
   subst this
   exact wp_region_list (rS hC _ _ hl hrun hE h hQ)
 |seq c1 c2 ih1 ih2=>
  intro ac σ e e' H H' a w x Q hc hr hE h hp hQ
  simp only[cf] at hc
  obtain⟨a1,h1,hc⟩:=Option.bind_eq_some_iff.1 hc
  obtain⟨a2,h2,rfl⟩:=Option.map_eq_some_iff.1 hc
  simp only[AC.run] at hr
  refine wp_seq ?_
  split at hr
  ·rename_i e1 H1 hrun
   refine ih1 a1 h1 hrun hE h (λc a w hq=>hp c a w hq) (λa' w' σ' q1 q2 q3=>?_)
   exact ih2 a2 h2 hr q1 q2 hp (λa'' w'' σ'' p1 p2 p3=>hQ a'' w'' σ'' p1 p2 (q3.trans p3 q2))
  ·rename_i i e1 H1 hrun
   simp only[Option.some.injEq,Prod.mk.injEq] at hr
   obtain⟨rfl,rfl,rfl⟩:=hr
   exact ih1 a1 h1 hrun hE h (λc a w hq=>hp c a w hq) (λa' w' σ' q1 q2 q3=>hQ a' w' σ' q1 q2 q3)
  ·rename_i e1 H1 hrun
   simp only[Option.some.injEq,Prod.mk.injEq] at hr
   obtain⟨rfl,rfl,rfl⟩:=hr
   exact ih1 a1 h1 hrun hE h (λc a w hq=>hp c a w hq) (λa' w' σ' q1 q2 q3=>hQ a' w' σ' q1 q2 q3)
  ·cases hr
 |cond cc c1 c2 ih1 ih2=>
  intro ac σ e e' H H' a w x Q hc hr hE h hp hQ
  simp only[cf] at hc
  obtain⟨cx,hcx,hc⟩:=Option.bind_eq_some_iff.1 hc
  obtain⟨a1,h1,hc⟩:=Option.bind_eq_some_iff.1 hc
  obtain⟨a2,h2,rfl⟩:=Option.map_eq_some_iff.1 hc
  simp only[AC.run] at hr
  split at hr
  ·rename_i hv
   exact wp_cond_true (qP hcx hE.er hv) (ih1 a1 h1 hr hE h hp hQ)
  ·rename_i hv
   exact wp_cond_false (qP hcx hE.er hv) (ih2 a2 h2 hr hE h hp hQ)
  ·cases hr
 |block id c1 ih1=>
  intro ac σ e e' H H' a w x Q hc hr hE h hp hQ
  simp only[cf] at hc
  obtain⟨a1,h1,rfl⟩:=Option.map_eq_some_iff.1 hc
  simp only[AC.run] at hr
  refine wp_block ?_
  split at hr
  ·rename_i e1 H1 hrun
   simp only[Option.some.injEq,Prod.mk.injEq] at hr
   obtain⟨rfl,rfl,rfl⟩:=hr
   exact ih1 a1 h1 hrun hE h (λc a w hq=>hp c a w hq) (λa' w' σ' q1 q2 q3=>hQ a' w' σ' q1 q2 q3)
  ·rename_i i e1 H1 hrun
   split at hr
   ·rename_i hi
    simp only[Option.some.injEq,Prod.mk.injEq] at hr
    obtain⟨rfl,rfl,rfl⟩:=hr
    refine ih1 a1 h1 hrun hE h (λc a w hq=>hp c a w hq) (λa' w' σ' q1 q2 q3=>?_)
    show if i=id then Q .normal a' w' else Q (.exit i) a' w'
    rw[if_pos hi]
    exact hQ a' w' σ' q1 q2 q3
   ·rename_i hi
    simp only[Option.some.injEq,Prod.mk.injEq] at hr
    obtain⟨rfl,rfl,rfl⟩:=hr
    refine ih1 a1 h1 hrun hE h (λc a w hq=>hp c a w hq) (λa' w' σ' q1 q2 q3=>?_)
    show if i=id then Q .normal a' w' else Q (.exit i) a' w'
    rw[if_neg hi]
    exact hQ a' w' σ' q1 q2 q3
  ·rename_i e1 H1 hrun
   simp only[Option.some.injEq,Prod.mk.injEq] at hr
   obtain⟨rfl,rfl,rfl⟩:=hr
   exact ih1 a1 h1 hrun hE h (λc a w hq=>hp c a w hq) (λa' w' σ' q1 q2 q3=>hQ a' w' σ' q1 q2 q3)
  ·cases hr
 |loop c1 ih1=>
  intro ac σ e e' H H' a w x Q hc hr hE h hp hQ
  simp only[cf] at hc
  obtain⟨a1,h1,rfl⟩:=Option.map_eq_some_iff.1 hc
  simp only[AC.run] at hr
  refine wp_loop_rounds lf ?_
  have key:∀(k:Nat) {σ:Sg} {e:Tr AV} {H:AH} {a:Act} {w:World},qu (a1.run call lf) k e H=some (x,e',H')->EN n σ e a->HR B σ H w->(∀a' w' σ',EN n σ' e' a'->HR B σ' H' w'->Fr B σ σ' H H' w w'->Q x.to a' w')->Code.rounds P c1 Q k a w:=by
   intro k
   induction k with
   |zero=>intro σ e H a w hr;simp[qu] at hr
   |succ k ihk=>
    intro σ e H a w hr hE h hQ
    simp only[qu] at hr
    rw[rounds_succ]
    split at hr
    ·rename_i e1 H1 hrun
     refine ih1 a1 h1 hrun hE h (λc a w hq=>hp c a w hq) (λa' w' σ' q1 q2 q3=>?_)
     exact ihk hr q1 q2 (λa'' w'' σ'' p1 p2 p3=>hQ a'' w'' σ'' p1 p2 (q3.trans p3 q2))
    ·rename_i i e1 H1 hrun
     simp only[Option.some.injEq,Prod.mk.injEq] at hr
     obtain⟨rfl,rfl,rfl⟩:=hr
     exact ih1 a1 h1 hrun hE h (λc a w hq=>hp c a w hq) (λa' w' σ' q1 q2 q3=>hQ a' w' σ' q1 q2 q3)
    ·rename_i e1 H1 hrun
     simp only[Option.some.injEq,Prod.mk.injEq] at hr
     obtain⟨rfl,rfl,rfl⟩:=hr
     exact ih1 a1 h1 hrun hE h (λc a w hq=>hp c a w hq) (λa' w' σ' q1 q2 q3=>hQ a' w' σ' q1 q2 q3)
    ·cases hr
  exact key lf hr hE h hQ
 |rangeFunc g ps asg body _ _=>
  intro ac σ e e' H H' a w x Q hc hr hE h hp hQ
  simp only[cf] at hc
  obtain⟨g1,_,hc⟩:=Option.bind_eq_some_iff.1 hc
  obtain⟨x1,_,hc⟩:=Option.bind_eq_some_iff.1 hc
  obtain⟨y1,_,hc⟩:=Option.bind_eq_some_iff.1 hc
  unfold Rz at hc
  split at hc
  ·split at hc
   ·cases hc;simp[AC.run] at hr
   ·cases hc
  ·cases hc
 |_=>intro ac σ e e' H H' a w x Q hc;simp[cf] at hc
end
end Go.Proofs.Yteopfmnnhlhbmaa
namespace Go.Proofs.Yteopfmnnhlhbmaa
open Go.RowKit
structure AF where
 nt:Nat
 code:AC
 res:List AP
def km(P:Program):List ResultVar->Option (List AP)
 |[]=>some []
 |.tmp t::l=>(km P l).map λr=> .mv (.t t)::r
 |.cell t ty::l=>(P.info? ty).bind λi=>(P.underlying ty).bind λd=>(km P l).map λr=> .ld i.size d.isRow (.t t)::r
def bF(P:Program)(hints:bz)(f:FuncId):Option AF:=(P.funcs[f]?).bind λfn=>fn.body.bind λc=>(cf P fn.ntmps hints c).bind λac=>(km P fn.results.toList).bind λr=>
 if(fn.name== "runtime.NumGoroutine")=false/\fn.ntmps<2^40 then some ⟨fn.ntmps,ac,r⟩ else none
def dv(e:Tr AV)(H:AH):List AP->Option (List AV)
 |[]=>some []
 |x::l=>match x.run e H with
  |some (v,_)=>(dv e H l).map (v:: ·)
  |none=>none
def bB:List AV->AV
 |[v]=>v
 |l=> .tup l
def AE.ends:AE->Bool
 |.exit _=>false
 |_=>true
def kE(T:FuncId->Option AF)(lf:Nat):Nat->jI
 |0=>λ_ _ _=>none
 |k+1=>λf args H=>match T f with
  |some F=>if args.length<=F.nt then match F.code.run (kE T lf k) lf (eB args) H with
    |some (x,e,H')=>if x.ends=true then match dv e H' F.res with
      |some l=>some (bB l,H')
      |none=>none
     else none
    |none=>none
   else none
  |none=>none
section
variable {P:Program} {B n:Nat} {σ:Sg} {e:Tr AV} {a:Act} {H:AH} {w:World}
def dh(a:Act):ResultVar->Sem Value
 |.tmp t=>pure (a.tmps.getD t undef)
 |.cell ad t=>do loadVar t (<-asAddr (a.tmps.getD ad undef))
theorem gv(hE:ER σ e a)(h:HR B σ H w):∀(l:List ResultVar) (l':List AP) (vs:List AV),km P l=some l'->dv e H l'=some vs->
  ∃us:List Value,(l.mapM (dh a)).run P w= .ok us w/\bw σ vs us
 |[],l',vs,hl,hr=>by
  simp only[km,Option.some.injEq] at hl
  subst hl
  simp only[dv,Option.some.injEq] at hr
  subst hr
  exact⟨[],rfl,bw.nil⟩
 |.tmp t::l,l',vs,hl,hr=>by
  simp only[km] at hl
  obtain⟨r,h1,rfl⟩:=Option.map_eq_some_iff.1 hl
  simp only[dv,AP.run] at hr
  split at hr
  rotate_left
  ·cases hr
  rename_i v H1 hv
  obtain⟨vs',h2,rfl⟩:=Option.map_eq_some_iff.1 hr
  obtain⟨v',h3,h4⟩:=Option.map_eq_some_iff.1 hv
  cases h4
  obtain⟨us,g1,g2⟩:=gv hE h l r vs' h1 h2
  refine⟨a.tmps.getD t undef::us,?_,g2.cons (hE.get t v h3)⟩
  rw[List.mapM_cons]
  simp only[dh,Sem.run_bind,Sem.run_pure,Result.andThen_ok,g1]
 |.cell t ty::l,l',vs,hl,hr=>by
  simp only[km] at hl
  obtain⟨i,hi,hl⟩:=Option.bind_eq_some_iff.1 hl
  obtain⟨d,hd,hl⟩:=Option.bind_eq_some_iff.1 hl
  obtain⟨r,h1,rfl⟩:=Option.map_eq_some_iff.1 hl
  simp only[dv] at hr
  split at hr
  rotate_left
  ·cases hr
  rename_i v H1 hv
  obtain⟨vs',h2,rfl⟩:=Option.map_eq_some_iff.1 hr
  obtain⟨us,g1,g2⟩:=gv hE h l r vs' h1 h2
  let o:Oper:={(default:Oper) with op:= .load ty (.tmp t)}
  obtain⟨_,n1,row1,x1,c,u,heq,q34,q5,q6⟩:=Co (o:=o) (x:= .tmp t) rfl rfl hi hd hE h hv
  obtain⟨cc,off,hev⟩:∃cc off,a.tmps.getD t undef= .pointer (some ⟨cc,off,none⟩):=by
   cases heq
   rcases q34 with⟨b',off',oc,q3,q4⟩|⟨_,_,_,_,q3,_⟩
   ·have h1:=hE.get t _ q3
    generalize a.tmps.getD t undef=y at h1
    cases h1
    exact⟨_,_,rfl⟩
   ·have h1:=hE.get t _ q3
    generalize a.tmps.getD t undef=y at h1
    cases h1
    exact⟨_,_,rfl⟩
  have hx:=q6 w (λ_=>rfl)
  have hx2:((loadVar ty ⟨cc,off,none⟩).run P w).andThen (λv w=> .ok (.value v) w)=(.ok (.value u) w:Result Next):=by
   have e1:a.eval (.tmp t)= .pointer (some ⟨cc,off,none⟩):=hev
   unfold execOp at hx
   simp only[o,e1,Instr.loadAt,Instr.sureAddr,Sem.run_bind,Sem.run_pure,Result.andThen_ok] at hx
   exact hx
  have hload:(loadVar ty ⟨cc,off,none⟩).run P w= .ok u w:=by
   generalize (loadVar ty ⟨cc,off,none⟩).run P w=r at hx2
   cases r<;>simp[Result.andThen] at hx2
   obtain⟨rfl,rfl⟩:=hx2
   rfl
  refine⟨u::us,?_,g2.cons q5⟩
  rw[List.mapM_cons]
  simp only[dh,hev,asAddr,Sem.run_bind,Sem.run_pure,Result.andThen_ok,hload,g1]
theorem ij{args:List AV}{args':Array Value}{nt:Nat}(h:bw σ args args'.toList)(hn:args.length<=nt)(hs:nt<2^40):
  EN nt σ (eB args) {tmps:=args'++Array.replicate (nt-args'.size) undef,defers:=[]}:=by
 have hl:args.length=args'.size:=by have:=h.1;rwa [Array.length_toList] at this
 refine⟨⟨rfl,λt v hv=>?_⟩,by simp;omega,hs⟩
 rw[fh args t (by omega)] at hv
 have hlt:t<args.length:=by
  by_cases hh:t<args.length
  ·exact hh
  ·rw[List.getElem?_eq_none (by omega)] at hv;cases hv
 have:=h.2 t v hv
 rw[List.getD_eq_getElem?_getD,Array.getElem?_toList] at this
 rw[Array.getD_eq_getD_getElem?,Array.getElem?_append_left (by omega)]
 exact this
def zR(P:Program)(T:FuncId->Option AF):Prop:=∀f F,T f=some F->∃hints,bF P hints f=some F
theorem ow(B:Nat)(hm:P.follows .mixedOrders=true){T:FuncId->Option AF}(hT:zR P T)(lf:Nat):∀k,kg P B (kE T lf k)
 |0=>⟨λhr=>by simp[kE] at hr,λhr=>by simp[kE] at hr⟩
 |k+1=>by
  have ih:=ow B hm hT lf k
  have open_:∀{g:FuncId} {args:List AV} {H H':AH} {v:AV},kE T lf (k+1) g args H=some (v,H')->
    ∃fn c ac r hints x e l,P.funcs[g]? =some fn/\(fn.name== "runtime.NumGoroutine")=false/\fn.body=some c/\fn.ntmps<2^40/\cf P fn.ntmps hints c=some ac/\km P fn.results.toList=some r/\args.length<=fn.ntmps/\
     ac.run (kE T lf k) lf (eB args) H=some (x,e,H')/\x.ends=true/\dv e H' r=some l/\v=bB l:=by
   intro g args H H' v hr
   simp only[kE] at hr
   split at hr
   rotate_left
   ·cases hr
   rename_i F hF
   obtain⟨hints,hF⟩:=hT _ _ hF
   unfold bF at hF
   obtain⟨fn,h1,hF⟩:=Option.bind_eq_some_iff.1 hF
   obtain⟨c,h2,hF⟩:=Option.bind_eq_some_iff.1 hF
   obtain⟨ac,h3,hF⟩:=Option.bind_eq_some_iff.1 hF
   obtain⟨r,h4,hF⟩:=Option.bind_eq_some_iff.1 hF
   split at hF
   rotate_left
   ·cases hF
   rename_i hq
   cases hF
   split at hr
   rotate_left
   ·cases hr
   rename_i hlen
   split at hr
   rotate_left
   ·cases hr
   rename_i x e H1 hrun
   split at hr
   rotate_left
   ·cases hr
   rename_i hends
   split at hr
   rotate_left
   ·cases hr
   rename_i l hres
   cases hr
   exact⟨fn,c,ac,r,hints,x,e,l,h1,hq.1,h2,hq.2,h3,h4,hlen,hrun,hends,hres,rfl⟩
  refine⟨λhr=>?_,λ{g args H H' v} hr σ w args' h hargs=>?_⟩
  ·obtain⟨fn,c,ac,r,hints,x,e,l,h1,h2,h3,_⟩:=open_ hr
   exact⟨fn,h1,h2,by rw[h3];rfl⟩
  ·obtain⟨fn,c,ac,r,hints,x,e,l,h1,h2,h3,h4,h5,h6,h7,h8,h9,h10,rfl⟩:=open_ hr
   refine calls_of_wp h1 h3 ?_
   refine BJ hm ih lf c ac h5 h8 (ij hargs h7 h4) h (λc a w hq=>hq.2) (λa' w' σ' q1 q2 q3=>?_)
   obtain⟨us,g1,g2⟩:=gv q1.er q2 _ _ _ h6 h10
   have hres:∃u,(results fn a'.tmps).run P w'= .ok u w'/\VR σ' (bB l) u:=by
    have hsem:results fn a'.tmps=(do let vs<-fn.results.mapM (dh a');pure (if h:vs.size=1 then vs[0] else .tuple vs)):=by
     unfold results
     rfl
    have hrun:(fn.results.mapM (dh a')).run P w'= .ok us.toArray w':=by
     simp[Array.mapM_eq_mapM_toList,g1]
    rw[hsem]
    simp only[Sem.run_bind,hrun,Result.andThen_ok,Sem.run_pure]
    refine⟨_,rfl,?_⟩
    have hn:=g2.1
    match l,us,g2,hn with
    |[v],[u],g2,_=>exact g2.2 0 v rfl
    |[],[],_,_=>exact bw.nil.tup
    |v1::v2::l,u1::u2::us,g2,_=>exact g2.tup
   obtain⟨u,k1,k2⟩:=hres
   have post:a'.defers=[]/\∃v,(results fn a'.tmps).run P w'= .ok v w'/\rA B σ H H' w (bB l) (.returned v) w':=⟨q1.er.df,u,k1,σ',k2,q2,q3⟩
   cases x with
   |normal=>exact post
   |ret=>exact post
   |exit i=>simp[AE.ends] at h9
theorem HR.emptyAt{φ:Fz}{B:Nat}(w:World)(hB:B<=w.heap.size)(hφ:∀c fs,φ c=some fs->∃cs t fr,w.heap[c]? =some (.cells cs t fr)/\fZ fs cs):HR B ⟨λ_=>none,λ_=>False,φ⟩ ⟨.nil,0,2^40,λ_=>none⟩ w:=
 ⟨λ_ _=>rfl,λ_ _ h=>h,λb _=>by simp[AH.at,Tr.get],by simp,hB,λb x hx=>by simp[AH.at,Tr.get] at hx,λ_ h=>h.elim,λb x c o hx=>by simp[AH.at,Tr.get] at hx,λb x hx=>by simp[AH.at,Tr.get] at hx,
  λb b' x x' c o o' hx=>by simp[AH.at,Tr.get] at hx,λc fs hc=>by
   obtain⟨cs,t,fr,h1,h2⟩:=hφ c fs hc
   exact⟨cs,t,fr,h1,h2,λb x o hx=>by simp[AH.at,Tr.get] at hx⟩,λr x hr=>by cases hr⟩
theorem HR.empty{φ:Fz}(w:World)(hφ:∀c fs,φ c=some fs->∃cs t fr,w.heap[c]? =some (.cells cs t fr)/\fZ fs cs):HR w.heap.size ⟨λ_=>none,λ_=>False,φ⟩ ⟨.nil,0,2^40,λ_=>none⟩ w:=HR.emptyAt w (Nat.le_refl _) hφ
end
end Go.Proofs.Yteopfmnnhlhbmaa