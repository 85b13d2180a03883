/- A part of the proof of OptimizerOptimizes: EvL EvM EvN EvO EvP EvQ EvR. No condition. -/
import Derived.Lib.LazyBuf
import Derived.LoopN
import Derived.Test.YtidhfimbnjaceaaGreatGq08
set_option linter.unusedSimpArgs false
set_option linter.unusedVariables false
set_option linter.constructorNameAsVariable false
set_option maxRecDepth 100000
set_option maxHeartbeats 4000000
namespace Go.Proofs.YtidhfimbnjaceaaGreat
open Go.RowKit
inductive AC where
 |skip
 |reg (l:List AO)
 |mix (l:List (Nat×AO))
 |frk (l:List (Nat×AO)) (T:AT)
 |seq (a b:AC)
 |cond (c:AX) (a b:AC)
 |block (id:Nat) (b:AC)
 |loop (b:AC)
 |exit (id:Nat)
 |ret
inductive AE where
 |normal
 |exit (id:Nat)
 |ret
def AE.to:AE->Exit
 |.normal=> .normal
 |.exit id=> .exit id
 |.ret=> .ret
abbrev cU:=Nat->Option (List Nat×List Nat×List (Nat×Nat)×Option PT)
def cT(P:Program)(n:Nat)(hints:cU):Code->Option AC
 |.skip=>some .skip
 |.region id ops dr=>if dr=true then match hints id with
   |some (fl,pu,pl,none)=>if qA .any ops fl pu (pl.map fv)=true then(dV P n ops fl pl).map .mix else none
   |some (fl,pu,pl,some T)=>if qM .any ops fl pu pl T=true/\pl.all (λp=>p.1==1||p.1==2)=true then(dV P n ops fl pl).bind λl=>(re P n ops T).map λt=> .frk l t else none
   |none=>none
  else(jl P n ops ops.toList).map .reg
 |.seq a b=>(cT P n hints a).bind λx=>(cT P n hints b).map λy=> .seq x y
 |.cond c a b=>(bv c).bind λc=>(cT P n hints a).bind λx=>(cT P n hints b).map λy=> .cond c x y
 |.block id b=>(cT P n hints b).map (.block id ·)
 |.loop b=>(cT P n hints b).map .loop
 |.exit id=>some (.exit id)
 |.ret=>some .ret
 |_=>none
def qC(body:Tr AV->AH->Option (AE×Tr AV×AH)):Nat->Tr AV->AH->Option (AE×Tr AV×AH)
 |0,_,_=>none
 |k+1,e,H=>match body e H with
  |some (.normal,e',H')=>qC body k e' H'
  |some (.exit i,e',H')=>some (.exit i,e',H')
  |some (.ret,e',H')=>some (.ret,e',H')
  |none=>none
def AC.run(call:km)(lf:Nat):AC->Tr AV->AH->Option (AE×Tr AV×AH)
 |.skip,e,H=>some (.normal,e,H)
 |.reg l,e,H=>match kp call l e H with
  |some (e',H')=>some (.normal,e',H')
  |none=>none
 |.mix l,e,H=>match gS call {H with low:=2^40} l e {H with low:=2^40} with
  |some (e',H')=>some (.normal,e',{H' with low:=min H.low H'.low})
  |none=>none
 |.frk _ _,_,_=>none
 |.seq a b,e,H=>match a.run call lf e H with
  |some (.normal,e',H')=>b.run call lf e' H'
  |some (.exit i,e',H')=>some (.exit i,e',H')
  |some (.ret,e',H')=>some (.ret,e',H')
  |none=>none
 |.cond c a b,e,H=>match c.ev e with
  |some (.b true)=>a.run call lf e H
  |some (.b false)=>b.run call lf e H
  |_=>none
 |.block id b,e,H=>match b.run call lf e H with
  |some (.normal,e',H')=>some (.normal,e',H')
  |some (.exit i,e',H')=>if i=id then some (.normal,e',H') else some (.exit i,e',H')
  |some (.ret,e',H')=>some (.ret,e',H')
  |none=>none
 |.loop b,e,H=>qC (b.run call lf) lf e H
 |.exit id,e,H=>some (.exit id,e,H)
 |.ret,e,H=>some (.ret,e,H)
section
variable {P:Program} {B n:Nat} {hints:cU} {call:km}
theorem zZ(hm:P.follows .mixedOrders=true)(hC:kK P B call)(lf:Nat):∀(c:Code) (ac:AC) {σ:Sg} {e e':Tr AV} {H H':AH} {a:Act} {w:World} {x:AE} {Q:Exit->Act->World->Prop},cT P n hints c=some ac->ac.run call lf e H=some (x,e',H')->EN n σ e a->HR B σ H w->(∀c a w,¬Q (.panic c) a w)->
  (∀a' w' σ',EN n σ' e' a'->HR B σ' H' w'->Fr B σ σ' H H' w w'->Q x.to a' w')->c.wp P Q a w:=by
 intro c
 induction c with
 |skip=>
  intro ac σ e e' H H' a w x Q hc hr hE h hp hQ
  simp only[cT,Option.some.injEq] at hc
  subst hc
  simp only[AC.run,Option.some.injEq,Prod.mk.injEq] at hr
  obtain⟨rfl,rfl,rfl⟩:=hr
  exact wp_skip (hQ a w σ hE h (Fr.refl h))
 |exit id=>
  intro ac σ e e' H H' a w x Q hc hr hE h hp hQ
  simp only[cT,Option.some.injEq] at hc
  subst hc
  simp only[AC.run,Option.some.injEq,Prod.mk.injEq] at hr
  obtain⟨rfl,rfl,rfl⟩:=hr
  exact wp_exit (hQ a w σ hE h (Fr.refl h))
 |ret=>
  intro ac σ e e' H H' a w x Q hc hr hE h hp hQ
  simp only[cT,Option.some.injEq] at hc
  subst hc
  simp only[AC.run,Option.some.injEq,Prod.mk.injEq] at hr
  obtain⟨rfl,rfl,rfl⟩:=hr
  exact wp_ret (hQ a w σ hE h (Fr.refl h))
 |region id ops dr=>
  intro ac σ e e' H H' a w x Q hc hr hE h hp hQ
  simp only[cT] at hc
  split at hc
  ·rename_i hdr
   subst hdr
   split at hc
   rotate_left
   ·split at hc
    ·obtain⟨l',hl,hc⟩:=Option.bind_eq_some_iff.1 hc
     obtain⟨t',ht,rfl⟩:=Option.map_eq_some_iff.1 hc
     simp[AC.run] at hr
    ·cases hc
   ·cases hc
   rename_i fl pu pl hh
   split at hc
   rotate_left
   ·cases hc
   rename_i hB
   obtain⟨l',hl,rfl⟩:=Option.map_eq_some_iff.1 hc
   simp only[AC.run] at hr
   split at hr
   rotate_left
   ·cases hr
   rename_i e1 H1 hrun
   simp only[Option.some.injEq,Prod.mk.injEq] at hr
   obtain⟨rfl,rfl,rfl⟩:=hr
   exact nd hC hm hB hl hrun hE h hp hQ
  ·rename_i hdr
   obtain⟨l',hl,rfl⟩:=Option.map_eq_some_iff.1 hc
   simp only[AC.run] at hr
   split at hr
   rotate_left
   ·cases hr
   rename_i e1 H1 hrun
   simp only[Option.some.injEq,Prod.mk.injEq] at hr
   obtain⟨rfl,rfl,rfl⟩:=hr
   have:dr=false:=by simpa using hdr
   subst this
   exact wp_region_list (sv hC _ _ hl hrun hE h hQ)
 |seq c1 c2 ih1 ih2=>
  intro ac σ e e' H H' a w x Q hc hr hE h hp hQ
  simp only[cT] at hc
  obtain⟨a1,h1,hc⟩:=Option.bind_eq_some_iff.1 hc
  obtain⟨a2,h2,rfl⟩:=Option.map_eq_some_iff.1 hc
  simp only[AC.run] at hr
  refine wp_seq ?_
  split at hr
  ·rename_i e1 H1 hrun
   refine ih1 a1 h1 hrun hE h (λc a w hq=>hp c a w hq) (λa' w' σ' q1 q2 q3=>?_)
   exact ih2 a2 h2 hr q1 q2 hp (λa'' w'' σ'' p1 p2 p3=>hQ a'' w'' σ'' p1 p2 (q3.trans p3 q2))
  ·rename_i i e1 H1 hrun
   simp only[Option.some.injEq,Prod.mk.injEq] at hr
   obtain⟨rfl,rfl,rfl⟩:=hr
   exact ih1 a1 h1 hrun hE h (λc a w hq=>hp c a w hq) (λa' w' σ' q1 q2 q3=>hQ a' w' σ' q1 q2 q3)
  ·rename_i e1 H1 hrun
   simp only[Option.some.injEq,Prod.mk.injEq] at hr
   obtain⟨rfl,rfl,rfl⟩:=hr
   exact ih1 a1 h1 hrun hE h (λc a w hq=>hp c a w hq) (λa' w' σ' q1 q2 q3=>hQ a' w' σ' q1 q2 q3)
  ·cases hr
 |cond cc c1 c2 ih1 ih2=>
  intro ac σ e e' H H' a w x Q hc hr hE h hp hQ
  simp only[cT] at hc
  obtain⟨cx,hcx,hc⟩:=Option.bind_eq_some_iff.1 hc
  obtain⟨a1,h1,hc⟩:=Option.bind_eq_some_iff.1 hc
  obtain⟨a2,h2,rfl⟩:=Option.map_eq_some_iff.1 hc
  simp only[AC.run] at hr
  split at hr
  ·rename_i hv
   exact wp_cond_true (xB hcx hE.er hv) (ih1 a1 h1 hr hE h hp hQ)
  ·rename_i hv
   exact wp_cond_false (xB hcx hE.er hv) (ih2 a2 h2 hr hE h hp hQ)
  ·cases hr
 |block id c1 ih1=>
  intro ac σ e e' H H' a w x Q hc hr hE h hp hQ
  simp only[cT] at hc
  obtain⟨a1,h1,rfl⟩:=Option.map_eq_some_iff.1 hc
  simp only[AC.run] at hr
  refine wp_block ?_
  split at hr
  ·rename_i e1 H1 hrun
   simp only[Option.some.injEq,Prod.mk.injEq] at hr
   obtain⟨rfl,rfl,rfl⟩:=hr
   exact ih1 a1 h1 hrun hE h (λc a w hq=>hp c a w hq) (λa' w' σ' q1 q2 q3=>hQ a' w' σ' q1 q2 q3)
  ·rename_i i e1 H1 hrun
   split at hr
   ·rename_i hi
    simp only[Option.some.injEq,Prod.mk.injEq] at hr
    obtain⟨rfl,rfl,rfl⟩:=hr
    refine ih1 a1 h1 hrun hE h (λc a w hq=>hp c a w hq) (λa' w' σ' q1 q2 q3=>?_)
    show if i=id then Q .normal a' w' else Q (.exit i) a' w'
    rw[if_pos hi]
    exact hQ a' w' σ' q1 q2 q3
   ·rename_i hi
    simp only[Option.some.injEq,Prod.mk.injEq] at hr
    obtain⟨rfl,rfl,rfl⟩:=hr
    refine ih1 a1 h1 hrun hE h (λc a w hq=>hp c a w hq) (λa' w' σ' q1 q2 q3=>?_)
    show if i=id then Q .normal a' w' else Q (.exit i) a' w'
    rw[if_neg hi]
    exact hQ a' w' σ' q1 q2 q3
  ·rename_i e1 H1 hrun
   simp only[Option.some.injEq,Prod.mk.injEq] at hr
   obtain⟨rfl,rfl,rfl⟩:=hr
   exact ih1 a1 h1 hrun hE h (λc a w hq=>hp c a w hq) (λa' w' σ' q1 q2 q3=>hQ a' w' σ' q1 q2 q3)
  ·cases hr
 |loop c1 ih1=>
  intro ac σ e e' H H' a w x Q hc hr hE h hp hQ
  simp only[cT] at hc
  obtain⟨a1,h1,rfl⟩:=Option.map_eq_some_iff.1 hc
  simp only[AC.run] at hr
  refine wp_loop_rounds lf ?_
  have key:∀(k:Nat) {σ:Sg} {e:Tr AV} {H:AH} {a:Act} {w:World},qC (a1.run call lf) k e H=some (x,e',H')->EN n σ e a->HR B σ H w->(∀a' w' σ',EN n σ' e' a'->HR B σ' H' w'->Fr B σ σ' H H' w w'->Q x.to a' w')->Code.rounds P c1 Q k a w:=by
   intro k
   induction k with
   |zero=>intro σ e H a w hr;simp[qC] at hr
   |succ k ihk=>
    intro σ e H a w hr hE h hQ
    simp only[qC] at hr
    rw[rounds_succ]
    split at hr
    ·rename_i e1 H1 hrun
     refine ih1 a1 h1 hrun hE h (λc a w hq=>hp c a w hq) (λa' w' σ' q1 q2 q3=>?_)
     exact ihk hr q1 q2 (λa'' w'' σ'' p1 p2 p3=>hQ a'' w'' σ'' p1 p2 (q3.trans p3 q2))
    ·rename_i i e1 H1 hrun
     simp only[Option.some.injEq,Prod.mk.injEq] at hr
     obtain⟨rfl,rfl,rfl⟩:=hr
     exact ih1 a1 h1 hrun hE h (λc a w hq=>hp c a w hq) (λa' w' σ' q1 q2 q3=>hQ a' w' σ' q1 q2 q3)
    ·rename_i e1 H1 hrun
     simp only[Option.some.injEq,Prod.mk.injEq] at hr
     obtain⟨rfl,rfl,rfl⟩:=hr
     exact ih1 a1 h1 hrun hE h (λc a w hq=>hp c a w hq) (λa' w' σ' q1 q2 q3=>hQ a' w' σ' q1 q2 q3)
    ·cases hr
  exact key lf hr hE h hQ
 |_=>intro ac σ e e' H H' a w x Q hc;simp[cT] at hc
end
end Go.Proofs.YtidhfimbnjaceaaGreat
namespace Go.Proofs.YtidhfimbnjaceaaGreat
open Go.RowKit
structure AF where
 nt:Nat
 code:AC
 res:List AP
def jK(P:Program):List ResultVar->Option (List AP)
 |[]=>some []
 |.tmp t::l=>(jK P l).map λr=> .mv (.t t)::r
 |.cell t ty::l=>(P.info? ty).bind λi=>(P.underlying ty).bind λd=>(jK P l).map λr=> .ld i.size d.isRow (.t t)::r
def bj(P:Program)(hints:cU)(f:FuncId):Option AF:=(P.funcs[f]?).bind λfn=>fn.body.bind λc=>(cT P fn.ntmps hints c).bind λac=>(jK P fn.results.toList).bind λr=>
 if(fn.name== "runtime.NumGoroutine")=false/\fn.ntmps<2^40 then some ⟨fn.ntmps,ac,r⟩ else none
def iy(e:Tr AV)(H:AH):List AP->Option (List AV)
 |[]=>some []
 |x::l=>match x.run e H with
  |some (v,_)=>(iy e H l).map (v:: ·)
  |none=>none
def dH:List AV->AV
 |[v]=>v
 |l=> .tup l
def AE.ends:AE->Bool
 |.exit _=>false
 |_=>true
def lc(T:FuncId->Option AF)(lf:Nat):Nat->km
 |0=>λ_ _ _=>none
 |k+1=>λf args H=>match T f with
  |some F=>if args.length<=F.nt then match F.code.run (lc T lf k) lf (ja args) H with
    |some (x,e,H')=>if x.ends=true then match iy e H' F.res with
      |some l=>some (dH l,H')
      |none=>none
     else none
    |none=>none
   else none
  |none=>none
section
variable {P:Program} {B n:Nat} {σ:Sg} {e:Tr AV} {a:Act} {H:AH} {w:World}
def js(a:Act):ResultVar->Sem Value
 |.tmp t=>pure (a.tmps.getD t undef)
 |.cell ad t=>do loadVar t (<-asAddr (a.tmps.getD ad undef))
theorem oM(hE:ER σ e a)(h:HR B σ H w):∀(l:List ResultVar) (l':List AP) (vs:List AV),jK P l=some l'->iy e H l'=some vs->
  ∃us:List Value,(l.mapM (js a)).run P w= .ok us w/\cr σ vs us
 |[],l',vs,hl,hr=>by
  simp only[jK,Option.some.injEq] at hl
  subst hl
  simp only[iy,Option.some.injEq] at hr
  subst hr
  exact⟨[],rfl,cr.nil⟩
 |.tmp t::l,l',vs,hl,hr=>by
  simp only[jK] at hl
  obtain⟨r,h1,rfl⟩:=Option.map_eq_some_iff.1 hl
  simp only[iy,AP.run] at hr
  split at hr
  rotate_left
  ·cases hr
  rename_i v H1 hv
  obtain⟨vs',h2,rfl⟩:=Option.map_eq_some_iff.1 hr
  obtain⟨v',h3,h4⟩:=Option.map_eq_some_iff.1 hv
  cases h4
  obtain⟨us,g1,g2⟩:=oM hE h l r vs' h1 h2
  refine⟨a.tmps.getD t undef::us,?_,g2.cons (hE.get t v h3)⟩
  rw[List.mapM_cons]
  simp only[js,Sem.run_bind,Sem.run_pure,Result.andThen_ok,g1]
 |.cell t ty::l,l',vs,hl,hr=>by
  simp only[jK] at hl
  obtain⟨i,hi,hl⟩:=Option.bind_eq_some_iff.1 hl
  obtain⟨d,hd,hl⟩:=Option.bind_eq_some_iff.1 hl
  obtain⟨r,h1,rfl⟩:=Option.map_eq_some_iff.1 hl
  simp only[iy] at hr
  split at hr
  rotate_left
  ·cases hr
  rename_i v H1 hv
  obtain⟨vs',h2,rfl⟩:=Option.map_eq_some_iff.1 hr
  obtain⟨us,g1,g2⟩:=oM hE h l r vs' h1 h2
  let o:Oper:={(default:Oper) with op:= .load ty (.tmp t)}
  obtain⟨_,n1,row1,x1,c,u,heq,q34,q5,q6⟩:=AN (o:=o) (x:= .tmp t) rfl rfl hi hd hE h hv
  obtain⟨cc,off,hev⟩:∃cc off,a.tmps.getD t undef= .pointer (some ⟨cc,off,none⟩):=by
   cases heq
   rcases q34 with⟨b',off',oc,q3,q4⟩|⟨_,_,_,_,q3,_⟩
   ·have h1:=hE.get t _ q3
    generalize a.tmps.getD t undef=y at h1
    cases h1
    exact⟨_,_,rfl⟩
   ·have h1:=hE.get t _ q3
    generalize a.tmps.getD t undef=y at h1
    cases h1
    exact⟨_,_,rfl⟩
  have hx:=q6 w (λ_=>rfl)
  have hx2:((loadVar ty ⟨cc,off,none⟩).run P w).andThen (λv w=> .ok (.value v) w)=(.ok (.value u) w:Result Next):=by
   have e1:a.eval (.tmp t)= .pointer (some ⟨cc,off,none⟩):=hev
   unfold execOp at hx
   simp only[o,e1,Instr.loadAt,Instr.sureAddr,Sem.run_bind,Sem.run_pure,Result.andThen_ok] at hx
   exact hx
  have hload:(loadVar ty ⟨cc,off,none⟩).run P w= .ok u w:=by
   generalize (loadVar ty ⟨cc,off,none⟩).run P w=r at hx2
   cases r<;>simp[Result.andThen] at hx2
   obtain⟨rfl,rfl⟩:=hx2
   rfl
  refine⟨u::us,?_,g2.cons q5⟩
  rw[List.mapM_cons]
  simp only[js,hev,asAddr,Sem.run_bind,Sem.run_pure,Result.andThen_ok,hload,g1]
theorem tL{args:List AV}{args':Array Value}{nt:Nat}(h:cr σ args args'.toList)(hn:args.length<=nt)(hs:nt<2^40):
  EN nt σ (ja args) {tmps:=args'++Array.replicate (nt-args'.size) undef,defers:=[]}:=by
 have hl:args.length=args'.size:=by have:=h.1;rwa [Array.length_toList] at this
 refine⟨⟨rfl,λt v hv=>?_⟩,by simp;omega,hs⟩
 rw[ir args t (by omega)] at hv
 have hlt:t<args.length:=by
  by_cases hh:t<args.length
  ·exact hh
  ·rw[List.getElem?_eq_none (by omega)] at hv;cases hv
 have:=h.2 t v hv
 rw[List.getD_eq_getElem?_getD,Array.getElem?_toList] at this
 rw[Array.getD_eq_getD_getElem?,Array.getElem?_append_left (by omega)]
 exact this
def yT(P:Program)(T:FuncId->Option AF):Prop:=∀f F,T f=some F->∃hints,bj P hints f=some F
theorem oJ(B:Nat)(hm:P.follows .mixedOrders=true){T:FuncId->Option AF}(hT:yT P T)(lf:Nat):∀k,kK P B (lc T lf k)
 |0=>⟨λhr=>by simp[lc] at hr,λhr=>by simp[lc] at hr⟩
 |k+1=>by
  have ih:=oJ B hm hT lf k
  have open_:∀{g:FuncId} {args:List AV} {H H':AH} {v:AV},lc T lf (k+1) g args H=some (v,H')->
    ∃fn c ac r hints x e l,P.funcs[g]? =some fn/\(fn.name== "runtime.NumGoroutine")=false/\fn.body=some c/\fn.ntmps<2^40/\cT P fn.ntmps hints c=some ac/\jK P fn.results.toList=some r/\args.length<=fn.ntmps/\
     ac.run (lc T lf k) lf (ja args) H=some (x,e,H')/\x.ends=true/\iy e H' r=some l/\v=dH l:=by
   intro g args H H' v hr
   simp only[lc] at hr
   split at hr
   rotate_left
   ·cases hr
   rename_i F hF
   obtain⟨hints,hF⟩:=hT _ _ hF
   unfold bj at hF
   obtain⟨fn,h1,hF⟩:=Option.bind_eq_some_iff.1 hF
   obtain⟨c,h2,hF⟩:=Option.bind_eq_some_iff.1 hF
   obtain⟨ac,h3,hF⟩:=Option.bind_eq_some_iff.1 hF
   obtain⟨r,h4,hF⟩:=Option.bind_eq_some_iff.1 hF
   split at hF
   rotate_left
   ·cases hF
   rename_i hq
   cases hF
   split at hr
   rotate_left
   ·cases hr
   rename_i hlen
   split at hr
   rotate_left
   ·cases hr
   rename_i x e H1 hrun
   split at hr
   rotate_left
   ·cases hr
   rename_i hends
   split at hr
   rotate_left
   ·cases hr
   rename_i l hres
   cases hr
   exact⟨fn,c,ac,r,hints,x,e,l,h1,hq.1,h2,hq.2,h3,h4,hlen,hrun,hends,hres,rfl⟩
  refine⟨λhr=>?_,λ{g args H H' v} hr σ w args' h hargs=>?_⟩
  ·obtain⟨fn,c,ac,r,hints,x,e,l,h1,h2,h3,_⟩:=open_ hr
   exact⟨fn,h1,h2,by rw[h3];rfl⟩
  ·obtain⟨fn,c,ac,r,hints,x,e,l,h1,h2,h3,h4,h5,h6,h7,h8,h9,h10,rfl⟩:=open_ hr
   refine calls_of_wp h1 h3 ?_
   refine zZ hm ih lf c ac h5 h8 (tL hargs h7 h4) h (λc a w hq=>hq.2) (λa' w' σ' q1 q2 q3=>?_)
   obtain⟨us,g1,g2⟩:=oM q1.er q2 _ _ _ h6 h10
   have hres:∃u,(results fn a'.tmps).run P w'= .ok u w'/\VR σ' (dH l) u:=by
    have hsem:results fn a'.tmps=(do let vs<-fn.results.mapM (js a');pure (if h:vs.size=1 then vs[0] else .tuple vs)):=by
     unfold results
     rfl
    have hrun:(fn.results.mapM (js a')).run P w'= .ok us.toArray w':=by
     simp[Array.mapM_eq_mapM_toList,g1]
    rw[hsem]
    simp only[Sem.run_bind,hrun,Result.andThen_ok,Sem.run_pure]
    refine⟨_,rfl,?_⟩
    have hn:=g2.1
    match l,us,g2,hn with
    |[v],[u],g2,_=>exact g2.2 0 v rfl
    |[],[],_,_=>exact cr.nil.tup
    |v1::v2::l,u1::u2::us,g2,_=>exact g2.tup
   obtain⟨u,k1,k2⟩:=hres
   have post:a'.defers=[]/\∃v,(results fn a'.tmps).run P w'= .ok v w'/\rH B σ H H' w (dH l) (.returned v) w':=⟨q1.er.df,u,k1,σ',k2,q2,q3⟩
   cases x with
   |normal=>exact post
   |ret=>exact post
   |exit i=>simp[AE.ends] at h9
theorem HR.emptyAt{φ:Fz}{B:Nat}(w:World)(hB:B<=w.heap.size)(hφ:∀c fs,φ c=some fs->∃cs t fr,w.heap[c]? =some (.cells cs t fr)/\kJ fs cs):HR B ⟨λ_=>none,λ_=>False,φ⟩ ⟨.nil,0,2^40⟩ w:=
 ⟨λ_ _=>rfl,λ_ _ h=>h,λb _=>by simp[AH.at,Tr.get],by simp,hB,λb x hx=>by simp[AH.at,Tr.get] at hx,λ_ h=>h.elim,λb x c o hx=>by simp[AH.at,Tr.get] at hx,λb x hx=>by simp[AH.at,Tr.get] at hx,
  λb b' x x' c o o' hx=>by simp[AH.at,Tr.get] at hx,λc fs hc=>by
   obtain⟨cs,t,fr,h1,h2⟩:=hφ c fs hc
   exact⟨cs,t,fr,h1,h2,λb x o hx=>by simp[AH.at,Tr.get] at hx⟩⟩
theorem HR.empty{φ:Fz}(w:World)(hφ:∀c fs,φ c=some fs->∃cs t fr,w.heap[c]? =some (.cells cs t fr)/\kJ fs cs):HR w.heap.size ⟨λ_=>none,λ_=>False,φ⟩ ⟨.nil,0,2^40⟩ w:=HR.emptyAt w (Nat.le_refl _) hφ
end
end Go.Proofs.YtidhfimbnjaceaaGreat
namespace Go.Proofs.YtidhfimbnjaceaaGreat
open Go.RowKit
def lB(B:Nat)(σ σ':Sg):Prop:=∀c,c<B->σ'.fz c=σ.fz c
theorem lB.refl(B:Nat)(σ:Sg):lB B σ σ:=λ_ _=>rfl
theorem lB.trans{B:Nat}{σ σ1 σ2:Sg}(h:lB B σ σ1)(h':lB B σ1 σ2):lB B σ σ2:=λc hc=>(h' c hc).trans (h c hc)
theorem lB.of_eq{B:Nat}{σ σ1:Sg}(h:σ1.fz=σ.fz):lB B σ σ1:=λc _=>by rw[h]
def Vf(B:Nat)(σ:Sg)(H:AH)(w:World)(Q:AV->AH->Prop):Ending->World->Prop
 |.returned u,w'=>∃v H' σ',Q v H'/\VR σ' v u/\HR B σ' H' w'/\Fr B σ σ' H H' w w'/\lB B σ σ'
 |_,_=>False
def zT(P:Program)(g:FuncId):Prop:=∃fn,P.funcs[g]? =some fn/\(fn.name== "runtime.NumGoroutine")=false/\fn.body.isNone=false
def k9(P:Program)(g:FuncId)(args:List AV)(H:AH)(Q:AV->AH->Prop):Prop:=
 zT P g/\∀(B:Nat) (σ:Sg) (w:World) (args':Array Value),HR B σ H w->cr σ args args'.toList->Calls P g args' w (Vf B σ H w Q)
def gK(P:Program)(e:Tr AV)(H:AH)(k:AK)(Q:AV->AH->Prop):Prop:=match k with
 |.ap x=>match x.run e H with
  |some (v,H')=>Q v H'
  |none=>False
 |.cl f args=>match f.ev e,zd e args with
  |some (.f g first cap),some vs=>k9 P g (first++vs++cap) H Q
  |_,_=>False
 |.sn neg x=>match x.ev e with
  |some (.fs _ n _)=>∀t,(t=(!neg)->n=0)->Q (.b t) H
  |_=>False
theorem m8{P:Program}{op:BinOp}{t:TypeId}{y:Operand}{neg:Bool}(h:HT P op t y=some neg)(a:Act)(w:World)(ad:Option Addr)(n c:Nat):
  (binOp op t (.slice ad n c) (a.eval y)).run P w= .ok (.bool (ad.isNone== !neg)) w:=by
 unfold HT at h
 split at h
 ·rename_i el h1
  cases h
  show(binOp .eql t (.slice ad n c) (.slice none 0 0)).run P w=_
  rw[run_eql_slice_nil w t _ ad n c h1]
  cases ad<;>rfl
 ·rename_i el h1
  cases h
  show(binOp .neq t (.slice ad n c) (.slice none 0 0)).run P w=_
  rw[run_neq_slice_nil w t _ ad n c h1]
  cases ad<;>rfl
 ·cases h
def j8(P:Program):List AO->Tr AV->AH->(Tr AV->AH->Prop)->Prop
 |[],e,H,Q=>Q e H
 |o::l,e,H,Q=>match dC e o.gd with
  |some t=>(t=true->gK P e H o.k (λv H'=>j8 P l (bu e o.dst v) H' Q))/\(t=false->j8 P l (bu e o.dst (.tup [])) H Q)
  |none=>False
def jz(H0:AH)(m:Nat)(nc:Bool)(e:Tr AV):AK->Prop
 |.ap (.ld _ _ x)=>match x.ev e with
  |some (.p b _)=>b<m/\(H0.at b).isSome=true
  |some (.fp _ _ _)=>nc=true
  |_=>False
 |_=>False
def jh:AK->Bool
 |.ap x=>x.kind==2
 |_=>false
def qF:AK->Bool
 |.cl _ _=>true
 |_=>false
def fS(P:Program)(H0:AH)(m:Nat):Bool->List (Nat×AO)->Tr AV->AH->(Tr AV->AH->Prop)->Prop
 |_,[],e,H,Q=>Q e H
 |nc,(k,o)::l,e,H,Q=>match dC e o.gd with
  |some t=>
   (t=true->if k=1 then jz H0 m nc e o.k/\gK P e H o.k (λv H'=>fS P H0 m nc l (bu e o.dst v) H' Q)
    else if k=2 then jh o.k=true/\gK P e H o.k (λv H'=>fS P H0 m nc l (bu e o.dst v) H' Q)
    else gK P e H o.k (λv H'=>(k=3\/m<=H'.low)/\fS P H0 m (nc&& !qF o.k) l (bu e o.dst v) H' Q))/\
   (t=false->(k=0->m<=H.low)/\fS P H0 m nc l (bu e o.dst (.tup [])) H Q)
  |none=>False
def fe(P:Program)(m:Nat):AT->Tr AV->AH->(Tr AV->AH->Prop)->Prop
 |.fin,e,H,Q=>Q e H
 |.none,_,_,_=>True
 |.alt o r more,e,H,Q=>(match dC e o.gd with
   |some t=>(t=true->gK P e H o.k (λv H'=>m<=H'.low/\fe P m r (bu e o.dst v) H' Q))/\(t=false->m<=H.low/\fe P m r (bu e o.dst (.tup [])) H Q)
   |none=>False)/\fe P m more e H Q
def eC(H:AH):Nat->Nat->Prop
 |_,0=>True
 |m,k+1=>(match H.at m with
  |some x=>x.fzn=0
  |none=>False)/\eC H (m+1) k
theorem eC.get{H:AH}:∀(k m:Nat),eC H m k->∀b,m<=b->b<m+k->∃x,H.at b=some x/\x.fzn=0
 |0,m,_,b,h1,h2=>by omega
 |k+1,m,h,b,h1,h2=>by
  obtain⟨h3,h4⟩:=h
  by_cases e:b=m
  ·subst e
   split at h3
   ·rename_i x hx;exact⟨x,hx,h3⟩
   ·exact h3.elim
  ·exact eC.get k (m+1) h4 b (by omega) (by omega)
def dB(m:Nat)(σ0:Sg)(H0:AH)(w0:World)(w':World):Prop:=
 ∀c,c<w0.heap.size->(∀b o,m<=b->b<H0.next->σ0 b≠some (c,o))->w'.heap[c]? =w0.heap[c]?
theorem dB.of_fr{B m:Nat}{σ0 σ:Sg}{H0 H:AH}{w0 w:World}(h:Fr B σ0 σ H0 H w0 w)(hl:m<=H.low):dB m σ0 H0 w0 w:=λc hc hn=>by
 rcases h.old c hc with e|⟨b,o,h1,h2,h3⟩
 ·exact e
 ·exact absurd h2 (hn b o (by omega) h1)
theorem dB.refl(m:Nat)(σ0:Sg)(H0:AH)(w0:World):dB m σ0 H0 w0 w0:=λ_ _ _=>rfl
section
variable {P:Program} {B n:Nat} {σ:Sg} {e:Tr AV} {a:Act} {H:AH} {w:World} {o:Oper} {ops:Array Oper} {Q:Exit->Act->World->Prop}
theorem qJ{k:AK}(hc:pH P o.op=some k)(hE:ER σ e a)(h:HR B σ H w){Q':AV->AH->Prop}(hr:gK P e H k Q'){next:Act->World->Prop}
  (hn:∀v H' u w' σ',Q' v H'->VR σ' v u->HR B σ' H' w'->Fr B σ σ' H H' w w'->lB B σ σ'->(qF k=false->σ'.fz=σ.fz)->next (a.put o.dst u) w'):o.wp P a w next Q:=by
 have fin:∀ap,mW P o.op=some ap->k= .ap ap->o.wp P a w next Q:=by
  rintro ap hap rfl
  simp only[gK] at hr
  split at hr
  rotate_left
  ·exact hr.elim
  rename_i v H' hrun'
  obtain⟨r,w',σ',hrun,hnr,h1,h2,h3⟩:=A0 hap hE h hrun'
  unfold Oper.wp
  rw[hrun]
  rcases hnr with⟨u,rfl,hu⟩|⟨rfl,rfl⟩
  ·exact hn v H' u w' σ' hr hu h1 h2 (.of_eq h3) (λ_=>h3)
  ·exact hn _ H' undef w' σ' hr (.u _) h1 h2 (.of_eq h3) (λ_=>h3)
 unfold pH at hc
 split at hc
 ·rename_i op t x y t' ho
  split at hc
  ·rename_i neg hsn
   obtain⟨x',hx,rfl⟩:=Option.map_eq_some_iff.1 hc
   simp only[gK] at hr
   split at hr
   rotate_left
   ·exact hr.elim
   rename_i esz n0 row hv
   have hval:=cf hx hE hv
   generalize hu:a.eval x=u at hval
   have go:∀(ad:Option Addr) (n c:Nat),u= .slice ad n c->(ad=none->n0=0)->o.wp P a w next Q:=by
    rintro ad n c rfl h0
    unfold Oper.wp execOp
    rw[ho]
    have hg:∀b:Value,(eqGuard op t x y (.slice ad n c) b).run P w= .ok () w:=λb=>by
     unfold eqGuard
     cases op<;>rfl
    simp only[hu,Sem.run_bind,hg,m8 hsn a w ad n c,Result.andThen_ok,Sem.run_pure,Oper.upon]
    have hd:(ad.isNone== !neg)= !neg->n0=0:=λhe=>h0 (by
     clear hn hr fin hc hval h0
     cases ad with
     |none=>rfl
     |some x=>cases neg<;>simp at he)
    have:=hn (.b (ad.isNone== !neg)) H _ w σ (hr _ hd) (.b _) h (Fr.refl h) (lB.refl _ _) (λ_=>rfl)
    exact this
   cases hval with
   |fs0 esz row ad cap=>exact go _ _ _ rfl (λ_=>rfl)
   |fs hz hb h1 h2 cap hcap=>exact go _ _ _ rfl (λe=>by cases e)
  ·obtain⟨ap,hap,rfl⟩:=Option.map_eq_some_iff.1 hc
   exact fin ap (by rw[ho];exact hap) rfl
 ·rename_i c ho
  split at hc
  ·rename_i f hf
   obtain⟨f',hf',hc⟩:=Option.bind_eq_some_iff.1 hc
   obtain⟨l',hl,rfl⟩:=Option.map_eq_some_iff.1 hc
   simp only[gK] at hr
   split at hr
   rotate_left
   ·exact hr.elim
   rename_i g first cap vs hfe hvs
   obtain⟨c1,c2,hev,g1,g2⟩:=IG hf' hE hfe
   obtain⟨⟨fn,k1,k2,k3⟩,hcall⟩:=hr
   have hargs:cr σ (first++vs++cap) (c1++c.args.map a.eval++c2).toList:=by
    have:=(g1.app (jT hl hE hvs)).app g2
    simpa using this
   have hcl:=hcall B σ w _ h hargs
   unfold Oper.wp execOp
   rw[ho]
   simp only[Sem.run_bind,resolve,hf,hev,Deferred.ofValue,Sem.run_pure,Result.andThen_ok,invoke,ko k1 k2 k3,Oper.upon]
   refine Calls.mono hcl (λen w' hp=>?_)
   cases en with
   |returned u=>obtain⟨v,H',σ',q0,q1,q2,q3,q4⟩:=hp;exact hn v H' u w' σ' q0 q1 q2 q3 q4 (λhh=>by cases hh)
   |panicked c=>exact hp.elim
   |outgrown=>exact hp.elim
  ·obtain⟨ap,hap,rfl⟩:=Option.map_eq_some_iff.1 hc
   exact fin ap (by rw[ho];exact hap) rfl
 ·obtain⟨ap,hap,rfl⟩:=Option.map_eq_some_iff.1 hc
  exact fin ap hap rfl
theorem pb:∀(l:List Oper) (l':List AO) {σ:Sg} {e:Tr AV} {H:AH} {a:Act} {w:World} {Q':Tr AV->AH->Prop},jl P n ops l=some l'->j8 P l' e H Q'->EN n σ e a->HR B σ H w->∀{σb:Sg},lB B σb σ->
  (∀e' H' a' w' σ',Q' e' H'->EN n σ' e' a'->HR B σ' H' w'->Fr B σ σ' H H' w w'->lB B σb σ'->Q .normal a' w')->wpList P ops Q l a w
 |[],l',σ,e,H,a,w,Q',hl,hr,hE,h,σb,hz,hQ=>by
  simp only[jl,Option.some.injEq] at hl
  subst hl
  exact hQ e H a w σ hr hE h (Fr.refl h) hz
 |o::l,l',σ,e,H,a,w,Q',hl,hr,hE,h,σb,hz,hQ=>by
  simp only[jl] at hl
  obtain⟨x,hx,hl⟩:=Option.bind_eq_some_iff.1 hl
  obtain⟨r,hl2,rfl⟩:=Option.map_eq_some_iff.1 hl
  unfold pE at hx
  split at hx
  rotate_left
  ·cases hx
  rename_i hd
  obtain⟨g,hg,hx⟩:=Option.bind_eq_some_iff.1 hx
  obtain⟨k,hk,rfl⟩:=Option.map_eq_some_iff.1 hx
  simp only[j8] at hr
  unfold wpList
  split at hr
  rotate_left
  ·exact hr.elim
  rename_i t hw
  cases t
  rotate_left
  ·replace hr:=hr.1 rfl
   rw[ed hE.er hg hw,if_pos rfl]
   refine .inl (qJ hk hE.er h hr λv H1 u w1 σ1 q0 q1 q2 q3 q4 _=>?_)
   exact pb l r hl2 q0 ((hE.mono q3.ext).put q1 hd) q2 (hz.trans q4) (λe' H' a' w' σ' p0 p1 p2 p3 p4=>hQ e' H' a' w' σ' p0 p1 p2 (q3.trans p3 q2) p4)
  ·replace hr:=hr.2 rfl
   rw[ed hE.er hg hw,if_neg (by simp)]
   exact pb l r hl2 hr (hE.put (u:=undef) (.tup rfl (λi v h=>by simp at h)) hd) h hz hQ
end
section
variable {P:Program} {B n m:Nat} {σ0:Sg} {H0:AH} {w0:World} {ops:Array Oper} {fl:List Nat} {Q:Exit->Act->World->Prop}
theorem hJ(h0:HR B σ0 H0 w0)(htop:eC H0 m (H0.next-m))(hp:∀c a w,¬Q (.panic c) a w):∀(pl:List (Nat×Nat)) (l':List (Nat×AO)) {nc:Bool} {σ:Sg} {e:Tr AV} {H:AH} {a:Act} {w:World} {Q':Tr AV->AH->Prop},dV P n ops fl pl=some l'->fS P H0 m nc l' e H Q'->EN n σ e a->HR B σ H w->
  Fr B σ0 σ H0 H w0 w->(dB m σ0 H0 w0 w\/pl.all (·.1 != 1)=true)->(nc=true->σ.fz=σ0.fz)->lB B σ0 σ->
  (∀e' H' a' w' σ',Q' e' H'->EN n σ' e' a'->HR B σ' H' w'->Fr B σ0 σ' H0 H' w0 w'->lB B σ0 σ'->Q .normal a' w')->a9 P .any ops Q (dB m σ0 H0 w0) fl (az ops (pl.map fv)) a w
 |[],l',nc,σ,e,H,a,w,Q',hl,hr,hE,h,hF,hG,hz,hzb,hQ=>by
  simp only[dV,Option.some.injEq] at hl
  subst hl
  show a9 P .any ops Q (dB m σ0 H0 w0) fl [] a w
  exact jp (hQ e H a w σ hr hE h hF hzb)
 |(k,j)::pl,l',nc,σ,e,H,a,w,Q',hl,hr,hE,h,hF,hG,hz,hzb,hQ=>by
  simp only[dV] at hl
  split at hl
  rotate_left
  ·cases hl
  rename_i o ho
  obtain⟨x,hx,hl⟩:=Option.bind_eq_some_iff.1 hl
  split at hl
  rotate_left
  ·cases hl
  rename_i hk3
  obtain⟨hk3,hsee⟩:=hk3
  obtain⟨r,hl2,rfl⟩:=Option.map_eq_some_iff.1 hl
  unfold pE at hx
  split at hx
  rotate_left
  ·cases hx
  rename_i hd
  obtain⟨g,hg,hx⟩:=Option.bind_eq_some_iff.1 hx
  obtain⟨ak,hk,rfl⟩:=Option.map_eq_some_iff.1 hx
  have hgp:az ops (((k,j)::pl).map fv)=((fv (k,j)).1,j,o)::az ops (pl.map fv):=by
   have:fv (k,j)=((fv (k,j)).1,j):=by unfold fv;split<;>first|rfl|(rename_i heq;cases heq;rfl)
   rw[List.map_cons,this]
   simp[az,ho]
  rw[hgp]
  have hG':dB m σ0 H0 w0 w\/pl.all (·.1 != 1)=true:=hG.imp id (λq=>by simp only[List.all_cons,Bool.and_eq_true] at q;exact q.2)
  simp only[fS] at hr
  split at hr
  rotate_left
  ·exact hr.elim
  rename_i t hw
  cases t
  rotate_left
  ·replace hr:=hr.1 rfl
   have hwant:=ed hE.er hg hw
   split at hr
   ·
    rename_i hk1
    subst hk1
    obtain⟨hearly,hr⟩:=hr
    cases ak with
    |cl f args=>exact hearly.elim
    |sn neg x=>exact hearly.elim
    |ap ap0=>
     cases ap0<;>try exact hearly.elim
     rename_i nn row xx
     simp only[gK] at hr
     split at hr
     rotate_left
     ·exact hr.elim
     rename_i v H1 hrun
     obtain⟨q1,_,_,_,c,u,q2,q34,q5,q6⟩:=ta (mV hk) rfl hE.er h hrun
     subst q1
     cases q2
     have hgw:dB m σ0 H0 w0 w:=by
      rcases hG with q|q
      ·exact q
      ·simp at q
     have htop':=eC.get _ _ htop
     have hclt:c<w0.heap.size/\∀b o,m<=b->b<H0.next->σ0 b≠some (c,o):=by
      rcases q34 with⟨b,off,oc,q3,q4⟩|⟨_,_,_,fs,q3,q4,q40⟩
      ·simp only[jz,q3] at hearly
       obtain⟨hbm,hearly⟩:=hearly
       obtain⟨xb,hxb⟩:=Option.isSome_iff_exists.1 hearly
       have hc0:σ b=σ0 b:=hF.dom b (AH.at_lt h0 hxb)
       rw[hc0] at q4
       obtain⟨cs0,p2,p3,p4⟩:=h0.blk b xb c oc hxb q4
       refine⟨(Array.getElem?_eq_some_iff.1 p3).1,λb' o' h1 h2 h3=>?_⟩
       obtain⟨x',hx',_⟩:=htop' b' h1 (by omega)
       have:=h0.inj b b' xb x' c oc o' hxb hx' q4 h3
       omega
      ·simp only[jz,q3] at hearly
       rw[hz hearly] at q4
       refine⟨h0.fzlt q4,λb' o' h1 h2 h3=>?_⟩
       obtain⟨x',hx',hx0⟩:=htop' b' h1 (by omega)
       obtain⟨cs',t',fr',_,_,m3⟩:=h0.frz c fs q4
       have:=m3 b' x' o' hx' h3
       omega
     have hcell:∀{w':World},dB m σ0 H0 w0 w'->∀i,w'.cell? ⟨c,i,none⟩=w0.cell? ⟨c,i,none⟩:=λhw' i=>by
      have:=hw' c hclt.1 hclt.2
      simp only[World.cell?,this]
     show a9 P .any ops Q (dB m σ0 H0 w0) fl ((1,j,o)::az ops (pl.map fv)) a w
     unfold a9
     rw[if_pos hwant]
     refine⟨u,λw' hw'=>q6 w' (λi=>(hcell hw' i).trans (hcell hgw i).symm),?_⟩
     exact hJ h0 htop hp pl r hl2 hr (hE.put q5 hd) h hF hG' hz hzb hQ
   ·split at hr
    ·
     rename_i hk1 hk2
     subst hk2
     obtain⟨hpure,hr⟩:=hr
     cases ak with
     |cl f args=>cases hpure
     |sn neg x=>cases hpure
     |ap xx=>
      have hkind:xx.kind=2:=by simpa [jh] using hpure
      simp only[gK] at hr
      split at hr
      rotate_left
      ·exact hr.elim
      rename_i v H1 hrun
      obtain⟨q1,u,q2,q3⟩:=pC (mV hk) hkind hE.er h hrun
      subst q1
      show a9 P .any ops Q (dB m σ0 H0 w0) fl ((2,j,o)::az ops (pl.map fv)) a w
      unfold a9
      rw[if_pos hwant]
      exact⟨u,q3,hJ h0 htop hp pl r hl2 hr (hE.put q2 hd) h hF hG' hz hzb hQ⟩
    ·rename_i hk1 hk2
     have hu0:(fv (k,j)).1=0:=by
      have:k=0\/k=3:=by omega
      rcases this with rfl|rfl<;>rfl
     rw[hu0]
     have hz':∀{σ1:Sg},(qF ak=false->σ1.fz=σ.fz)->(nc&& !qF ak)=true->σ1.fz=σ0.fz:=λh1 h2=>by
      simp only[Bool.and_eq_true,Bool.not_eq_true'] at h2
      rw[h1 h2.2,hz h2.1]
     by_cases hk0:k=3
     ·subst hk0
      obtain⟨s1,s2⟩:=hsee rfl
      refine kL s1 (eB hwant ?_)
      refine qJ hk hE.er h hr λv H1 u w1 σ1 q0 q1 q2 q3 q5 q4=>?_
      exact hJ h0 htop hp pl r hl2 q0.2 ((hE.mono q3.ext).put q1 hd) q2 (hF.trans q3 h) (.inr s2) (hz' q4) (hzb.trans q5) hQ
     ·refine im (eB hwant ?_)
      refine qJ hk hE.er h hr λv H1 u w1 σ1 q0 q1 q2 q3 q5 q4=>?_
      have hlow':m<=H1.low:=q0.1.resolve_left hk0
      have hF1:=hF.trans q3 h
      have hg1:=dB.of_fr hF1 hlow'
      exact⟨hg1,hJ h0 htop hp pl r hl2 q0.2 ((hE.mono q3.ext).put q1 hd) q2 hF1 (.inl hg1) (hz' q4) (hzb.trans q5) hQ⟩
  ·replace hr:=hr.2 rfl
   obtain⟨hlow,hr⟩:=hr
   have hwant:=ed hE.er hg hw
   have hput:=hE.put (u:=undef) (v:= .tup []) (.tup rfl (λi v h=>by simp at h)) hd
   have next:=hJ h0 htop hp pl r hl2 hr hput h hF hG' hz hzb hQ
   have:(fv (k,j)).1=0\/(fv (k,j)).1=1\/(fv (k,j)).1=2:=by
    have:k=0\/k=1\/k=2\/k=3:=by omega
    rcases this with rfl|rfl|rfl|rfl<;>simp[fv]
   rcases this with q|q|q<;>rw[q]
   ·have hskip:∀R:Exit->Act->World->Prop,R .normal (a.put o.dst undef) w->wpList P ops R [o] a w:=λR hR=>by
     unfold wpList
     rw[hwant,if_neg (by simp)]
     exact hR
    unfold a9
    split
    ·exact hskip _ next
    ·rename_i hs
     refine hskip _ ⟨?_,next⟩
     have:k=0\/k=1\/k=2\/k=3:=by omega
     rcases this with rfl|rfl|rfl|rfl
     ·exact dB.of_fr hF (hlow rfl)
     ·simp[fv] at q
     ·simp[fv] at q
     ·exact absurd (hsee rfl).1 hs
   ·unfold a9
    rw[hwant,if_neg (by simp)]
    exact next
   ·unfold a9
    rw[hwant,if_neg (by simp)]
    exact next
end
theorem pT{P:Program}{ops:Array Oper}{o:Oper}{a:Act}{w:World}{R:Exit->Act->World->Prop}(hw:Region.wanted o (yielded ops a.tmps)=false)(h:R .normal (a.put o.dst undef) w):wpList P ops R [o] a w:=by
 unfold wpList
 rw[hw,if_neg (by simp)]
 exact h
section
variable {P:Program} {B n m:Nat} {σ0:Sg} {H0:AH} {w0:World} {ops:Array Oper} {Q:Exit->Act->World->Prop}
theorem j5(h0:HR B σ0 H0 w0)(hp:∀c a w,¬Q (.panic c) a w):∀(T:PT) (T':AT) {σ:Sg} {e:Tr AV} {H:AH} {a:Act} {w:World} {Q':Tr AV->AH->Prop},re P n ops T=some T'->fe P m T' e H Q'->EN n σ e a->HR B σ H w->Fr B σ0 σ H0 H w0 w->lB B σ0 σ->
  (∀e' H' a' w' σ',Q' e' H'->EN n σ' e' a'->HR B σ' H' w'->Fr B σ0 σ' H0 H' w0 w'->lB B σ0 σ'->Q .normal a' w')->il P ops Q (dB m σ0 H0 w0) T a w
 |.fin,T',σ,e,H,a,w,Q',hT,hr,hE,h,hF,hzb,hQ=>by
  simp only[re,Option.some.injEq] at hT
  subst hT
  exact hQ e H a w σ hr hE h hF hzb
 |.none,T',σ,e,H,a,w,Q',hT,hr,hE,h,hF,hzb,hQ=>trivial
 |.alt j r more,T',σ,e,H,a,w,Q',hT,hr,hE,h,hF,hzb,hQ=>by
  simp only[re] at hT
  split at hT
  rotate_left
  ·cases hT
  rename_i o ho
  obtain⟨x,hx,hT⟩:=Option.bind_eq_some_iff.1 hT
  obtain⟨r',hr',hT⟩:=Option.bind_eq_some_iff.1 hT
  obtain⟨m',hm',rfl⟩:=Option.map_eq_some_iff.1 hT
  unfold pE at hx
  split at hx
  rotate_left
  ·cases hx
  rename_i hd
  obtain⟨g,hg,hx⟩:=Option.bind_eq_some_iff.1 hx
  obtain⟨ak,hk,rfl⟩:=Option.map_eq_some_iff.1 hx
  obtain⟨hr1,hr2⟩:=hr
  refine⟨?_,j5 h0 hp more m' hm' hr2 hE h hF hzb hQ⟩
  rw[ho]
  simp only
  split at hr1
  rotate_left
  ·exact hr1.elim
  rename_i t hw
  have hwant:=ed hE.er hg hw
  cases t
  rotate_left
  ·replace hr1:=hr1.1 rfl
   refine eB hwant (qJ hk hE.er h hr1 λv H1 u w1 σ1 q0 q1 q2 q3 q5 q4=>?_)
   have hF1:=hF.trans q3 h
   exact⟨dB.of_fr hF1 q0.1,j5 h0 hp r r' hr' q0.2 ((hE.mono q3.ext).put q1 hd) q2 hF1 (hzb.trans q5) hQ⟩
  ·replace hr1:=hr1.2 rfl
   refine pT hwant ?_
   exact⟨dB.of_fr hF hr1.1,j5 h0 hp r r' hr' hr1.2 (hE.put (u:=undef) (.tup rfl (λi v h=>by simp at h)) hd) h hF hzb hQ⟩
end
/-! ### code-/
def GW(P:Program)(n:Nat)(c:Code)(e:Tr AV)(H:AH)(Q:AE->Tr AV->AH->Prop):Prop:=
 ∀(B:Nat) (σ:Sg) (a:Act) (w:World) (R:Exit->Act->World->Prop),EN n σ e a->HR B σ H w->(∀c a w,¬R (.panic c) a w)->
  (∀x e' H' a' w' σ',Q x e' H'->EN n σ' e' a'->HR B σ' H' w'->Below B w w'->lB B σ σ'->R x.to a' w')->c.wp P R a w
def GA(P:Program)(n:Nat)(hints:cU)(ac:AC)(e:Tr AV)(H:AH)(Q:AE->Tr AV->AH->Prop):Prop:=∀c,cT P n hints c=some ac->GW P n c e H Q
def Wk(n:Nat)(e:Tr AV)(H:AH)(e2:Tr AV)(H2:AH):Prop:=∀(B:Nat) (σ:Sg) (a:Act) (w:World),EN n σ e a->HR B σ H w->∃σ2,EN n σ2 e2 a/\HR B σ2 H2 w/\lB B σ σ2
section
variable {P:Program} {n:Nat} {hints:cU} {e:Tr AV} {H:AH} {Q:AE->Tr AV->AH->Prop}
theorem GA.wk{ac:AC}{e2:Tr AV}{H2:AH}(hw:Wk n e H e2 H2)(h:GA P n hints ac e2 H2 Q):GA P n hints ac e H Q:=λc hc B σ a w R hE hH hp hR=>by
 obtain⟨σ2,k1,k2,k3⟩:=hw B σ a w hE hH
 exact h c hc B σ2 a w R k1 k2 hp (λx e' H' a' w' σ' q m1 m2 m3 m4=>hR x e' H' a' w' σ' q m1 m2 m3 (k3.trans m4))
theorem GA.mono{ac:AC}{Q':AE->Tr AV->AH->Prop}(h:GA P n hints ac e H Q)(hq:∀x e H,Q x e H->Q' x e H):GA P n hints ac e H Q':=λc hc B σ a w R hE hH hp hR=>
 h c hc B σ a w R hE hH hp (λx e' H' a' w' σ' q=>hR x e' H' a' w' σ' (hq _ _ _ q))
def Vd(P:Program)(n:Nat)(hints:cU)(c:Code)(ac:AC):Prop:=match ac with
 |.skip=>c= .skip
 |.exit id=>c= .exit id
 |.ret=>c= .ret
 |.seq x y=>∃a b,c= .seq a b/\cT P n hints a=some x/\cT P n hints b=some y
 |.cond cc x y=>∃o a b,c= .cond o a b/\bv o=some cc/\cT P n hints a=some x/\cT P n hints b=some y
 |.block id x=>∃b,c= .block id b/\cT P n hints b=some x
 |.loop x=>∃b,c= .loop b/\cT P n hints b=some x
 |.reg l=>∃id ops,c= .region id ops false/\jl P n ops ops.toList=some l
 |.mix l=>∃id ops fl pu pl,c= .region id ops true/\qA .any ops fl pu (pl.map fv)=true/\dV P n ops fl pl=some l
 |.frk l T'=>∃id ops fl pu pl T,c= .region id ops true/\qM .any ops fl pu pl T=true/\pl.all (λp=>p.1==1||p.1==2)=true/\dV P n ops fl pl=some l/\re P n ops T=some T'
theorem dt{c:Code}{ac:AC}(h:cT P n hints c=some ac):Vd P n hints c ac:=by
 cases c with
 |skip=>simp only[cT,Option.some.injEq] at h;subst h;exact rfl
 |exit id=>simp only[cT,Option.some.injEq] at h;subst h;exact rfl
 |ret=>simp only[cT,Option.some.injEq] at h;subst h;exact rfl
 |region id ops dr=>
  simp only[cT] at h
  split at h
  ·rename_i hd
   subst hd
   split at h
   ·rename_i fl pu pl hh
    split at h
    rotate_left
    ·cases h
    rename_i hB
    obtain⟨l',hl,rfl⟩:=Option.map_eq_some_iff.1 h
    exact⟨id,ops,fl,pu,pl,rfl,hB,hl⟩
   ·rename_i fl pu pl T hh
    split at h
    rotate_left
    ·cases h
    rename_i hB
    obtain⟨l',hl,h⟩:=Option.bind_eq_some_iff.1 h
    obtain⟨T',hT,rfl⟩:=Option.map_eq_some_iff.1 h
    exact⟨id,ops,fl,pu,pl,T,rfl,hB.1,hB.2,hl,hT⟩
   ·cases h
  ·rename_i hd
   obtain⟨l',hl,rfl⟩:=Option.map_eq_some_iff.1 h
   have:dr=false:=by simpa using hd
   subst this
   exact⟨id,ops,rfl,hl⟩
 |seq a b=>
  simp only[cT] at h
  obtain⟨x,h1,h⟩:=Option.bind_eq_some_iff.1 h
  obtain⟨y,h2,rfl⟩:=Option.map_eq_some_iff.1 h
  exact⟨a,b,rfl,h1,h2⟩
 |cond o a b=>
  simp only[cT] at h
  obtain⟨cc,h0,h⟩:=Option.bind_eq_some_iff.1 h
  obtain⟨x,h1,h⟩:=Option.bind_eq_some_iff.1 h
  obtain⟨y,h2,rfl⟩:=Option.map_eq_some_iff.1 h
  exact⟨o,a,b,rfl,h0,h1,h2⟩
 |block id b=>
  simp only[cT] at h
  obtain⟨x,h1,rfl⟩:=Option.map_eq_some_iff.1 h
  exact⟨b,rfl,h1⟩
 |loop b=>
  simp only[cT] at h
  obtain⟨x,h1,rfl⟩:=Option.map_eq_some_iff.1 h
  exact⟨b,rfl,h1⟩
 |_=>simp[cT] at h
theorem GA.skip(h:Q .normal e H):GA P n hints .skip e H Q:=λc hc B σ a w R hE hH hp hR=>by
 obtain rfl:=dt hc
 exact wp_skip (hR .normal e H a w σ h hE hH (Below.refl _ _) (.refl _ _))
theorem GA.exit{i:Nat}(h:Q (.exit i) e H):GA P n hints (.exit i) e H Q:=λc hc B σ a w R hE hH hp hR=>by
 obtain rfl:=dt hc
 exact wp_exit (hR (.exit i) e H a w σ h hE hH (Below.refl _ _) (.refl _ _))
theorem GA.ret(h:Q .ret e H):GA P n hints .ret e H Q:=λc hc B σ a w R hE hH hp hR=>by
 obtain rfl:=dt hc
 exact wp_ret (hR .ret e H a w σ h hE hH (Below.refl _ _) (.refl _ _))
def jC(K:Tr AV->AH->Prop)(Q:AE->Tr AV->AH->Prop):AE->Tr AV->AH->Prop
 |.normal,e,H=>K e H
 |x,e,H=>Q x e H
theorem GA.seq{x y:AC}(h:GA P n hints x e H (jC (λe' H'=>GA P n hints y e' H' Q) Q)):GA P n hints (.seq x y) e H Q:=λc hc B σ a w R hE hH hp hR=>by
 obtain⟨ca,cb,rfl,h1,h2⟩:=dt hc
 refine wp_seq ?_
 refine h ca h1 B σ a w _ hE hH (λc a w hq=>hp c a w hq) (λx' e' H' a' w' σ' q k1 k2 k3 k4=>?_)
 cases x' with
 |normal=>exact q cb h2 B σ' a' w' R k1 k2 hp (λx e' H' a'' w'' σ'' q' m1 m2 m3 m4=>hR x e' H' a'' w'' σ'' q' m1 m2 (k3.trans m3) (k4.trans m4))
 |exit i=>exact hR (.exit i) e' H' a' w' σ' q k1 k2 k3 k4
 |ret=>exact hR .ret e' H' a' w' σ' q k1 k2 k3 k4
theorem GA.cond{cc:AX}{x y:AC}{t:Bool}(hc:cc.ev e=some (.b t))(h1:t=true->GA P n hints x e H Q)(h2:t=false->GA P n hints y e H Q):GA P n hints (.cond cc x y) e H Q:=λc hcc B σ a w R hE hH hp hR=>by
 obtain⟨o,ca,cb,rfl,h0,g1,g2⟩:=dt hcc
 cases t with
 |true=>exact wp_cond_true (xB h0 hE.er hc) (h1 rfl ca g1 B σ a w R hE hH hp hR)
 |false=>exact wp_cond_false (xB h0 hE.er hc) (h2 rfl cb g2 B σ a w R hE hH hp hR)
def px(id:Nat)(Q:AE->Tr AV->AH->Prop):AE->Tr AV->AH->Prop
 |.exit i,e,H=>if i=id then Q .normal e H else Q (.exit i) e H
 |x,e,H=>Q x e H
theorem GA.block{id:Nat}{x:AC}(h:GA P n hints x e H (px id Q)):GA P n hints (.block id x) e H Q:=λc hc B σ a w R hE hH hp hR=>by
 obtain⟨b,rfl,h1⟩:=dt hc
 refine wp_block ?_
 refine h b h1 B σ a w _ hE hH (λc a w hq=>hp c a w hq) (λx' e' H' a' w' σ' q k1 k2 k3 k4=>?_)
 cases x' with
 |normal=>exact hR .normal e' H' a' w' σ' q k1 k2 k3 k4
 |exit i=>
  show if i=id then R .normal a' w' else R (.exit i) a' w'
  by_cases hi:i=id
  ·rw[if_pos hi]
   refine hR .normal e' H' a' w' σ' ?_ k1 k2 k3 k4
   have q':if i=id then Q .normal e' H' else Q (.exit i) e' H':=q
   rwa [if_pos hi] at q'
  ·rw[if_neg hi]
   refine hR (.exit i) e' H' a' w' σ' ?_ k1 k2 k3 k4
   have q':if i=id then Q .normal e' H' else Q (.exit i) e' H':=q
   rwa [if_neg hi] at q'
 |ret=>exact hR .ret e' H' a' w' σ' q k1 k2 k3 k4
theorem GA.reg{l:List AO}(h:j8 P l e H (λe' H'=>Q .normal e' H')):GA P n hints (.reg l) e H Q:=λc hc B σ a w R hE hH hp hR=>by
 obtain⟨id,ops,rfl,hl⟩:=dt hc
 refine wp_region_list (pb _ _ hl h hE hH (.refl _ σ) (λe' H' a' w' σ' q k1 k2 k3 k4=>hR .normal e' H' a' w' σ' q k1 k2 k3.bel k4))
theorem GA.mix(hm:P.follows .mixedOrders=true)(m:Nat){l:List (Nat×AO)}(htop:eC H m (H.next-m))(h:fS P {H with low:=2^40} m true l e {H with low:=2^40} (λe' H'=>Q .normal e' {H' with low:=min H.low H'.low})):GA P n hints (.mix l) e H Q:=λc hc B σ a w R hE hH hp hR=>by
 obtain⟨id,ops,fl,pu,pl,rfl,hB,hl⟩:=dt hc
 have hops:ops=ops.toList.toArray:=by simp
 rw[hops]
 rw[hops] at hB
 have hd:HR B σ {H with low:=2^40} w.drew:=⟨hH.new,hH.newl,hH.old,hH.small,hH.hB,hH.nil,hH.nilp,hH.blk,hH.szs,hH.inj,hH.frz⟩
 refine f8 (dB m σ {H with low:=2^40} w.drew) fl pu (pl.map fv) hm hB (λc a d v w hq=>(hp _ _ _ hq).elim) (dB.refl _ _ _ _) ?_
 rw[<-hops]
 have htop':eC {H with low:=2^40} m (AH.next {H with low:=2^40}-m):=by
  have key:∀(k m:Nat),eC H m k->eC {H with low:=2^40} m k:=by
   intro k
   induction k with
   |zero=>intro m _;trivial
   |succ k ih=>intro m h;exact⟨h.1,ih _ h.2⟩
  exact key _ _ htop
 refine hJ hd htop' hp pl l hl h hE hd (Fr.refl hd) (.inl (dB.refl _ _ _ _)) (λ_=>rfl) (.refl _ _) (λe' H' a' w' σ' q q1 q2 q3 q4=>?_)
 exact hR .normal e' _ a' w' σ' q q1 (q2.relow _) ((Below.refl _ _).drew.trans q3.bel) q4
theorem GA.frk(hm:P.follows .mixedOrders=true)(m:Nat){l:List (Nat×AO)}{T:AT}(htop:eC H m (H.next-m))(h:fS P {H with low:=2^40} m true l e {H with low:=2^40} (λe' H'=>fe P m T e' H' (λe' H'=>Q .normal e' {H' with low:=min H.low H'.low}))):GA P n hints (.frk l T) e H Q:=λc hc B σ a w R hE hH hp hR=>by
 obtain⟨id,ops,fl,pu,pl,T0,rfl,hB,hk,hl,hT⟩:=dt hc
 have hops:ops=ops.toList.toArray:=by simp
 rw[hops]
 rw[hops] at hB
 have hd:HR B σ {H with low:=2^40} w.drew:=⟨hH.new,hH.newl,hH.old,hH.small,hH.hB,hH.nil,hH.nilp,hH.blk,hH.szs,hH.inj,hH.frz⟩
 have hunk:pl.map fv=pl:=by
  have:∀p ∈ pl,fv p=p:=λp hp=>by
   have:=List.all_eq_true.1 hk p hp
   obtain⟨k,j⟩:=p
   simp only[Bool.or_eq_true,beq_iff_eq] at this
   rcases this with rfl|rfl<;>rfl
  rw[List.map_congr_left this,List.map_id']
 refine lb (dB m σ {H with low:=2^40} w.drew) fl pu pl T0 hm hB (λc a d v w hq=>(hp _ _ _ hq).elim) (dB.refl _ _ _ _) ?_
 rw[<-hops,<-hunk]
 have htop':eC {H with low:=2^40} m (AH.next {H with low:=2^40}-m):=by
  have key:∀(k m:Nat),eC H m k->eC {H with low:=2^40} m k:=by
   intro k
   induction k with
   |zero=>intro m _;trivial
   |succ k ih=>intro m h;exact⟨h.1,ih _ h.2⟩
  exact key _ _ htop
 refine hJ (Q:=Exit.then (il P ops R (dB m σ {H with low:=2^40} w.drew) T0) R) hd htop' (λc a w hq=>hp c a w hq) pl l hl h hE hd (Fr.refl hd) (.inl (dB.refl _ _ _ _)) (λ_=>rfl) (.refl _ _) (λe' H' a' w' σ' q q1 q2 q3 q4=>?_)
 refine j5 hd hp T0 T hT q q1 q2 q3 q4 (λe' H' a' w' σ' q q1 q2 q3 q4=>?_)
 exact hR .normal e' _ a' w' σ' q q1 (q2.relow _) ((Below.refl _ _).drew.trans q3.bel) q4
def ww(n:Nat)(I:Nat->Tr AV->AH->Prop)(Q:AE->Tr AV->AH->Prop)(m:Nat):AE->Tr AV->AH->Prop
 |.normal,e,H=>∃m' e2 H2,m'<m/\Wk n e H e2 H2/\I m' e2 H2
 |x,e,H=>Q x e H
theorem GA.loop{x:AC}(I:Nat->Tr AV->AH->Prop){m:Nat}{e0:Tr AV}{H0:AH}(hw:Wk n e H e0 H0)(hi:I m e0 H0)(h:∀m e H,I m e H->GA P n hints x e H (ww n I Q m)):GA P n hints (.loop x) e H Q:=λc hc B σ a w R hE hH hp hR=>by
 obtain⟨b,rfl,h1⟩:=dt hc
 refine wp_loop_rounds (m+1) ?_
 have key:∀(k m:Nat) {e:Tr AV} {H:AH} {e0:Tr AV} {H0:AH} {σ:Sg} {a:Act} {w:World},m<k->Wk n e H e0 H0->I m e0 H0->EN n σ e a->HR B σ H w->
   (∀x e' H' a' w' σ',Q x e' H'->EN n σ' e' a'->HR B σ' H' w'->Below B w w'->lB B σ σ'->R x.to a' w')->Code.rounds P b R k a w:=by
  intro k
  induction k with
  |zero=>intro m e H e0 H0 σ a w hlt;omega
  |succ k ih=>
   intro m e H e0 H0 σ a w hlt hw hi hE hH hR
   rw[rounds_succ]
   obtain⟨σ2,k1,k2,k3⟩:=hw B σ a w hE hH
   refine h m e0 H0 hi b h1 B σ2 a w _ k1 k2 (λc a w hq=>hp c a w hq) (λx' e' H' a' w' σ' q m1 m2 m3 m4=>?_)
   cases x' with
   |normal=>
    obtain⟨m',e2,H2,hlt2,hw2,hi2⟩:=q
    exact ih m' (by omega) hw2 hi2 m1 m2 (λx e' H' a'' w'' σ'' q' p1 p2 p3 p4=>hR x e' H' a'' w'' σ'' q' p1 p2 (m3.trans p3) ((k3.trans m4).trans p4))
   |exit i=>exact hR (.exit i) e' H' a' w' σ' q m1 m2 m3 (k3.trans m4)
   |ret=>exact hR .ret e' H' a' w' σ' q m1 m2 m3 (k3.trans m4)
 exact key (m+1) m (by omega) hw hi hE hH hR
end
abbrev o1(d:Nat)(x:AP):AO:=⟨some d,none,.ap x⟩
abbrev o2(d:Nat)(g:FuncId)(l:List AX):AO:=⟨some d,none,.cl (.c (.f g [] [])) l⟩
abbrev o3(x:AP):AO:=⟨none,none,.ap x⟩
abbrev o4(d g:Nat)(x:AP):AO:=⟨some d,some (g,false),.ap x⟩
abbrev o5(d g:Nat)(x:AP):AO:=⟨some d,some (g,true),.ap x⟩
abbrev mt(d s:Nat):AO:=⟨some d,none,.ap (.mv (.t s))⟩
abbrev ci(n:Int):AX:= .c (.n .i64 n)
end Go.Proofs.YtidhfimbnjaceaaGreat
namespace Go.Proofs.YtidhfimbnjaceaaGreat
open Go.RowKit
/-! ### values without names-/
theorem VR.pure{σ:Sg}:∀(k:Nat) {v:AV} {x:Value},v.pu k=true->VR σ v x->VR σ.bare v x
 |k,v,x,hp,h=>by
  cases h with
  |u _=>cases k<;>simp[AV.pu] at hp
  |b x=>exact .b x
  |n k x=>exact .n k x
  |s x=>exact .s x
  |p0=>exact .p0
  |p h=>cases k<;>simp[AV.pu] at hp
  |sl0 a=>exact .sl0 a
  |sl h=>cases k<;>simp[AV.pu] at hp
  |slo h hc h0=>cases k<;>simp[AV.pu] at hp
  |f0=>exact .f0
  |f n1 h1 n2 h2=>
   cases k with
   |zero=>simp[AV.pu] at hp
   |succ k=>
    simp only[AV.pu,Bool.and_eq_true,List.all_eq_true] at hp
    exact .f n1 (λi v hv=>VR.pure k (hp.1 v (List.mem_of_getElem? hv)) (h1 i v hv)) n2 (λi v hv=>VR.pure k (hp.2 v (List.mem_of_getElem? hv)) (h2 i v hv))
  |agg hl hh=>
   cases k with
   |zero=>simp[AV.pu] at hp
   |succ k=>
    simp only[AV.pu,List.all_eq_true] at hp
    exact .agg hl (λi v hv=>VR.pure k (hp v (List.mem_of_getElem? hv)) (hh i v hv))
  |cv _ hv=>exact .cv _ hv
  |tup hl hh=>
   cases k with
   |zero=>simp[AV.pu] at hp
   |succ k=>
    simp only[AV.pu,List.all_eq_true] at hp
    exact .tup hl (λi v hv=>VR.pure k (hp v (List.mem_of_getElem? hv)) (hh i v hv))
  |fs0 esz row a cap=>exact .fs0 esz row a cap
  |fs hz hb h1 h2 cap hcap=>exact .fs (σ:=σ.bare) hz hb h1 h2 cap hcap
  |fp hz hb h1 h2 j=>exact .fp (σ:=σ.bare) hz hb h1 h2 j
  |os0 h a=>cases k<;>simp[AV.pu] at hp
  |os h hl=>cases k<;>simp[AV.pu] at hp
theorem VR.cell{σ:Sg}{v:AV}{u:Value}(hp:v.cell=true)(h:VR σ v u):VR σ.bare v u:=by
 simp only[AV.cell,Bool.and_eq_true] at hp
 exact h.pure 3 hp.1
/-! ### freezing-/
def AH.mark(H:AH)(b:Nat):AH:=match H.at b with
 |some x=>{H with blks:=Tr.set 48 H.blks b {x with fzn:=max x.size x.fzn}}
 |none=>H
def dW(H:AH):List Nat->AH
 |[]=>H
 |b::l=>dW (H.mark b) l
theorem AH.mark_next(H:AH)(b:Nat):(H.mark b).next=H.next:=by unfold AH.mark;split<;>rfl
theorem AH.mark_low(H:AH)(b:Nat):(H.mark b).low=H.low:=by unfold AH.mark;split<;>rfl
theorem AH.at_mark{H:AH}{b b':Nat}(hb:b<2^40):(H.mark b).at b'=if b'=b then(H.at b).map (λx=>{x with fzn:=max x.size x.fzn}) else H.at b':=by
 unfold AH.mark
 cases hx:H.at b with
 |none=>
  simp only
  by_cases e:b'=b
  ·subst e;rw[if_pos rfl,hx];rfl
  ·rw[if_neg e]
 |some x=>
  have hl:x.live=true:=by
   unfold AH.at at hx
   split at hx
   ·split at hx
    ·rename_i hl;cases hx;exact hl
    ·cases hx
   ·cases hx
  simp only
  rw[AH.at_put _ _ _ _ _ _ hb]
  by_cases e:b'=b
  ·rw[if_pos e,if_pos e];simp[hl]
  ·rw[if_neg e,if_neg e]
def th(σ:Sg)(H:AH)(w:World)(b:Nat):Prop:=∀x c o,H.at b=some x->σ b=some (c,o)->∃cs fs,w.heap[c]? =some (.cells cs x.ty (0,0))/\σ.fz c=some fs/\kJ fs cs/\x.size<=fs.size
theorem HR.mark{B:Nat}{σ:Sg}{H:AH}{w:World}(h:HR B σ H w)(b:Nat):
  ∃σ2,σ.le σ2/\σ2.nm=σ.nm/\σ2.nl=σ.nl/\lB B σ σ2/\(∀c,w.heap.size<=c->σ2.fz c=σ.fz c)/\HR B σ2 (H.mark b) w/\th σ2 H w b:=by
 cases hx:H.at b with
 |none=>
  have e:H.mark b=H:=by unfold AH.mark;rw[hx]
  rw[e]
  exact⟨σ,σ.le_refl,rfl,rfl,.refl _ _,λ_ _=>rfl,h,λx c o hx'=>by rw[hx] at hx';cases hx'⟩
 |some x=>
  have hbn:=AH.at_lt h hx
  have hsm:=h.small
  have hat:∀b' y,(H.mark b).at b'=some y->∃y0,H.at b'=some y0/\y.size=y0.size/\y.esz=y0.esz/\y.ty=y0.ty/\y.opn=y0.opn/\(∀i,y.get i=y0.get i)/\y0.fzn<=y.fzn/\(b'=b->y.fzn=max x.size x.fzn):=by
   intro b' y hy
   rw[AH.at_mark (by omega)] at hy
   by_cases e:b'=b
   ·subst e
    rw[if_pos rfl,hx] at hy
    simp only[Option.map_some,Option.some.injEq] at hy
    subst hy
    exact⟨x,hx,rfl,rfl,rfl,rfl,λ_=>rfl,Nat.le_max_right _ _,λ_=>rfl⟩
   ·rw[if_neg e] at hy
    exact⟨y,hy,rfl,rfl,rfl,rfl,λ_=>rfl,Nat.le_refl _,λe'=>absurd e' e⟩
  have base:∀σ2:Sg,σ.le σ2->σ2.nm=σ.nm->σ2.nl=σ.nl->(∀c fs,σ2.fz c=some fs->∃cs t fr,w.heap[c]? =some (.cells cs t fr)/\kJ fs cs/\∀b' y o,(H.mark b).at b'=some y->σ b'=some (c,o)->fs.size<=y.fzn)->HR B σ2 (H.mark b) w:=by
   intro σ2 hle hnm hnl hfz
   refine⟨λb' hb'=>?_,λb' hb'=>?_,λb' hb'=>?_,by rw[AH.mark_next];exact h.small,h.hB,λb' y hy hs=>?_,λb' hb'=>?_,λb' y c o hy hs=>?_,λb' y hy=>?_,λb1 b2 y1 y2 c o1 o2 k1 k2 k3 k4=>?_,λc fs hf=>?_⟩
   ·rw[AH.mark_next] at hb';rw[hnm];exact h.new b' hb'
   ·rw[AH.mark_next] at hb';rw[hnl];exact h.newl b' hb'
   ·rw[AH.mark_next] at hb'
    cases hy:(H.mark b).at b' with
    |none=>rfl
    |some y=>
     obtain⟨y0,e1,_⟩:=hat b' y hy
     rw[h.old b' hb'] at e1;cases e1
   ·obtain⟨y0,e1,e2,e3,e4,e5,e6,e7,_⟩:=hat b' y hy
    rw[hnm] at hs
    obtain⟨p1,p2,p3⟩:=h.nil b' y0 e1 hs
    exact⟨by rw[e2];exact p1,by rw[e5];exact p2,by rw[hnl];exact p3⟩
   ·rw[hnl] at hb';rw[hnm];exact h.nilp b' hb'
   ·obtain⟨y0,e1,e2,e3,e4,e5,e6,e7,_⟩:=hat b' y hy
    rw[hnm] at hs
    obtain⟨cs,p1,p2,p3⟩:=h.blk b' y0 c o e1 hs
    refine⟨cs,p1,by rw[e4];exact p2,⟨by rw[e2];exact p3.sz,λq=>by rw[e2];exact p3.ex q,λk hk=>by rw[e3];exact p3.op k hk,by rw[e5];exact p3.ob,λi hi=>?_⟩⟩
    rw[e6]
    exact(p3.cell i (by rw[<-e2];exact hi)).mono hle
   ·obtain⟨y0,e1,e2,_⟩:=hat b' y hy
    rw[e2];exact h.szs b' y0 e1
   ·obtain⟨y01,e1,_⟩:=hat b1 y1 k1
    obtain⟨y02,e2,_⟩:=hat b2 y2 k2
    rw[hnm] at k3 k4
    exact h.inj b1 b2 y01 y02 c o1 o2 e1 e2 k3 k4
   ·obtain⟨cs,t,fr,p1,p2,p3⟩:=hfz c fs hf
    exact⟨cs,t,fr,p1,p2,λb' y o hy hs=>p3 b' y o hy (by rw[hnm] at hs;exact hs)⟩
  have keepz:∀c fs,σ.fz c=some fs->∃cs t fr,w.heap[c]? =some (.cells cs t fr)/\kJ fs cs/\∀b' y o,(H.mark b).at b'=some y->σ b'=some (c,o)->fs.size<=y.fzn:=λc fs hf=>by
   obtain⟨cs,t,fr,p1,p2,p3⟩:=h.frz c fs hf
   refine⟨cs,t,fr,p1,p2,λb' y o hy hs=>?_⟩
   obtain⟨y0,e1,_,_,_,_,_,e7,_⟩:=hat b' y hy
   have:=p3 b' y0 o e1 hs
   omega
  cases hs:σ b with
  |none=>
   refine⟨σ,σ.le_refl,rfl,rfl,.refl _ _,λ_ _=>rfl,base σ σ.le_refl rfl rfl keepz,λx' c o hx' hs'=>by rw[hs] at hs';cases hs'⟩
  |some p=>
   obtain⟨c,o⟩:=p
   obtain⟨cs,p1,p2,p3⟩:=h.blk b x c o hx hs
   have hclt:c<w.heap.size:=(Array.getElem?_eq_some_iff.1 p2).1
   let m:=max x.size x.fzn
   let σ2:Sg:={σ with fz:=λk=>if k=c then some (cs.extract 0 m) else σ.fz k}
   have hpre:kJ (cs.extract 0 m) cs:=⟨by rw[Array.size_extract];omega,λi hi=>by
    rw[Array.getElem?_extract]
    simp at hi
    simp
    omega⟩
   have hle:σ.le σ2:=⟨λ_ _ hh=>hh,λ_ hh=>hh,λk fs hf=>by
    by_cases e:k=c
    ·subst e
     obtain⟨cs',t',fr',q1,q2,q3⟩:=h.frz k fs hf
     rw[p2] at q1
     cases q1
     have hfs:=q3 b x o hx hs
     refine⟨cs.extract 0 m,if_pos rfl,?_,λi hi=>?_⟩
     ·have:=q2.1
      simp[m];omega
     ·rw[<-q2.2 i hi,Array.getElem?_extract]
      have:fs.size<=m:=by simp[m];omega
      simp;omega
    ·exact⟨fs,by show(if k=c then _ else σ.fz k)=_;rw[if_neg e];exact hf,kJ.refl _⟩⟩
   refine⟨σ2,hle,rfl,rfl,λk hk=>if_neg (by omega),λk hk=>if_neg (by omega),base σ2 hle rfl rfl (λk fs hf=>?_),λx' c' o' hx' hs'=>?_⟩
   ·have hf':(if k=c then some (cs.extract 0 m) else σ.fz k)=some fs:=hf
    by_cases e:k=c
    ·subst e
     rw[if_pos rfl] at hf'
     cases hf'
     refine⟨cs,x.ty,(0,0),p2,hpre,λb' y o1 hy hs1=>?_⟩
     obtain⟨y0,e1,_,_,_,_,_,_,e8⟩:=hat b' y hy
     have hb:b'=b:=h.inj b' b y0 x k o1 o e1 hx hs1 hs
     rw[e8 hb]
     simp only[Array.size_extract]
     exact Nat.le_trans (Nat.sub_le _ _) (Nat.min_le_left _ _)
    ·rw[if_neg e] at hf'
     exact keepz k fs hf'
   ·rw[hx] at hx'
    cases hx'
    have hs'':σ b=some (c',o'):=hs'
    rw[hs] at hs''
    cases hs''
    refine⟨cs,cs.extract 0 m,p2,if_pos rfl,hpre,?_⟩
    have:=p3.sz
    simp[m];omega
theorem HR.marks{B:Nat}{w:World}:∀(M:List Nat) {σ:Sg} {H:AH},HR B σ H w->
  ∃σ2,σ.le σ2/\σ2.nm=σ.nm/\σ2.nl=σ.nl/\lB B σ σ2/\(∀c,w.heap.size<=c->σ2.fz c=σ.fz c)/\HR B σ2 (dW H M) w/\∀b ∈ M,th σ2 H w b
 |[],σ,H,h=>⟨σ,σ.le_refl,rfl,rfl,.refl _ _,λ_ _=>rfl,h,λb hb=>by cases hb⟩
 |b::M,σ,H,h=>by
  obtain⟨σ1,q1,q2,q3,q4,q4',q5,q6⟩:=h.mark b
  obtain⟨σ2,p1,p2,p3,p4,p4',p5,p6⟩:=HR.marks M q5
  have hsm:=h.small
  refine⟨σ2,q1.trans p1,p2.trans q2,p3.trans q3,q4.trans p4,λc hc=>(p4' c hc).trans (q4' c hc),p5,λb' hb'=>?_⟩
  have up:th σ1 H w b'->th σ2 H w b':=λhh x c o hx hs=>by
   rw[p2] at hs
   obtain⟨cs,fs,e1,e2,e3,e4⟩:=hh x c o hx hs
   obtain⟨fs',e5,e6⟩:=p1.fz c fs e2
   obtain⟨cs',t',fr',m1,m2,_⟩:=p5.frz c fs' e5
   rw[e1] at m1
   cases m1
   exact⟨cs,fs',e1,e5,m2,Nat.le_trans e4 e6.1⟩
  rcases List.mem_cons.1 hb' with rfl|hb'
  ·exact up q6
  ·intro x c o hx hs
   by_cases hbn:b<2^40
   ·have hx1:∃y,(H.mark b).at b'=some y/\y.size=x.size/\y.ty=x.ty:=by
     rw[AH.at_mark hbn]
     by_cases e:b'=b
     ·subst e;rw[if_pos rfl,hx];exact⟨_,rfl,rfl,rfl⟩
     ·rw[if_neg e];exact⟨x,hx,rfl,rfl⟩
    obtain⟨y,hy,e1,e2⟩:=hx1
    have:=p6 b' hb' y c o hy hs
    rw[e1,e2] at this
    exact this
   ·have:H.mark b=H:=by
     unfold AH.mark
     cases hb0:H.at b with
     |none=>rfl
     |some z=>have:=AH.at_lt h hb0;omega
    have h6:=p6 b' hb'
    rw[this] at h6
    exact h6 x c o hx hs
theorem ju:∀(M:List Nat) (H:AH),(dW H M).next=H.next
 |[],_=>rfl
 |b::M,H=>(ju M _).trans (AH.mark_next H b)
theorem nZ:∀(M:List Nat) (H:AH),(dW H M).low=H.low
 |[],_=>rfl
 |b::M,H=>(nZ M _).trans (AH.mark_low H b)
inductive Cv(M:List Nat)(H:AH):AV->AV->Prop where
 |rfl {v:AV} (h:v.pu 3=true):Cv M H v v
 |sl0 (esz:Nat) (row:Nat->Nat->AV):Cv M H .sl0 (.fs esz 0 row)
 |sl00 (b o cap esz:Nat) (row:Nat->Nat->AV):Cv M H (.sl b o 0 cap) (.fs esz 0 row)
 |os {b n esz:Nat} {x:AB} {row:Nat->Nat->AV} (hm:b ∈ M) (hx:H.at b=some x) (hn:n*esz<=x.size) (hr:∀i j,i<n->j<esz->x.get (i*esz+j)=row i j) (hc:∀i j,i<n->j<esz->(row i j).cell=true):Cv M H (.os b n) (.fs esz n row)
 |sl {b o n cap esz:Nat} {x:AB} {row:Nat->Nat->AV} (hm:b ∈ M) (hx:H.at b=some x) (hn:o+n*esz<=x.size) (hcap:n<=cap) (h0:0<x.size) (hr:∀i j,i<n->j<esz->x.get (o+i*esz+j)=row i j) (hc:∀i j,i<n->j<esz->(row i j).cell=true):Cv M H (.sl b o n cap) (.fs esz n row)
 |fs {esz n:Nat} {row row2:Nat->Nat->AV} (hr:∀i j,i<n->j<esz->row i j=row2 i j):Cv M H (.fs esz n row) (.fs esz n row2)
 |p {b o esz j:Nat} {x:AB} {row:Nat->AV} (hm:b ∈ M) (hx:H.at b=some x) (hn:o+esz<=x.size) (h0:0<x.size) (hr:∀q,q<esz->x.get (o+q)=row q) (hc:∀q,q<esz->(row q).cell=true):Cv M H (.p b (o+j)) (.fp esz row j)
 |f {g:FuncId} {l1 l2 l1' l2':List AV} (n1:l1.length=l1'.length) (n2:l2.length=l2'.length) (h1:∀(i:Nat) (v v':AV),l1[i]? =some v->l1'[i]? =some v'->Cv M H v v') (h2:∀(i:Nat) (v v':AV),l2[i]? =some v->l2'[i]? =some v'->Cv M H v v'):Cv M H (.f g l1 l2) (.f g l1' l2')
 |agg {l l':List AV} (n1:l.length=l'.length) (h1:∀(i:Nat) (v v':AV),l[i]? =some v->l'[i]? =some v'->Cv M H v v'):Cv M H (.agg l) (.agg l')
 |tup {l l':List AV} (n1:l.length=l'.length) (h1:∀(i:Nat) (v v':AV),l[i]? =some v->l'[i]? =some v'->Cv M H v v'):Cv M H (.tup l) (.tup l')
theorem Cv.ok{M:List Nat}{B:Nat}{σ σ2:Sg}{H:AH}{w:World}(h:HR B σ H w)(hle:σ.le σ2)(hnm:σ2.nm=σ.nm)(hM:∀b ∈ M,th σ2 H w b){v v2:AV}(hc:Cv M H v v2):∀{u:Value},VR σ v u->VR σ2.bare v2 u:=by
 induction hc with
 |rfl hp=>intro u hu;exact(hu.pure 3 hp).mono hle.bare
 |sl0 esz row=>
  intro u hu
  cases hu with
  |sl0 a=>exact .fs0 _ _ _ _
 |sl00 b o cap esz row=>
  intro u hu
  cases hu with
  |sl hh=>exact .fs0 _ _ _ _
  |slo hh hc h0=>exact .fs0 _ _ _ _
 |@os b n esz x row hm hx hn hr hcl=>
  intro u hu
  cases hu with
  |os0 hh a=>exact .fs0 _ _ _ _
  |@os _ _ _ c k hh hl=>
   have hh2:σ2 b=some (c,some k):=by show σ2.nm b=_;rw[hnm];exact hh
   obtain⟨cs,fs,e1,e2,e3,e4⟩:=hM _ hm _ _ _ hx hh2
   obtain⟨cs',p1,p2,p3⟩:=h.blk _ _ _ _ hx hh
   rw[e1] at p2
   cases p2
   refine .fs (σ:=σ2.bare) (off:=0) (c:=c) e2 (by omega) hcl (λi j hi hj=>?_) k hl
   have hlt:=iA hi hj
   rw[Nat.zero_add,<-hr i j hi hj,<-e3.getD (by omega)]
   refine((VR.cell ?_ (p3.cell _ (by omega))).mono hle.bare)
   rw[hr i j hi hj];exact hcl i j hi hj
 |@sl b o n cap esz x row hm hx hn hcap h0 hr hcl=>
  intro u hu
  have key:∀c oc cap',σ b=some (c,oc)->cap<=cap'->VR σ2.bare (.fs esz n row) (.slice (some ⟨c,o,none⟩) n cap'):=by
   intro c oc cap' hh hcc
   have hh2:σ2 b=some (c,oc):=by show σ2.nm b=_;rw[hnm];exact hh
   obtain⟨cs,fs,e1,e2,e3,e4⟩:=hM _ hm _ _ _ hx hh2
   obtain⟨cs',p1,p2,p3⟩:=h.blk _ _ _ _ hx hh
   rw[e1] at p2
   cases p2
   refine .fs (σ:=σ2.bare) (off:=o) (c:=c) e2 (by omega) hcl (λi j hi hj=>?_) _ (by omega)
   have hlt:=iA hi hj
   rw[<-hr i j hi hj,<-e3.getD (by omega)]
   refine((VR.cell ?_ (p3.cell _ (by omega))).mono hle.bare)
   rw[hr i j hi hj];exact hcl i j hi hj
  cases hu with
  |sl hh=>exact key _ _ _ hh (Nat.le_refl _)
  |slo hh hc h0=>exact key _ _ _ hh hc
 |@fs esz n row row2 hr=>
  intro u hu
  cases hu with
  |fs0=>exact .fs0 _ _ _ _
  |fs hz hb h1 h2 cap hcap=>
   obtain⟨fs',e1,e2⟩:=hle.fz _ _ hz
   refine .fs (σ:=σ2.bare) e1 (Nat.le_trans hb e2.1) (λi j hi hj=>by rw[<-hr i j hi hj];exact h1 i j hi hj) (λi j hi hj=>?_) cap hcap
   have hlt:=iA hi hj
   rw[<-hr i j hi hj,e2.getD (by omega)]
   exact(h2 i j hi hj).mono hle.bare
 |@p b o esz j x row hm hx hn h0 hr hcl=>
  intro u hu
  cases hu with
  |@p _ _ _ c oc hh=>
   have hh2:σ2 b=some (c,oc):=by show σ2.nm b=_;rw[hnm];exact hh
   obtain⟨cs,fs,e1,e2,e3,e4⟩:=hM _ hm _ _ _ hx hh2
   obtain⟨cs',p1,p2,p3⟩:=h.blk _ _ _ _ hx hh
   rw[e1] at p2
   cases p2
   refine .fp (σ:=σ2.bare) (off:=o) (c:=c) e2 (by omega) hcl (λq hq=>?_) j
   rw[<-hr q hq,<-e3.getD (by omega)]
   refine((VR.cell ?_ (p3.cell _ (by omega))).mono hle.bare)
   rw[hr q hq];exact hcl q hq
 |@f g l1 l2 l1' l2' n1 n2 h1 h2 i1 i2=>
  intro u hu
  cases hu with
  |f m1 k1 m2 k2=>
   refine .f (by omega) (λi v' hv'=>?_) (by omega) (λi v' hv'=>?_)
   ·have hlt:i<l1.length:=by rw[n1];exact(List.getElem?_eq_some_iff.1 hv').1
    exact i1 i _ v' (List.getElem?_eq_getElem hlt) hv' (k1 i _ (List.getElem?_eq_getElem hlt))
   ·have hlt:i<l2.length:=by rw[n2];exact(List.getElem?_eq_some_iff.1 hv').1
    exact i2 i _ v' (List.getElem?_eq_getElem hlt) hv' (k2 i _ (List.getElem?_eq_getElem hlt))
 |@agg l l' n1 h1 i1=>
  intro u hu
  cases hu with
  |agg m1 k1=>
   refine .agg (by omega) (λi v' hv'=>?_)
   have hlt:i<l.length:=by rw[n1];exact(List.getElem?_eq_some_iff.1 hv').1
   exact i1 i _ v' (List.getElem?_eq_getElem hlt) hv' (k1 i _ (List.getElem?_eq_getElem hlt))
 |@tup l l' n1 h1 i1=>
  intro u hu
  cases hu with
  |tup m1 k1=>
   refine .tup (by omega) (λi v' hv'=>?_)
   have hlt:i<l.length:=by rw[n1];exact(List.getElem?_eq_some_iff.1 hv').1
   exact i1 i _ v' (List.getElem?_eq_getElem hlt) hv' (k1 i _ (List.getElem?_eq_getElem hlt))
def xe(φ:Fz)(w:World):Prop:=∀c fs,φ c=some fs->∃cs t fr,w.heap[c]? =some (.cells cs t fr)/\kJ fs cs
def Sg.data(φ:Fz):Sg:=⟨λ_=>none,λ_=>False,φ⟩
def yY(φ:Fz)(w:World)(Q:AV->AH->Prop):Ending->World->Prop
 |.returned u,w'=>∃v Hc σ',Q v Hc/\VR σ' v u/\HR w.heap.size σ' Hc w'/\Below w.heap.size w w'/\(∀c,c<w.heap.size->σ'.fz c=φ c)
 |_,_=>False
def tg(P:Program)(f:FuncId)(args:List AV)(Q:AV->AH->Prop):Prop:=
 zT P f/\∀(φ:Fz) (w:World) (args':Array Value),xe φ w->cr (Sg.data φ) args args'.toList->Calls P f args' w (yY φ w Q)
theorem tg.mono{P:Program}{f:FuncId}{args:List AV}{Q Q':AV->AH->Prop}(h:tg P f args Q)(hq:∀v H,Q v H->Q' v H):tg P f args Q':=
 ⟨h.1,λφ w args' hφ ha=>(h.2 φ w args' hφ ha).mono λe w' hp=>by
  cases e with
  |returned u=>obtain⟨v,Hc,σ',q,r⟩:=hp;exact⟨v,Hc,σ',hq v Hc q,r⟩
  |panicked c=>exact hp
  |outgrown=>exact hp⟩
def AE.fin:AE->Bool
 |.exit _=>false
 |_=>true
def xH(res:List AP)(Q:AV->AH->Prop):AE->Tr AV->AH->Prop
 |.exit _,_,_=>False
 |_,e,H=>match iy e H res with
  |some l=>Q (dH l) H
  |none=>False
theorem zL{P:Program}(hm:P.follows .mixedOrders=true){f:FuncId}{hints:cU}{F:AF}(hF:bj P hints f=some F){args:List AV}(hlen:args.length<=F.nt){Q:AV->AH->Prop}
  (h:GA P F.nt hints F.code (ja args) ⟨.nil,0,2^40⟩ (xH F.res Q)):tg P f args Q:=by
 unfold bj at hF
 obtain⟨fn,h1,hF⟩:=Option.bind_eq_some_iff.1 hF
 obtain⟨c,h3,hF⟩:=Option.bind_eq_some_iff.1 hF
 obtain⟨ac,h5,hF⟩:=Option.bind_eq_some_iff.1 hF
 obtain⟨r,h6,hF⟩:=Option.bind_eq_some_iff.1 hF
 split at hF
 rotate_left
 ·cases hF
 rename_i hq
 cases hF
 refine⟨⟨fn,h1,hq.1,by rw[h3];rfl⟩,λφ w args' hφ ha=>?_⟩
 refine calls_of_wp h1 h3 ?_
 refine h c h5 w.heap.size (Sg.data φ) _ w _ (tL ha hlen hq.2) (HR.empty w hφ) (λc a w hq=>hq.2) (λx e' H' a' w' σ' q q1 q2 q3 q4=>?_)
 have key:∀l,iy e' H' r=some l->Q (dH l) H'->a'.defers=[]/\∃v,(results fn a'.tmps).run P w'= .ok v w'/\yY φ w Q (.returned v) w':=by
  intro l hl hQ
  obtain⟨us,g1,g2⟩:=oM q1.er q2 _ _ _ h6 hl
  have hres:∃u,(results fn a'.tmps).run P w'= .ok u w'/\VR σ' (dH l) u:=by
   have hsem:results fn a'.tmps=(do let vs<-fn.results.mapM (js a');pure (if h:vs.size=1 then vs[0] else .tuple vs)):=by
    unfold results
    rfl
   have hrun:(fn.results.mapM (js a')).run P w'= .ok us.toArray w':=by
    simp[Array.mapM_eq_mapM_toList,g1]
   rw[hsem]
   simp only[Sem.run_bind,hrun,Result.andThen_ok,Sem.run_pure]
   refine⟨_,rfl,?_⟩
   have hn:=g2.1
   match l,us,g2,hn with
   |[v],[u],g2,_=>exact g2.2 0 v rfl
   |[],[],_,_=>exact cr.nil.tup
   |v1::v2::l,u1::u2::us,g2,_=>exact g2.tup
  obtain⟨u,k1,k2⟩:=hres
  exact⟨q1.er.df,u,k1,dH l,H',σ',hQ,k2,q2,q3,q4⟩
 have q':∃l,iy e' H' r=some l/\Q (dH l) H':=by
  cases x with
  |exit i=>exact q.elim
  |normal=>
   simp only[xH] at q
   split at q
   ·rename_i l hl;exact⟨l,hl,q⟩
   ·exact q.elim
  |ret=>
   simp only[xH] at q
   split at q
   ·rename_i l hl;exact⟨l,hl,q⟩
   ·exact q.elim
 obtain⟨l,hl,hQ⟩:=q'
 obtain⟨k1,v,k2,k3⟩:=key l hl hQ
 have post:a'.defers=[]/\∃v,(results fn a'.tmps).run P w'= .ok v w'/\yY φ w Q (.returned v) w':=⟨k1,v,k2,k3⟩
 cases x with
 |exit i=>exact q.elim
 |normal=>exact post
 |ret=>exact post
/-! ### results-/
inductive gF where
 |v (x:AV)
 |o (ty esz n z:Nat) (row:Nat->Nat->AV)
inductive RT where
 |v (x:AV)
 |o (ty esz n z:Nat) (row:Nat->Nat->AV)
 |a (l:List gF)
def X5(ty esz n z:Nat)(row:Nat->Nat->AV)(b:Nat)(H:AH):Prop:=∃x,H.at b=some x/\x.ty=ty/\x.esz=esz/\0<esz/\x.opn=true/\n*esz<=x.size/\x.fzn<=z/\(∀i j,i<n->j<esz->x.get (i*esz+j)=row i j)/\(∀i j,i<n->j<esz->(row i j).cell=true)
def zu(used:List Nat)(ty esz n z:Nat)(row:Nat->Nat->AV)(v:AV)(H:AH):Prop:=(v= .sl0/\n=0)\/∃b,v= .os b n/\b ∉ used/\X5 ty esz n z row b H
def wa(v:AV)(used:List Nat):List Nat:=match v with
 |.os b _=>b::used
 |_=>used
def tY(H:AH):List Nat->List gF->List AV->Prop
 |_,[],[]=>True
 |used,.v x::l,v::vs=>(v=x/\x.pu 3=true)/\tY H used l vs
 |used,.o ty esz n z row::l,v::vs=>zu used ty esz n z row v H/\tY H (wa v used) l vs
 |_,_,_=>False
def Yg(r:RT)(v:AV)(H:AH):Prop:=match r with
 |.v x=>v=x/\x.pu 3=true
 |.o ty esz n z row=>zu [] ty esz n z row v H
 |.a l=>l.length<=8/\∃vs,v= .agg vs/\tY H [] l vs
def pG:List RT->Bool
 |[]=>true
 |.v _::l=>pG l
 |_::_=>false
def kI:List RT->List AV->AH->Prop
 |[],[],_=>True
 |.v x::rs,v::l,H=>Yg (.v x) v H/\kI rs l H
 |.o ty esz n z row::rs,v::l,H=>Yg (.o ty esz n z row) v H/\pG rs=true/\kI rs l H
 |.a c::rs,v::l,H=>Yg (.a c) v H/\pG rs=true/\kI rs l H
 |_,_,_=>False
def gO(good:AV->Prop):gF->Prop
 |.v x=>good x
 |.o _ esz n _ row=>∀i j,i<n->j<esz->good (row i j)
def gR(good:AV->Prop):RT->Prop
 |.v x=>good x
 |.o _ esz n _ row=>∀i j,i<n->j<esz->good (row i j)
 |.a l=>∀r ∈ l,gO good r
theorem zP:∀r:RT,gR (λ_=>True) r
 |.v _=>trivial
 |.o _ _ _ _ _=>λ_ _ _ _=>trivial
 |.a l=>λr _=>by cases r<;>simp[gO]
def a7(P:Program)(f:FuncId)(args:List AV)(rs:List RT):Prop:=tg P f args λv H=>∃l,v=dH l/\kI rs l H
def ln(H:AH):List gF->List AV×AH
 |[]=>([],H)
 |.v x::l=>(x::(ln H l).1,(ln H l).2)
 |.o ty esz n z row::l=>(.os H.next n::(ln (H.new (am ty esz n z row)) l).1,(ln (H.new (am ty esz n z row)) l).2)
def eF(H:AH):List RT->List AV×AH
 |[]=>([],H)
 |.v x::rs=>(x::(eF H rs).1,(eF H rs).2)
 |.o ty esz n z row::rs=>(.os H.next n::(eF H rs).1,H.new (am ty esz n z row))
 |.a l::rs=>(.agg (ln H l).1::(eF H rs).1,(ln H l).2)
section
variable {P:Program} {B B':Nat} {σ' σa:Sg} {Hc Ha:AH} {w':World}
theorem xg{good:AV->Prop}{σf:Sg}(hm:∀{a:AV} {u:Value},a.pu 3=true->good a->VR σ' a u->VR σf a u):∀(rs:List RT) (l:List AV) (us:List Value) (H:AH),kI rs l Hc->pG rs=true->(∀r ∈ rs,gR good r)->cr σ' l us->(eF H rs).2=H/\cr σf (eF H rs).1 us
 |[],[],us,H,_,_,_,hv=>⟨rfl,⟨hv.1,λi v hi=>by simp[eF] at hi⟩⟩
 |[],_::_,_,_,h,_,_,_=>h.elim
 |.v x::rs,[],_,_,h,_,_,_=>h.elim
 |.o _ _ _ _ _::rs,_,_,_,_,ha,_,_=>by simp[pG] at ha
 |.a _::rs,_,_,_,_,ha,_,_=>by simp[pG] at ha
 |.v x::rs,v::l,us,H,h,ha,hg,hv=>by
  obtain⟨⟨rfl,h1⟩,h2⟩:=h
  cases us with
  |nil=>have:=hv.1;simp at this
  |cons u us=>
   have hu:VR σ' v u:=by simpa using hv.2 0 v rfl
   have hv':cr σ' l us:=⟨by simpa using hv.1,λj y hj=>by simpa using hv.2 (j+1) y (by simpa using hj)⟩
   obtain⟨e1,e2⟩:=xg hm rs l us H h2 ha (λr hr=>hg r (List.mem_cons_of_mem _ hr)) hv'
   exact⟨e1,e2.cons (hm h1 (hg _ (List.mem_cons_self ..)) hu)⟩
def tN(B':Nat)(σ' σa:Sg)(Hc Ha:AH)(used:List Nat):Prop:=(∀b ∈ used,∃x,Hc.at b=some x)/\∀b c o,σa b=some (c,o)->Ha.at b≠none->c<B'\/∃b' o',b' ∈ used/\σ' b'=some (c,o')
theorem A2{good:AV->Prop}(hm:∀{a:AV} {u:Value} {σn:Sg},a.pu 3=true->good a->σa.le σn->VR σ' a u->VR σn a u)(hc:HR B' σ' Hc w')(ha:HR B σa Ha w')(hz:∀c fs,B'<=c->σa.fz c=some fs->σ'.fz c=some fs)(hB:B<=B'){used:List Nat}(hold:tN B' σ' σa Hc Ha used)(hnx:Ha.next+1<2^40){ty esz n z:Nat}{row:Nat->Nat->AV}{v:AV}(hr:zu used ty esz n z row v Hc)(hg:∀i j,i<n->j<esz->good (row i j)){u:Value}(hv:VR σ' v u):
  ∃σ2,HR B σ2 (Ha.new (am ty esz n z row)) w'/\VR σ2 (.os Ha.next n) u/\σa.le σ2/\σ2.fz=σa.fz/\(∀b,b<Ha.next->σ2 b=σa b)/\(∀b c o,Ha.next<=b->σ2 b=some (c,o)->B'<=c)/\tN B' σ' σ2 Hc (Ha.new (am ty esz n z row)) (wa v used):=by
 have hsm:=ha.small
 have hatn:∀b,b≠Ha.next->(Ha.new (am ty esz n z row)).at b=Ha.at b:=λb hb=>by
  unfold AH.new
  rw[AH.at_put _ _ _ _ _ _ (by omega),if_neg hb]
 have nilcase:∀(hn0:n=0) (hu0:wa v used=used\/∃b,wa v used=b::used/\∃x,Hc.at b=some x),(∃ad,u= .slice ad 0 0)->∃σ2,HR B σ2 (Ha.new (am ty esz n z row)) w'/\VR σ2 (.os Ha.next n) u/\σa.le σ2/\σ2.fz=σa.fz/\(∀b,b<Ha.next->σ2 b=σa b)/\(∀b c o,Ha.next<=b->σ2 b=some (c,o)->B'<=c)/\tN B' σ' σ2 Hc (Ha.new (am ty esz n z row)) (wa v used):=by
  rintro rfl hu0 ⟨ad,rfl⟩
  refine⟨σa.extNil Ha.next,ha.placeNil rfl (λ_ _ h=>h) hnx rfl (by simp[am]) rfl,.os0 (σ:=σa.extNil Ha.next) (Or.inl rfl) _,Sg.le_extNil _ _,rfl,λ_ _=>rfl,λb c o hb hs=>?_,?_,λb c o hs hne=>?_⟩
  ·have hs':σa b=some (c,o):=hs
   rw[ha.new b hb] at hs';cases hs'
  ·rcases hu0 with e|⟨b0,e,x0,hx0⟩
   ·rw[e];exact hold.1
   ·rw[e];intro b hb
    rcases List.mem_cons.1 hb with rfl|hb
    ·exact⟨x0,hx0⟩
    ·exact hold.1 b hb
  ·have hs':σa b=some (c,o):=hs
   have hb:b≠Ha.next:=λe=>by rw[e,ha.new _ (Nat.le_refl _)] at hs';cases hs'
   rw[hatn b hb] at hne
   rcases hold.2 b c o hs' hne with h1|⟨b',o',h1,h2⟩
   ·exact .inl h1
   ·refine .inr ⟨b',o',?_,h2⟩
    rcases hu0 with e|⟨b0,e,_⟩
    ·rw[e];exact h1
    ·rw[e];exact List.mem_cons_of_mem _ h1
 rcases hr with⟨rfl,rfl⟩|⟨b,rfl,hbu,x,hx,rfl,rfl,hez,hop,hsz,hfz,hget,hcell⟩
 ·refine nilcase rfl (.inl rfl) ?_
  cases hv with
  |sl0 a=>exact⟨_,rfl⟩
 cases hv with
 |os0 hh a=>exact nilcase rfl (.inr ⟨b,rfl,x,hx⟩) ⟨_,rfl⟩
 |@os _ _ _ c k hh hl=>
  obtain⟨cs,p1,p2,p3⟩:=hc.blk b x c _ hx hh
  obtain⟨p4,p5⟩:=p3.op _ rfl
  have hle:σa.le (σa.ext Ha.next (c,some k)):=Sg.le_ext (ha.new _ (Nat.le_refl _))
  refine⟨σa.ext Ha.next (c,some k),?_,.os (Sg.ext_self _ _ _) hl,hle,rfl,λb' hb'=>Sg.ext_ne _ _ (by omega),λb' c' o' hb' hs'=>?_,?_,λb' c' o' hs' hne=>?_⟩
  ·refine ha.place rfl (λb' y hy=>⟨hy,λc' o' hs'=>⟨?_,rfl⟩⟩) hnx rfl (by omega) p2 ha.hB ⟨?_,λe=>(by cases e),λk' hk'=>?_,rfl,λi hi=>?_⟩ ?_ (λc' fs hf=>⟨λ_=>rfl,λe=>?_⟩)
   ·rcases hold.2 b' c' o' hs' (by rw[hy];simp) with h1|⟨b2,o2,h1,h2⟩
    ·omega
    ·rintro rfl
     obtain⟨x2,hx2⟩:=hold.1 b2 h1
     have:=hc.inj b2 b x2 x c' o2 _ hx2 hx h2 hh
     exact hbu (this ▸ h1)
   ·have:=p3.sz
    show n*x.esz<=cs.size
    omega
   ·cases hk';exact⟨p4,p5⟩
   ·have hi':i<n*x.esz:=hi
    have hq:i / x.esz<n:=Nat.div_lt_of_lt_mul (by rw[Nat.mul_comm];exact hi')
    have hmd:i%x.esz<x.esz:=Nat.mod_lt _ hez
    have hdm:i / x.esz*x.esz+i%x.esz=i:=by
     have:=Nat.div_add_mod i x.esz
     rw[Nat.mul_comm] at this
     exact this
    have e1:(am x.ty x.esz n z row).get i=row (i / x.esz) (i%x.esz):=rfl
    rw[e1]
    have e2:=hget _ _ hq hmd
    rw[hdm] at e2
    have e3:=p3.cell i (by omega)
    rw[e2] at e3
    have hce:=hcell _ _ hq hmd
    simp only[AV.cell,Bool.and_eq_true] at hce
    exact hm hce.1 (hg _ _ hq hmd) hle e3
   ·show n*x.esz<2^40
    have:=hc.szs b x hx
    omega
   ·subst e
    obtain⟨cs',t',fr',q1,q2,q3⟩:=hc.frz _ fs (hz _ fs p1 hf)
    rw[p2] at q1
    cases q1
    have:=q3 b x _ hx hh
    exact⟨by show fs.size<=z;omega,q2⟩
  ·by_cases e:b'=Ha.next
   ·subst e;rw[Sg.ext_self] at hs';cases hs';exact p1
   ·rw[Sg.ext_ne _ _ e,ha.new b' hb'] at hs';cases hs'
  ·intro b' hb'
   rcases List.mem_cons.1 hb' with rfl|hb'
   ·exact⟨x,hx⟩
   ·exact hold.1 b' hb'
  ·by_cases e:b'=Ha.next
   ·subst e;rw[Sg.ext_self] at hs';cases hs'
    exact .inr ⟨b,_,List.mem_cons_self ..,hh⟩
   ·rw[Sg.ext_ne _ _ e] at hs'
    rw[hatn b' e] at hne
    rcases hold.2 b' c' o' hs' hne with h1|⟨b2,o2,h1,h2⟩
    ·exact .inl h1
    ·exact .inr ⟨b2,o2,List.mem_cons_of_mem _ h1,h2⟩
theorem o7{good:AV->Prop}{σ0:Sg}(hm:∀{a:AV} {u:Value} {σn:Sg},a.pu 3=true->good a->σ0.le σn->VR σ' a u->VR σn a u)(hc:HR B' σ' Hc w')(hB:B<=B')(hz:∀c fs,B'<=c->σ0.fz c=some fs->σ'.fz c=some fs):∀(rs:List gF) (l:List AV) (us:List Value) {used:List Nat} {Ha:AH} {σa:Sg},σ0.le σa->HR B σa Ha w'->σa.fz=σ0.fz->tN B' σ' σa Hc Ha used->Ha.next+rs.length<2^40->tY Hc used rs l->(∀r ∈ rs,gO good r)->cr σ' l us->
  ∃σ2,HR B σ2 (ln Ha rs).2 w'/\cr σ2 (ln Ha rs).1 us/\σa.le σ2/\σ2.fz=σa.fz/\(∀b,b<Ha.next->σ2 b=σa b)/\Ha.next<=(ln Ha rs).2.next/\(ln Ha rs).2.low=Ha.low/\∀b c o,Ha.next<=b->σ2 b=some (c,o)->B'<=c
 |[],[],us,used,Ha,σa,h0,ha,hz',hold,hnx,h,hg,hv=>⟨σa,ha,⟨hv.1,λi v hi=>by simp[ln] at hi⟩,σa.le_refl,rfl,λ_ _=>rfl,Nat.le_refl _,rfl,λb c o hb hs=>by rw[ha.new b hb] at hs;cases hs⟩
 |[],_::_,_,_,_,_,_,_,_,_,_,h,_,_=>h.elim
 |.v x::rs,[],_,_,_,_,_,_,_,_,_,h,_,_=>h.elim
 |.o _ _ _ _ _::rs,[],_,_,_,_,_,_,_,_,_,h,_,_=>h.elim
 |.v x::rs,v::l,us,used,Ha,σa,h0,ha,hz',hold,hnx,h,hg,hv=>by
  obtain⟨⟨rfl,h1⟩,h2⟩:=h
  cases us with
  |nil=>have:=hv.1;simp at this
  |cons u us=>
   have hu:VR σ' v u:=by simpa using hv.2 0 v rfl
   have hv':cr σ' l us:=⟨by simpa using hv.1,λj y hj=>by simpa using hv.2 (j+1) y (by simpa using hj)⟩
   obtain⟨σ2,e1,e2,e3,e4,e5,e6,e7,e8⟩:=o7 hm hc hB hz rs l us h0 ha hz' hold (by simp only[List.length_cons] at hnx;omega) h2 (λr hr=>hg r (List.mem_cons_of_mem _ hr)) hv'
   exact⟨σ2,e1,e2.cons (hm h1 (hg _ (List.mem_cons_self ..)) (h0.trans e3) hu),e3,e4,e5,e6,e7,e8⟩
 |.o ty esz n z row::rs,v::l,us,used,Ha,σa,h0,ha,hz',hold,hnx,h,hg,hv=>by
  obtain⟨h1,h2⟩:=h
  simp only[List.length_cons] at hnx
  cases us with
  |nil=>have:=hv.1;simp at this
  |cons u us=>
   have hu:VR σ' v u:=by simpa using hv.2 0 v rfl
   have hv':cr σ' l us:=⟨by simpa using hv.1,λj y hj=>by simpa using hv.2 (j+1) y (by simpa using hj)⟩
   obtain⟨σ1,d1,d2,d3,d4,d5,d6,d7⟩:=A2 (good:=good) (λha hg hle hu=>hm ha hg (h0.trans hle) hu) hc ha (λc fs hc hf=>hz c fs hc (by rw[<-hz'];exact hf)) hB hold (by omega) h1 (hg _ (List.mem_cons_self ..)) hu
   have hnn:(Ha.new (am ty esz n z row)).next=Ha.next+1:=rfl
   obtain⟨σ2,e1,e2,e3,e4,e5,e6,e7,e8⟩:=o7 hm hc hB hz rs l us (h0.trans d3) d1 (d4.trans hz') d7 (by rw[hnn];omega) h2 (λr hr=>hg r (List.mem_cons_of_mem _ hr)) hv'
   rw[hnn] at e5 e6 e8
   refine⟨σ2,e1,e2.cons (d2.mono e3),d3.trans e3,e4.trans d4,λb hb=>(e5 b (by omega)).trans (d5 b hb),Nat.le_trans (Nat.le_succ _) e6,e7,λb c o hb hs=>?_⟩
   by_cases e:b=Ha.next
   ·subst e
    rw[e5 _ (by omega)] at hs
    exact d6 _ c o (Nat.le_refl _) hs
   ·exact e8 b c o (by omega) hs
theorem sI{good:AV->Prop}(hm:∀{a:AV} {u:Value} {σn:Sg},a.pu 3=true->good a->σa.le σn->VR σ' a u->VR σn a u)(hc:HR B' σ' Hc w')(ha:HR B σa Ha w')(hz:∀c fs,B'<=c->σa.fz c=some fs->σ'.fz c=some fs)(hB:B<=B')(hold:∀b c o,σa b=some (c,o)->Ha.at b≠none->c<B')(hnx:Ha.next+9<2^40):∀(rs:List RT) (l:List AV) (us:List Value),kI rs l Hc->(∀r ∈ rs,gR good r)->cr σ' l us->
  ∃σ2,HR B σ2 (eF Ha rs).2 w'/\cr σ2 (eF Ha rs).1 us/\σa.le σ2/\σ2.fz=σa.fz/\(∀b,b<Ha.next->σ2 b=σa b)/\Ha.next<=(eF Ha rs).2.next/\(eF Ha rs).2.low=Ha.low/\∀b c o,Ha.next<=b->σ2 b=some (c,o)->B'<=c
 |[],[],us,h,hg,hv=>⟨σa,ha,⟨hv.1,λi v hi=>by simp[eF] at hi⟩,σa.le_refl,rfl,λ_ _=>rfl,Nat.le_refl _,rfl,λb c o hb hs=>by rw[ha.new b hb] at hs;cases hs⟩
 |[],_::_,_,h,_,_=>h.elim
 |.v x::rs,[],_,h,_,_=>h.elim
 |.o _ _ _ _ _::rs,[],_,h,_,_=>h.elim
 |.a _::rs,[],_,h,_,_=>h.elim
 |.v x::rs,v::l,us,h,hg,hv=>by
  obtain⟨⟨rfl,h1⟩,h2⟩:=h
  cases us with
  |nil=>have:=hv.1;simp at this
  |cons u us=>
   have hu:VR σ' v u:=by simpa using hv.2 0 v rfl
   have hv':cr σ' l us:=⟨by simpa using hv.1,λj y hj=>by simpa using hv.2 (j+1) y (by simpa using hj)⟩
   obtain⟨σ2,e1,e2,e3,e4,e5,e6,e7,e8⟩:=sI hm hc ha hz hB hold hnx rs l us h2 (λr hr=>hg r (List.mem_cons_of_mem _ hr)) hv'
   exact⟨σ2,e1,e2.cons (hm h1 (hg _ (List.mem_cons_self ..)) e3 hu),e3,e4,e5,e6,e7,e8⟩
 |.o ty esz n z row::rs,v::l,us,h,hg,hv=>by
  obtain⟨h1,h3,h2⟩:=h
  cases us with
  |nil=>have:=hv.1;simp at this
  |cons u us=>
   have hu:VR σ' v u:=by simpa using hv.2 0 v rfl
   have hv':cr σ' l us:=⟨by simpa using hv.1,λj y hj=>by simpa using hv.2 (j+1) y (by simpa using hj)⟩
   obtain⟨σ2,e1,e2,e3,e4,e5,e6,_⟩:=A2 (good:=good) hm hc ha hz hB (used:=[]) ⟨λb hb=>(by cases hb),λb c o hs hn=> .inl (hold b c o hs hn)⟩ (by omega) h1 (hg _ (List.mem_cons_self ..)) hu
   exact⟨σ2,e1,(xg (good:=good) (λha hg hu=>hm ha hg e3 hu) rs l us Ha h2 h3 (λr hr=>hg r (List.mem_cons_of_mem _ hr)) hv').2.cons e2,e3,e4,e5,Nat.le_succ _,rfl,e6⟩
 |.a c::rs,v::l,us,h,hg,hv=>by
  obtain⟨⟨h0,vs,rfl,h1⟩,h3,h2⟩:=h
  cases us with
  |nil=>have:=hv.1;simp at this
  |cons u us=>
   have hu:VR σ' (.agg vs) u:=by simpa using hv.2 0 _ rfl
   have hv':cr σ' l us:=⟨by simpa using hv.1,λj y hj=>by simpa using hv.2 (j+1) y (by simpa using hj)⟩
   cases hu with
   |@agg _ _ cs hl hh=>
    have hvs:cr σ' vs cs.toList:=⟨by simpa using hl,λi x hx=>by simpa [List.getD_eq_getElem?_getD,Array.getD_eq_getD_getElem?] using hh i x hx⟩
    obtain⟨σ2,e1,e2,e3,e4,e5,e6,e7,e8⟩:=o7 hm hc hB hz c vs cs.toList (used:=[]) σa.le_refl ha rfl ⟨λb hb=>(by cases hb),λb c o hs hn=> .inl (hold b c o hs hn)⟩ (by omega) h1 (hg _ (List.mem_cons_self ..)) hvs
    refine⟨σ2,e1,(xg (good:=good) (λha hg hu=>hm ha hg e3 hu) rs l us Ha h2 h3 (λr hr=>hg r (List.mem_cons_of_mem _ hr)) hv').2.cons ?_,e3,e4,e5,e6,e7,e8⟩
    simpa using e2.agg
theorem gk{σ:Sg}:∀{l:List AV} {u:Value},VR σ (dH l) u->∃us:List Value,cr σ l us/\∀{σ2:Sg} {l2:List AV},l2.length=l.length->cr σ2 l2 us->VR σ2 (dH l2) u
 |[],u,h=>by
  cases h with
  |tup hl hh=>
   rename_i cs
   refine⟨[],cr.nil,λ{σ2 l2} hn hv=>?_⟩
   have:l2=[]:=List.eq_nil_of_length_eq_zero hn
   subst this
   exact .tup hl (λi v hi=>by simp at hi)
 |[v],u,h=>by
  refine⟨[u],cr.nil.cons h,λ{σ2 l2} hn hv=>?_⟩
  match l2,hn with
  |[x],_=>exact hv.2 0 x rfl
 |v1::v2::l,u,h=>by
  cases h with
  |tup hl hh=>
   rename_i cs
   refine⟨cs.toList,⟨by simpa using hl,λi x hx=>by simpa [List.getD_eq_getElem?_getD,Array.getD_eq_getD_getElem?] using hh i x hx⟩,λ{σ2 l2} hn hv=>?_⟩
   match l2,hn with
   |x1::x2::l2,hn=>exact hv.tup
theorem iL:∀(rs:List RT) (l:List AV) (H:AH),kI rs l Hc->(eF H rs).1.length=l.length
 |[],[],_,_=>rfl
 |[],_::_,_,h=>h.elim
 |.v x::rs,[],_,h=>h.elim
 |.o _ _ _ _ _::rs,[],_,h=>h.elim
 |.a _::rs,[],_,h=>h.elim
 |.v x::rs,v::l,H,h=>by simp[eF,iL rs l H h.2]
 |.o ty esz n z row::rs,v::l,H,h=>by simp[eF,iL rs l H h.2.2]
 |.a c::rs,v::l,H,h=>by simp[eF,iL rs l H h.2.2]
end
def jd(M:List Nat)(H:AH):List AV->List AV->Prop
 |[],[]=>True
 |v::l,v2::l2=>Cv M H v v2/\jd M H l l2
 |_,_=>False
theorem jd.ok{M:List Nat}{B:Nat}{σ σ2:Sg}{H:AH}{w:World}(h:HR B σ H w)(hle:σ.le σ2)(hnm:σ2.nm=σ.nm)(hM:∀b ∈ M,th σ2 H w b):∀{l l2:List AV} {us:List Value},jd M H l l2->cr σ l us->cr σ2.bare l2 us
 |[],[],us,_,hv=>⟨hv.1,λi v hi=>by simp at hi⟩
 |[],_::_,_,hc,_=>hc.elim
 |_::_,[],_,hc,_=>hc.elim
 |v::l,v2::l2,[],hc,hv=>by have:=hv.1;simp at this
 |v::l,v2::l2,u::us,hc,hv=>by
  have hu:VR σ v u:=by simpa using hv.2 0 v rfl
  have hv':cr σ l us:=⟨by simpa using hv.1,λj y hj=>by simpa using hv.2 (j+1) y (by simpa using hj)⟩
  exact(jd.ok h hle hnm hM hc.2 hv').cons (hc.1.ok h hle hnm hM hu)
theorem ai{P:Program}{g:FuncId}{args fargs:List AV}{H:AH}{rs:List RT}{Q:AV->AH->Prop}(M:List Nat)(hcv:jd M H args fargs)(h:a7 P g fargs rs)(hnx:H.next+9<2^40)
  (hQ:Q (dH (eF (dW H M) rs).1) (eF (dW H M) rs).2):k9 P g args H Q:=by
 refine⟨h.1,λB σ w args' hH ha=>?_⟩
 obtain⟨σ2,q1,q2,q3,q4,q5,q6,q7⟩:=hH.marks M
 have hd:cr (Sg.data σ2.fz) fargs args'.toList:=hcv.ok hH q1 q2 q7 ha
 have hin:xe σ2.fz w:=λc fs hf=>by
  obtain⟨cs,t,fr,e1,e2,_⟩:=q6.frz c fs hf
  exact⟨cs,t,fr,e1,e2⟩
 refine(h.2 σ2.fz w args' hin hd).mono λe w' hp=>?_
 cases e with
 |panicked c=>exact hp.elim
 |outgrown=>exact hp.elim
 |returned u=>
  obtain⟨v,Hc,σ',⟨l,rfl,hr⟩,hv,hHc,hbel,hfz⟩:=hp
  obtain⟨us,hus,hback⟩:=gk hv
  let σa:Sg:=⟨σ2.nm,σ2.nl,σ'.fz⟩
  have hle:σ2.le σa:=⟨λ_ _ hh=>hh,λ_ hh=>hh,λc fs hf=>⟨fs,by show σ'.fz c=_;rw[hfz c (q6.fzlt hf)];exact hf,kJ.refl _⟩⟩
  have hblt:∀b c o,σa b=some (c,o)->(dW H M).at b≠none->c<w.heap.size:=λb c o hs hne=>by
   cases hx:(dW H M).at b with
   |none=>exact absurd hx hne
   |some x=>
    obtain⟨cs,e1,e2,e3⟩:=q6.blk b x c o hx hs
    exact(Array.getElem?_eq_some_iff.1 e2).1
  have hHa:HR B σa (dW H M) w':=by
   refine⟨q6.new,q6.newl,q6.old,q6.small,Nat.le_trans q6.hB hbel.size,q6.nil,q6.nilp,λb x c o hx hs=>?_,q6.szs,q6.inj,λc fs hf=>?_⟩
   ·obtain⟨cs,e1,e2,e3⟩:=q6.blk b x c o hx hs
    exact⟨cs,e1,by rw[hbel.block c ((Array.getElem?_eq_some_iff.1 e2).1)];exact e2,e3.mono hle⟩
   ·by_cases hc:c<w.heap.size
    ·have hf':σ'.fz c=some fs:=hf
     rw[hfz c hc] at hf'
     obtain⟨cs,t,fr,e1,e2,e3⟩:=q6.frz c fs hf'
     exact⟨cs,t,fr,by rw[hbel.block c hc];exact e1,e2,e3⟩
    ·obtain⟨cs,t,fr,e1,e2,_⟩:=hHc.frz c fs hf
     refine⟨cs,t,fr,e1,e2,λb x o hx hs=>?_⟩
     have:=hblt b c o hs (by rw[hx];simp)
     omega
  have hnx':(dW H M).next+9<2^40:=by rw[ju];exact hnx
  have hmm:∀{a:AV} {u:Value} {σn:Sg},a.pu 3=true->True->σa.le σn->VR σ' a u->VR σn a u:=λhp _ hle' hu=>by
   have e1:=hu.pure 3 hp
   have e2:σ'.bare.le _:=⟨λb x hx=>(by cases hx),λb hb=>False.elim hb,λc' fs hf=>hle'.fz c' fs hf⟩
   exact e1.mono e2
  obtain⟨σ3,p1,p2,p3,p4,p5,p6,p7,p8⟩:=sI (σa:=σa) (good:=λ_=>True) hmm hHc hHa (λc fs _ hf=>hf) hH.hB hblt hnx' rs l us hr (λr _=>zP r) hus
  rw[ju] at p5 p6 p8
  rw[nZ] at p7
  refine⟨_,_,σ3,hQ,hback (iL rs l _ hr) p2,p1,⟨λb hb=>?_,(q1.trans hle).trans p3,p6,by rw[p7];exact Nat.le_refl _,?_,λc hc=> .inl (hbel.block c hc),λb c o hb hs hc=>?_⟩,λc hc=>?_⟩
  ·rw[p5 b hb];show σ2.nm b=σ.nm b;rw[q2]
  ·exact⟨hbel.os,hbel.tape,hbel.output,hbel.size,λk hk=>hbel.block k (by have:=hH.hB;omega)⟩
  ·have:=p8 b c o hb hs
   omega
  ·rw[p4]
   show σ'.fz c=σ.fz c
   rw[hfz c (by have:=hH.hB;omega),q4 c hc]
end Go.Proofs.YtidhfimbnjaceaaGreat
namespace Go.Proofs.YtidhfimbnjaceaaGreat
open Go.RowKit
/-! ### temporaries-/
def au:List (Nat×AV)->Tr AV
 |[]=> .nil
 |p::l=>Tr.set 48 (au l) p.1 p.2
theorem pm(t:Nat):(au []).get t=none:=id rfl
theorem mM{d:Nat}(h:d<1000000)(v:AV)(l:List (Nat×AV))(t:Nat):(au ((d,v)::l)).get t=if t=d then some v else(au l).get t:=by
 show(Tr.set 48 (au l) d v).get t=_
 rw[Tr.get_set 48 _ _ _ _ (by omega)]
theorem cA(l:List (Nat×AV))(d:Nat)(v:AV):bu (au l) (some d) v=au ((d,v)::l):=rfl
theorem xG(e:Tr AV)(v:AV):bu e none v=e:=id rfl
def aZ:Nat->List AV->List (Nat×AV)
 |_,[]=>[]
 |i,v::l=>(i,v)::aZ (i+1) l
theorem rD:∀(l:List AV) (i t:Nat),i+l.length<1000000->(au (aZ i l)).get t=if i<=t/\t<i+l.length then l[t-i]? else none
 |[],i,t,_=>by simp[aZ,pm]
 |v::l,i,t,h=>by
  simp only[List.length_cons] at h
  rw[aZ,mM (by omega),rD l (i+1) t (by omega),List.length_cons]
  by_cases e:t=i
  ·subst e;rw[if_pos rfl,if_pos (by omega)];simp
  ·rw[if_neg e]
   by_cases h2:i+1<=t/\t<i+1+l.length
   ·rw[if_pos h2,if_pos (by omega),show t-i=(t-(i+1))+1 by omega,List.getElem?_cons_succ]
   ·rw[if_neg h2,if_neg (by omega)]
/-! ### blocks-/
def ao:List AB->AH
 |[]=>⟨.nil,0,2^40⟩
 |x::l=>(ao l).new x
theorem ba:∀l:List AB,(ao l).next=l.length
 |[]=>rfl
 |x::l=>by show(ao l).next+1=_;rw[ba l];rfl
theorem yo(b:Nat):(ao []).at b=none:=by simp[ao,AH.at,Tr.get]
theorem pB{H:AH}(h:H.next<1000000)(x:AB)(b:Nat):(H.new x).at b=if b=H.next then(if x.live then some x else none) else H.at b:=by
 unfold AH.new
 rw[AH.at_put _ _ _ _ _ _ (by omega)]
theorem bW(H:AH)(x:AB):(H.new x).next=H.next+1:=id rfl
theorem zE(H:AH)(x:AB):(H.new x).low=H.low:=id rfl
theorem n8(x:AB)(l:List AB):ao (x::l)=(ao l).new x:=id rfl
theorem zD:(ao []).low=2^40:=id rfl
theorem yr{H:AH}{b:Nat}(h:b<1000000)(b':Nat):(H.kill b).at b'=if b'=b then none else H.at b':=by
 unfold AH.kill
 cases hx:H.at b with
 |none=>
  simp only
  by_cases e:b'=b
  ·subst e;rw[if_pos rfl,hx]
  ·rw[if_neg e]
 |some x=>
  simp only
  rw[AH.at_put _ _ _ _ _ _ (by omega)]
  by_cases e:b'=b
  ·rw[if_pos e,if_pos e];simp
  ·rw[if_neg e,if_neg e]
theorem dU(H:AH)(b:Nat):(H.kill b).next=H.next:=AH.kill_next H b
def AH.upd(H:AH)(b:Nat)(x:AB):AH:={H with blks:=Tr.set 48 H.blks b x,low:=min H.low b}
theorem nL(H:AH)(b o:Nat)(v:AV):H.store b o v=match H.at b with
 |some x=>if o<x.size/\x.fzn<=o then some (H.upd b (x.set o v)) else none
 |none=>none:=rfl
theorem Tr.set_set{α:Type}:∀(f:Nat) (t:Tr α) (k:Nat) (x y:α),Tr.set f (Tr.set f t k x) k y=Tr.set f t k y
 |0,t,k,x,y=>rfl
 |f+1,t,k,x,y=>by
  cases t with
  |nil=>
   by_cases k0:k=0
   ·simp[Tr.set,k0]
   ·by_cases k1:k%2=1
    ·simp[Tr.set,k0,k1,Tr.set_set f]
    ·simp[Tr.set,k0,k1,Tr.set_set f]
  |node v l r=>
   by_cases k0:k=0
   ·simp[Tr.set,k0]
   ·by_cases k1:k%2=1
    ·simp[Tr.set,k0,k1,Tr.set_set f]
    ·simp[Tr.set,k0,k1,Tr.set_set f]
theorem tn(H:AH)(b:Nat)(x y:AB):(H.upd b x).upd b y=H.upd b y:=by
 simp only[AH.upd,Tr.set_set,Nat.min_assoc,Nat.min_self]
def AB.putN(x:AB)(o:Nat)(l:List AV):AB:={x with cells:=pW x.cells o l}
theorem lY{H:AH}{b:Nat}(hb:b<1000000):∀(l:List AV) (o:Nat) (v:AV),H.storeN b o (v::l)=match H.at b with
  |some x=>if o+(l.length+1)<=x.size/\x.fzn<=o then some (H.upd b (x.putN o (v::l))) else none
  |none=>none
 |[],o,v=>by
  simp only[AH.storeN,nL]
  cases hx:H.at b with
  |none=>rfl
  |some x=>
   simp only[List.length_nil]
   by_cases h:o<x.size/\x.fzn<=o
   ·rw[if_pos h,if_pos ⟨by omega,h.2⟩];rfl
   ·rw[if_neg h,if_neg (λh'=>h ⟨by omega,h'.2⟩)]
 |v'::l,o,v=>by
  rw[AH.storeN,nL]
  cases hx:H.at b with
  |none=>rfl
  |some x=>
   have hl:x.live=true:=by
    unfold AH.at at hx
    split at hx
    ·split at hx
     ·rename_i hl;cases hx;exact hl
     ·cases hx
    ·cases hx
   simp only[List.length_cons]
   by_cases h:o<x.size/\x.fzn<=o
   ·rw[if_pos h]
    simp only
    have h1:(H.upd b (x.set o v)).at b=some (x.set o v):=by
     show AH.at ⟨Tr.set 48 H.blks b (x.set o v),H.next,min H.low b⟩ b=_
     rw[AH.at_put _ _ _ _ _ _ (by omega),if_pos rfl,if_pos (show(x.set o v).live=true from hl)]
    rw[lY (H:=H.upd b (x.set o v)) hb l (o+1) v',h1]
    simp only
    have e1:(x.set o v).size=x.size:=rfl
    have e2:(x.set o v).fzn=x.fzn:=rfl
    rw[e1,e2,tn]
    by_cases h2:o+(l.length+1+1)<=x.size
    ·rw[if_pos ⟨by omega,by omega⟩,if_pos ⟨h2,h.2⟩];rfl
    ·rw[if_neg (λhh=>h2 (by omega)),if_neg (λhh=>h2 hh.1)]
   ·rw[if_neg h,if_neg (λh'=>h ⟨by omega,h'.2⟩)]
theorem rZ(H:AH)(b o:Nat):H.storeN b o []=some H:=id rfl
theorem gh{x:AB}{o:Nat}{l:List AV}(h:o+l.length<1000000)(i:Nat):(x.putN o l).get i=if o<=i/\i<o+l.length then l[i-o]?.getD .u else x.get i:=by
 simp only[AB.putN,AB.get]
 rw[nK _ _ _ _ (by omega)]
 by_cases hh:o<=i/\i<o+l.length
 ·rw[if_pos hh,if_pos hh,List.getElem?_eq_getElem (by omega)];rfl
 ·rw[if_neg hh,if_neg hh]
theorem ub(x:AB)(o:Nat)(l:List AV):(x.putN o l).size=x.size:=id rfl
theorem xr(x:AB)(o:Nat)(l:List AV):(x.putN o l).fzn=x.fzn:=id rfl
theorem uZ(x:AB)(o:Nat)(l:List AV):(x.putN o l).live=x.live:=id rfl
theorem xC(x:AB)(o:Nat)(l:List AV):(x.putN o l).esz=x.esz:=id rfl
theorem zf(x:AB)(o:Nat)(l:List AV):(x.putN o l).ty=x.ty:=id rfl
theorem wH(x:AB)(o:Nat)(l:List AV):(x.putN o l).opn=x.opn:=id rfl
theorem yn{H:AH}{b:Nat}(h:b<1000000)(x:AB)(b':Nat):(H.upd b x).at b'=if b'=b then(if x.live then some x else none) else H.at b':=AH.at_put _ _ _ _ _ _ (by omega)
theorem dI(H:AH)(b:Nat)(x:AB):(H.upd b x).next=H.next:=id rfl
theorem zC(H:AH)(b:Nat)(x:AB):(H.upd b x).low=min H.low b:=id rfl
theorem yq{H:AH}{b:Nat}(h:b<1000000)(b':Nat):(H.mark b).at b'=if b'=b then(H.at b).map (λx=>{x with fzn:=max x.size x.fzn}) else H.at b':=AH.at_mark (by omega)
theorem wN(H:AH)(l:Nat):AH.next {H with low:=l}=H.next:=id rfl
theorem IY(H:AH)(l b:Nat):AH.at {H with low:=l} b=H.at b:=id rfl
theorem wh(x:AB)(i:Nat)(v:AV):(x.set i v).size=x.size:=id rfl
theorem zQ(x:AB)(i:Nat)(v:AV):(x.set i v).fzn=x.fzn:=id rfl
theorem wY(x:AB)(i:Nat)(v:AV):(x.set i v).live=x.live:=id rfl
theorem zW(x:AB)(i:Nat)(v:AV):(x.set i v).esz=x.esz:=id rfl
theorem HL(x:AB)(i:Nat)(v:AV):(x.set i v).ty=x.ty:=id rfl
theorem zv(x:AB)(i:Nat)(v:AV):(x.set i v).opn=x.opn:=id rfl
def aq(esz ty:Nat)(l:List AV):AB:=⟨l.length,esz,ty,λ_=> .u,ja l,false,true,0⟩
theorem jX(esz ty:Nat)(l:List AV)(i:Nat)(h:l.length<1000000):(aq esz ty l).get i=l[i]?.getD .u:=by
 simp only[aq,AB.get]
 rw[ir l i (by omega)]
theorem aH{ty esz n z:Nat}{row:Nat->Nat->AV}(i j:Nat)(h:j<esz):(am ty esz n z row).get (i*esz+j)=row i j:=by
 show row ((i*esz+j) / esz) ((i*esz+j)%esz)=_
 have h0:0<esz:=by omega
 rw[show i*esz+j=j+esz*i by rw[Nat.mul_comm];omega,Nat.add_mul_div_left _ _ h0,Nat.div_eq_of_lt h,Nat.zero_add,Nat.add_mul_mod_self_left,Nat.mod_eq_of_lt h]
/-! ### another view of a state-/
inductive Wv(r:Nat->Option Nat)(M:List Nat)(H:AH):AV->AV->Prop where
 |cv {v v2:AV} (h:Cv M H v v2):Wv r M H v v2
 |os {b b2 n:Nat} (h:r b2=some b):Wv r M H (.os b n) (.os b2 n)
 |sl {b b2 o n cap:Nat} (h:r b2=some b):Wv r M H (.sl b o n cap) (.sl b2 o n cap)
 |p {b b2 o:Nat} (h:r b2=some b):Wv r M H (.p b o) (.p b2 o)
 |nil {b2:Nat} (h:r b2=none):Wv r M H .sl0 .sl0
 |f {g:FuncId} {l1 l2 l1' l2':List AV} (n1:l1.length=l1'.length) (n2:l2.length=l2'.length) (h1:∀(i:Nat) (v v':AV),l1[i]? =some v->l1'[i]? =some v'->Wv r M H v v') (h2:∀(i:Nat) (v v':AV),l2[i]? =some v->l2'[i]? =some v'->Wv r M H v v'):Wv r M H (.f g l1 l2) (.f g l1' l2')
 |agg {l l':List AV} (n1:l.length=l'.length) (h1:∀(i:Nat) (v v':AV),l[i]? =some v->l'[i]? =some v'->Wv r M H v v'):Wv r M H (.agg l) (.agg l')
theorem Wv.ok{r:Nat->Option Nat}{M:List Nat}{B:Nat}{σ σ2 σ3:Sg}{H:AH}{w:World}(h:HR B σ H w)(hle:σ.le σ2)(hnm:σ2.nm=σ.nm)(hM:∀b ∈ M,th σ2 H w b)(h3:σ2.bare.le σ3)(hr:∀b2 b,r b2=some b->σ3 b2=σ b/\(σ.nl b->σ3.nl b2))
  {v v2:AV} (hc:Wv r M H v v2):∀{u:Value},VR σ v u->VR σ3 v2 u:=by
 induction hc with
 |cv hc=>intro u hu;exact(hc.ok h hle hnm hM hu).mono h3
 |os hb=>
  intro u hu
  obtain⟨e1,e2⟩:=hr _ _ hb
  cases hu with
  |os0 hh a=>exact .os0 (e2 hh) a
  |os hh hl=>exact .os (by show σ3 _=_;rw[e1];exact hh) hl
 |sl hb=>
  intro u hu
  obtain⟨e1,e2⟩:=hr _ _ hb
  cases hu with
  |sl hh=>exact .sl (by show σ3 _=_;rw[e1];exact hh)
  |slo hh hc h0=>exact .slo (by show σ3 _=_;rw[e1];exact hh) hc h0
 |p hb=>
  intro u hu
  obtain⟨e1,e2⟩:=hr _ _ hb
  cases hu with
  |p hh=>exact .p (by show σ3 _=_;rw[e1];exact hh)
 |nil hb=>intro u hu;cases hu;exact .sl0 _
 |f n1 n2 h1 h2 i1 i2=>
  intro u hu
  cases hu with
  |f m1 k1 m2 k2=>
   refine .f (by omega) (λi v' hv'=>?_) (by omega) (λi v' hv'=>?_)
   ·have hlt:=(List.getElem?_eq_some_iff.1 hv').1
    exact i1 i _ v' (List.getElem?_eq_getElem (by omega)) hv' (k1 i _ (List.getElem?_eq_getElem (by omega)))
   ·have hlt:=(List.getElem?_eq_some_iff.1 hv').1
    exact i2 i _ v' (List.getElem?_eq_getElem (by omega)) hv' (k2 i _ (List.getElem?_eq_getElem (by omega)))
 |agg n1 h1 i1=>
  intro u hu
  cases hu with
  |agg m1 k1=>
   refine .agg (by omega) (λi v' hv'=>?_)
   have hlt:=(List.getElem?_eq_some_iff.1 hv').1
   exact i1 i _ v' (List.getElem?_eq_getElem (by omega)) hv' (k1 i _ (List.getElem?_eq_getElem (by omega)))
def aB(r:Nat->Option Nat)(M:List Nat)(H:AH)(e:Tr AV):List (Nat×AV)->Prop
 |[]=>True
 |(t,v2)::l=>(t<1000000/\∃v,e.get t=some v/\Wv r M H v v2)/\aB r M H e l
def ez(r:Nat->Option Nat)(M:List Nat)(H:AH)(b:Nat)(x2:AB):Prop:=
 ∃x,H.at b=some x/\x2.ty=x.ty/\x2.esz=x.esz/\x2.opn=x.opn/\x2.live=true/\(x2.size=x.size\/(x.opn=true/\x2.size<=x.size))/\(if b ∈ M then max x.size x.fzn else x.fzn)<=x2.fzn/\∀i,i<x2.size->Wv r M H (x.get i) (x2.get i)
def aD(r:Nat->Option Nat)(M:List Nat)(H:AH):List Nat->List AB->Prop
 |[],[]=>True
 |b::ρ,x2::bl=>b ∉ ρ/\ez r M H b x2/\aD r M H ρ bl
 |_,_=>False
theorem aB.get{r:Nat->Option Nat}{M:List Nat}{H:AH}{e:Tr AV}:∀{L:List (Nat×AV)},aB r M H e L->∀t v2,(au L).get t=some v2->∃v,e.get t=some v/\Wv r M H v v2
 |[],_,t,v2,h=>by rw[pm] at h;cases h
 |(d,v)::L,⟨⟨hd,v0,h1,h2⟩,hL⟩,t,v2,h=>by
  rw[mM hd] at h
  by_cases e1:t=d
  ·rw[if_pos e1] at h
   cases h
   exact⟨v0,by rw[e1];exact h1,h2⟩
  ·rw[if_neg e1] at h
   exact hL.get t v2 h
theorem aD.len{r:Nat->Option Nat}{M:List Nat}{H:AH}:∀{ρ:List Nat} {bl:List AB},aD r M H ρ bl->ρ.length=bl.length
 |[],[],_=>rfl
 |[],_::_,h=>h.elim
 |_::_,[],h=>h.elim
 |_::ρ,_::bl,h=>by simp[h.2.2.len]
theorem aD.at{r:Nat->Option Nat}{M:List Nat}{H:AH}:∀{ρ:List Nat} {bl:List AB},aD r M H ρ bl->bl.length<1000000->∀b2 x2,(ao bl).at b2=some x2->∃b,ρ.reverse[b2]? =some b/\ez r M H b x2
 |[],[],_,_,b2,x2,hx=>by rw[yo] at hx;cases hx
 |[],_::_,h,_,_,_,_=>h.elim
 |_::_,[],h,_,_,_,_=>h.elim
 |b::ρ,x::bl,h,hl,b2,x2,hx=>by
  simp only[List.length_cons] at hl
  have hlen:=h.2.2.len
  rw[n8,pB (by rw[ba];omega),ba] at hx
  by_cases e:b2=bl.length
  ·rw[if_pos e] at hx
   split at hx
   ·cases hx
    refine⟨b,?_,h.2.1⟩
    rw[e,List.reverse_cons,List.getElem?_append_right (by simp;omega)]
    simp[hlen]
   ·cases hx
  ·rw[if_neg e] at hx
   obtain⟨b',h1,h2⟩:=h.2.2.at (by omega) b2 x2 hx
   refine⟨b',?_,h2⟩
   have hlt:=(List.getElem?_eq_some_iff.1 h1).1
   rw[List.reverse_cons,List.getElem?_append_left (by simpa using hlt)]
   exact h1
theorem aD.inj{r:Nat->Option Nat}{M:List Nat}{H:AH}:∀{ρ:List Nat} {bl:List AB},aD r M H ρ bl->∀(i j:Nat) (b:Nat),ρ.reverse[i]? =some b->ρ.reverse[j]? =some b->i=j
 |[],[],_,i,j,b,h1,_=>by simp at h1
 |[],_::_,h,_,_,_,_,_=>h.elim
 |_::_,[],h,_,_,_,_,_=>h.elim
 |b0::ρ,_::bl,h,i,j,b,h1,h2=>by
  have hn:=h.1
  have part:∀i,(b0::ρ).reverse[i]? =some b->(i<ρ.length/\ρ.reverse[i]? =some b)\/(i=ρ.length/\b=b0):=λi hi=>by
   rw[List.reverse_cons] at hi
   by_cases hl:i<ρ.length
   ·rw[List.getElem?_append_left (by simpa using hl)] at hi
    exact .inl ⟨hl,hi⟩
   ·rw[List.getElem?_append_right (by simp;omega),List.length_reverse] at hi
    have:i-ρ.length=0:=by
     by_cases hz:i-ρ.length=0
     ·exact hz
     ·rw[List.getElem?_eq_none (by simp;omega)] at hi;cases hi
    rw[this] at hi
    simp at hi
    exact .inr ⟨by omega,hi.symm⟩
  have mem:∀i,ρ.reverse[i]? =some b->b ∈ ρ:=λi hi=>List.mem_reverse.1 (List.mem_of_getElem? hi)
  rcases part i h1 with⟨_,e1⟩|⟨e1,e2⟩<;>rcases part j h2 with⟨_,f1⟩|⟨f1,f2⟩
  ·exact h.2.2.inj i j b e1 f1
  ·exact absurd (f2 ▸ mem i e1) hn
  ·exact absurd (e2 ▸ mem j f1) hn
  ·omega
theorem mS:∀(M:List Nat) {H:AH} {b:Nat} {x:AB},(∀b x,H.at b=some x->b<2^40)->H.at b=some x->∃y,(dW H M).at b=some y/\y.fzn<=if b ∈ M then max x.size x.fzn else x.fzn
 |[],H,b,x,_,hx=>⟨x,hx,by simp⟩
 |m::M,H,b,x,hs,hx=>by
  have h1:∀b',(H.mark m).at b'=if b'=m then(H.at m).map (λx=>{x with fzn:=max x.size x.fzn}) else H.at b':=λb'=>by
   by_cases hm:m<2^40
   ·exact AH.at_mark hm
   ·have hn:H.at m=none:=by
     cases h0:H.at m with
     |none=>rfl
     |some z=>exact absurd (hs m z h0) hm
    have:H.mark m=H:=by unfold AH.mark;rw[hn]
    rw[this]
    by_cases e:b'=m
    ·rw[if_pos e,e,hn];rfl
    ·rw[if_neg e]
  have hs2:∀b x,(H.mark m).at b=some x->b<2^40:=λb' x' hx'=>by
   rw[h1] at hx'
   by_cases e:b'=m
   ·rw[if_pos e] at hx'
    cases h0:H.at m with
    |none=>rw[h0] at hx';cases hx'
    |some z=>rw[e];exact hs m z h0
   ·rw[if_neg e] at hx';exact hs b' x' hx'
  by_cases e:b=m
  ·have h2:(H.mark m).at b=some {x with fzn:=max x.size x.fzn}:=by rw[h1,if_pos e,<-e,hx];rfl
   obtain⟨y,y1,y2⟩:=mS M hs2 h2
   refine⟨y,y1,?_⟩
   rw[if_pos (by simp[e])]
   split at y2<;>simp at y2<;>omega
  ·have h2:(H.mark m).at b=some x:=by rw[h1,if_neg e,hx]
   obtain⟨y,y1,y2⟩:=mS M hs2 h2
   refine⟨y,y1,?_⟩
   simpa [e] using y2
theorem Wk.mk{n:Nat}{e:Tr AV}{H:AH}{L:List (Nat×AV)}{bl:List AB}(ρ M:List Nat)(he:aB (λb2=>ρ.reverse[b2]?) M H e L)(hh:aD (λb2=>ρ.reverse[b2]?) M H ρ bl)(hl:bl.length<1000000):Wk n e H (au L) (ao bl):=by
 intro B σ a w hE hH
 obtain⟨σ2,q1,q2,q3,q4,q5,q6,q7⟩:=hH.marks M
 have hlen:=hh.len
 let σ3:Sg:=⟨λb2=>(ρ.reverse[b2]?).bind σ.nm,λb2=>∃b,ρ.reverse[b2]? =some b/\σ.nl b,σ2.fz⟩
 have hr:∀b2 b,ρ.reverse[b2]? =some b->σ3 b2=σ b/\(σ.nl b->σ3.nl b2):=λb2 b hb=>⟨by show(ρ.reverse[b2]?).bind σ.nm=_;rw[hb];rfl,λhn=>⟨b,hb,hn⟩⟩
 have h3:σ2.bare.le σ3:=⟨λb x hx=>(by cases hx),λb hb=>False.elim hb,λc fs hf=>⟨fs,hf,kJ.refl _⟩⟩
 have conv:∀{v v2:AV} {u:Value},Wv (λb2=>ρ.reverse[b2]?) M H v v2->VR σ v u->VR σ3 v2 u:=λhc hu=>hc.ok hH q1 q2 q7 h3 hr hu
 have hat:=hh.at hl
 have out:∀b2,bl.length<=b2->ρ.reverse[b2]? =none:=λb2 hb=>List.getElem?_eq_none (by simp;omega)
 refine⟨σ3,⟨⟨hE.er.df,λt v2 hv=>?_⟩,hE.sz,hE.sm⟩,?_,λc hc=>q4 c hc⟩
 ·obtain⟨v,h1,h2⟩:=he.get t v2 hv
  exact conv h2 (hE.er.get t v h1)
 ·refine⟨λb hb=>?_,λb hb=>?_,λb hb=>?_,by rw[ba];omega,hH.hB,λb x hx hs=>?_,λb hb=>?_,λb x c o hx hs=>?_,λb x hx=>?_,λb b' x x' c o o' k1 k2 k3 k4=>?_,λc fs hf=>?_⟩
  ·rw[ba] at hb
   show(ρ.reverse[b]?).bind σ.nm=none
   rw[out b hb];rfl
  ·rw[ba] at hb
   rintro ⟨b0,e1,_⟩
   rw[out b hb] at e1;cases e1
  ·rw[ba] at hb
   cases hx:(ao bl).at b with
   |none=>rfl
   |some x=>
    obtain⟨b0,e1,_⟩:=hat b x hx
    rw[out b hb] at e1;cases e1
  ·obtain⟨b0,e1,x0,e2,e3,e4,e5,e6,e7,e8,e9⟩:=hat b x hx
   obtain⟨g1,g2⟩:=hr b b0 e1
   rw[g1] at hs
   obtain⟨p1,p2,p3⟩:=hH.nil b0 x0 e2 hs
   refine⟨?_,by rw[e5];exact p2,g2 p3⟩
   rcases e7 with e7|e7<;>omega
  ·obtain⟨b0,e1,e2⟩:=hb
   rw[(hr b b0 e1).1]
   exact hH.nilp b0 e2
  ·obtain⟨b0,e1,x0,e2,e3,e4,e5,e6,e7,e8,e9⟩:=hat b x hx
   rw[(hr b b0 e1).1] at hs
   obtain⟨cs,p1,p2,p3⟩:=hH.blk b0 x0 c o e2 hs
   refine⟨cs,p1,by rw[e3];exact p2,⟨?_,λho=>?_,λk hk=>by rw[e4];exact p3.op k hk,by rw[e5];exact p3.ob,λi hi=>conv (e9 i hi) (p3.cell i ?_)⟩⟩
   ·have:=p3.sz
    rcases e7 with e7|e7<;>omega
   ·rcases e7 with e7|e7
    ·rw[e7];exact p3.ex ho
    ·have:=p3.ob
     rw[e7.1,ho] at this;cases this
   ·rcases e7 with e7|e7<;>omega
  ·obtain⟨b0,e1,x0,e2,e3,e4,e5,e6,e7,e8,e9⟩:=hat b x hx
   have:=hH.szs b0 x0 e2
   rcases e7 with e7|e7<;>omega
  ·obtain⟨b0,e1,x0,e2,_⟩:=hat b x k1
   obtain⟨b1,f1,x1,f2,_⟩:=hat b' x' k2
   rw[(hr b b0 e1).1] at k3
   rw[(hr b' b1 f1).1] at k4
   have hbb:=hH.inj b0 b1 x0 x1 c o o' e2 f2 k3 k4
   subst hbb
   exact hh.inj b b' b0 e1 f1
  ·obtain⟨cs,t,fr,p1,p2,p3⟩:=q6.frz c fs hf
   refine⟨cs,t,fr,p1,p2,λb x o hx hs=>?_⟩
   obtain⟨b0,e1,x0,e2,e3,e4,e5,e6,e7,e8,e9⟩:=hat b x hx
   rw[(hr b b0 e1).1] at hs
   obtain⟨y,y1,y2⟩:=mS M (λb x hx=>Nat.lt_trans (AH.at_lt hH hx) hH.small) e2
   have:=p3 b0 y o y1 (by rw[q2];exact hs)
   omega
def mR(P:Program)(ops:Array Oper):Nat->Array Bool->List (Nat×Nat)->List (Nat×Nat)
 |0,_,acc=>acc.reverse
 |f+1,listed,acc=>
  let ready:=Region.ready .any ops listed
  let kind (j:Nat):Nat:=match ops[j]? with
   |some o=>match pH P o.op with
    |some (.ap x)=>x.kind
    |_=>0
   |none=>0
  let fr:=ready.filter λj=>Region.free .any ops listed j
  match fr.find? (λj=>kind j==2) with
  |some j=>mR P ops f (listed.setIfInBounds j true) ((2,j)::acc)
  |none=>match fr.find? (λj=>kind j==1) with
   |some j=>mR P ops f (listed.setIfInBounds j true) ((1,j)::acc)
   |none=>match ready with
    |j::_=>mR P ops f (listed.setIfInBounds j true) ((0,j)::acc)
    |[]=>acc.reverse
def Iy(ops:Array Oper)(fl:List Nat):List (Nat×Nat)->List (Nat×Nat)
 |[]=>[]
 |(0,j)::l=>(if l.all (·.1 != 1)&&oG .any ops fl j then(3,j) else(0,j))::Iy ops fl l
 |p::l=>p::Iy ops fl l
def ym(P:Program)(ops:Array Oper):List Nat×List Nat×List (Nat×Nat):=
 let pl:=mR P ops ops.size (Array.replicate ops.size false) []
 let fl:=(pl.filter (·.1==1)).map (·.2)
 let pu:=(pl.filter (·.1==2)).map (·.2)
 (fl,pu,Iy ops fl pl)
def qO(P:Program)(ops:Array Oper):Nat->Array Bool->List (Nat×Nat)->List (Nat×Nat)×Array Bool
 |0,listed,acc=>(acc.reverse,listed)
 |f+1,listed,acc=>
  let kind (j:Nat):Nat:=match ops[j]? with
   |some o=>match pH P o.op with
    |some (.ap x)=>x.kind
    |_=>0
   |none=>0
  match(Region.ready .any ops listed).find? (λj=>kind j != 0&&Region.free .any ops listed j) with
  |some j=>qO P ops f (listed.setIfInBounds j true) ((kind j,j)::acc)
  |none=>(acc.reverse,listed)
def wb(ops:Array Oper):Nat->Array Bool->PT
 |0,_=> .fin
 |f+1,listed=>match Region.ready .any ops listed with
  |[]=> .fin
  |l=>l.foldr (λj more=> .alt j (wb ops f (listed.setIfInBounds j true)) more) .none
def qL(P:Program)(ops:Array Oper):List Nat×List Nat×List (Nat×Nat)×Option PT:=
 let(pl,listed):=qO P ops ops.size (Array.replicate ops.size false) []
 ((pl.filter (·.1==1)).map (·.2),(pl.filter (·.1==2)).map (·.2),pl,some (wb ops ops.size listed))
def Aj(P:Program)(ops:Array Oper):List Nat×List Nat×List (Nat×Nat)×Option PT:=
 let(fl,pu,pl):=ym P ops
 if qA .any ops fl pu (pl.map fv) then(fl,pu,pl,none) else qL P ops
def dT:Code->List (Nat×Array Oper)
 |.region id ops true=>[(id,ops)]
 |.region _ _ false=>[]
 |.seq a b=>dT a++dT b
 |.cond _ a b=>dT a++dT b
 |.block _ b=>dT b
 |.loop b=>dT b
 |_=>[]
def aj(P:Program)(f:FuncId):cU:=λid=>match(P.funcs[f]?).bind (·.body) with
 |some c=>((dT c).find? (·.1==id)).map λx=>Aj P x.2
 |none=>none
end Go.Proofs.YtidhfimbnjaceaaGreat