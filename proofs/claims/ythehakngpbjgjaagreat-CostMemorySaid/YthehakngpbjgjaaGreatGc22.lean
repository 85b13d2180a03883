/- A part of the proof of CostMemory: EvMs IpA IpB. No condition. -/
import Derived.Test.YthehakngpbjgjaaGreatGc17
set_option linter.unusedSimpArgs false
set_option linter.unusedVariables false
set_option linter.constructorNameAsVariable false
set_option maxRecDepth 100000
set_option maxHeartbeats 4000000
namespace Go.Proofs.YthehakngpbjgjaaGreat
open Go.RowKit
section
variable (P:Program) (e:Tr AV) (H:AH) (Q:AV->AH->Prop)
theorem sd(x:MO):gK P e H (.mo x) Q=dp e H Q x:=id rfl
theorem C7:dp e H Q .mm=mmP H Q:=id rfl
theorem Da(z:AV)(ok:Bool)(x k:AX):dp e H Q (.lk z ok x k)=kh H Q z ok (x.ev e) (k.ev e):=id rfl
theorem C5(m k v:AX):dp e H Q (.mu m k v)=kZ H Q (m.ev e) (k.ev e) (v.ev e):=id rfl
theorem C8(z:AV)(m k:AX):dp e H Q (.me z m k)=lg H Q z (m.ev e) (k.ev e):=id rfl
theorem Db(m s v:AX):dp e H Q (.es m s v)=mb H Q (m.ev e) (s.ev e) (v.ev e):=id rfl
theorem C2(x:AX):dp e H Q (.rg x)=kc H Q (x.ev e):=id rfl
theorem C3(x:AX):dp e H Q (.nx x)=kP H Q (x.ev e):=id rfl
theorem Dc(x:AX):dp e H Q (.en x)=mr H Q (x.ev e):=id rfl
theorem C9(x:AX):dp e H Q (.ln x)=kg H Q (x.ev e):=id rfl
theorem C6(neg:Bool)(x:AX):dp e H Q (.mn neg x)=jz H Q neg (x.ev e):=id rfl
theorem C4(x y:AX):dp e H Q (.mx x y)=jw H Q (x.ev e) (y.ev e):=id rfl
theorem pZ(z:AV)(ok:Bool)(i:Int):kh H Q z ok (some (.cv (.map none))) (some (.n .i64 i))=Q (fW ok z false) H:=id rfl
theorem lB(z:AV)(ok:Bool)(i:Int)(r:Nat):kh H Q z ok (some (.cv (.map (some r)))) (some (.n .i64 i))=jJ H Q z ok i (H.ob r):=id rfl
theorem De(z:AV)(ok:Bool)(i:Int)(m:dT):jJ H Q z ok i (some (.mp m))=Q (m.look ok z i) H:=id rfl
theorem kY(r:Nat)(i:Int)(v:AV):kZ H Q (some (.cv (.map (some r)))) (some (.n .i64 i)) (some v)=jx H Q r i v (H.ob r):=id rfl
theorem C1(r:Nat)(i:Int)(v:AV)(x:dT):jx H Q r i v (some (.mp x))=(x.own=true/\v.flat=true/\Q .u (H.clr.setOb r (.mp (x.put i v)))):=id rfl
theorem lc(z:AV)(r:Nat)(i:Int):lg H Q z (some (.cv (.map (some r)))) (some (.n .i64 i))=kf H Q z r i (H.ob r):=id rfl
theorem ma(r:Nat)(s:Int)(v:AV):mb H Q (some (.cv (.map (some r)))) (some (.n .i64 s)) (some v)=kj H Q r s v (H.ob r):=id rfl
theorem kF(r:Nat):kc H Q (some (.cv (.map (some r))))=kd H Q r (H.ob r):=id rfl
theorem kO(t:Nat):kP H Q (some (.cv (.pointer (some ⟨t,0,none⟩))))=iU H Q t (H.ob t):=id rfl
theorem pE:kc H Q (some (.cv (.map none)))=∀t,H.ob t=none->Q (.cv (.pointer (some ⟨t,0,none⟩))) (H.setOb t (.fix (.mapIter none 0 #[] 0))):=id rfl
theorem pP(t a:Nat)(b:Array Nat)(c:Nat):iU H Q t (some (.fix (.mapIter none a b c)))=Q (.tup [.b false]) H:=id rfl
theorem C0(t:Nat)(y:kl):iU H Q t (some (.it y))=ke H Q t y (H.ob y.m):=id rfl
theorem mq(t:Nat):mr H Q (some (.cv (.pointer (some ⟨t,0,none⟩))))=jY H Q (H.ob t):=id rfl
theorem Dp(y:kl):jY H Q (some (.it y))=jZ H Q y.cur:=id rfl
theorem mw(k:Int)(v:AV):jZ H Q (some (k,v))=Q (.tup [.n .i64 k,v]) H:=id rfl
theorem pY:kg H Q (some (.cv (.map none)))=Q (.n .i64 0) H:=id rfl
theorem lx(r:Nat):kg H Q (some (.cv (.map (some r))))=jI H Q (H.ob r):=id rfl
theorem Dd(m:dT):jI H Q (some (.mp m))=Q (.n .i64 m.cnt) H:=id rfl
theorem pR(neg:Bool):jz H Q neg (some (.cv (.map none)))=Q (.b (!neg)) H:=id rfl
theorem lb(neg:Bool)(r:Nat):jz H Q neg (some (.cv (.map (some r))))=Q (.b neg) H:=id rfl
theorem kX(i j:Int):jw H Q (some (.n .i64 i)) (some (.n .i64 j))=Q (.n .i64 (if i<j then j else i)) H:=id rfl
end
/-! the goals at which a step stops-/
/-! objects-/
theorem mM(H:AH)(r:Nat)(x:OB)(b:Nat):(H.setOb r x).at b=H.at b:=id rfl
theorem g8(H:AH)(r:Nat)(x:OB):(H.setOb r x).next=H.next:=id rfl
theorem jF(H:AH)(r:Nat)(x:OB):(H.setOb r x).low=H.low:=id rfl
theorem kM(H:AH)(r:Nat)(x:OB):(H.setOb r x).ob=kG H.ob r x:=id rfl
theorem Dv(H:AH)(b:Nat):H.clr.at b=H.at b:=id rfl
theorem kW(H:AH):H.clr.next=H.next:=id rfl
theorem pX(H:AH):H.clr.low=H.low:=id rfl
theorem CZ(H:AH):H.clr.ob=QE H.ob:=id rfl
theorem mT(H:AH)(N:Nat->Option OB)(b:Nat):(H.addOb N).at b=H.at b:=id rfl
theorem g9(H:AH)(N:Nat->Option OB):(H.addOb N).next=H.next:=id rfl
theorem jH(H:AH)(N:Nat->Option OB):(H.addOb N).low=H.low:=id rfl
theorem iz(H:AH):H.addOb (λ_=>none)=H:=by
 unfold AH.addOb
 cases H with
 |mk a b c ob mp=>
  congr 1
  funext r
  show(match ob r with|some x=>some x|none=>none)=ob r
  cases ob r<;>rfl
def Sj(ob N:Nat->Option OB):Nat->Option OB:=λr=>match ob r with
 |some x=>some x
 |none=>N r
theorem kN(H:AH)(N:Nat->Option OB):(H.addOb N).ob=Sj H.ob N:=id rfl
theorem CX(H:AH)(b:Nat)(x:AB):(H.upd b x).ob=H.ob:=id rfl
theorem jr(H:AH)(l:Nat):(H.setLow l).ob=H.ob:=id rfl
theorem gU(ob:Nat->Option OB)(r:Nat)(x:OB):kG ob r x r=some x:=if_pos rfl
theorem Dn(x:Bool):(AV.b x).flat=true:=id rfl
theorem Dm(k:IntKind)(x:Int):(AV.n k x).flat=true:=id rfl
theorem qk(v:Value):(AV.cv v).flat=true:=id rfl
theorem Cy(v:AV)(b:Bool):fW true v b= .tup [v,.b b]:=id rfl
theorem Cz(v:AV)(b:Bool):fW false v b=v:=id rfl
attribute [go_sem] sd C7 Da C5 C8 Db C2 C3 Dc C9 C6 C4 pZ lB De kY C1 lc ma kF pE kO C0 pP mq Dp mw pY lx Dd pR lb kX
 mM g8 jF kM Dv kW pX CZ mT g9 jH kN CX jr CY AH.kill_ob AH.mark_ob gf i3 mS bw jG f8 Dn Dm qk iz Cy Cz gU
end Go.Proofs.YthehakngpbjgjaaGreat
namespace Go.Proofs.YthehakngpbjgjaaGreat
open Go.RowKit
def iA(B:Nat)(σ:Sg)(w:World)(Q:AV->AH->Prop):Ending->World->Prop
 |.returned u,w'=>∃v H' σ',Q v H'/\VR σ' v u/\HR B σ' H' w'/\Below B w w'/\dG B σ σ'
 |_,_=>False
def eY(P:Program)(g:FuncId)(args:List AV)(H:AH)(Q:AV->AH->Prop):Prop:=
 Dl P g/\∀(B:Nat) (σ:Sg) (w:World) (args':Array Value),HR B σ H w->ax σ args args'.toList->Calls P g args' w (iA B σ w Q)
theorem eY.mono{P:Program}{g:FuncId}{args:List AV}{H:AH}{Q Q':AV->AH->Prop}(h:eY P g args H Q)(hq:∀v H',Q v H'->Q' v H'):eY P g args H Q':=
 ⟨h.1,λB σ w args' hH ha=>(h.2 B σ w args' hH ha).mono λe w' hp=>by
  cases e with
  |returned u=>obtain⟨v,H',σ',q,r⟩:=hp;exact⟨v,H',σ',hq _ _ q,r⟩
  |panicked c=>exact hp
  |outgrown=>exact hp⟩
theorem kJ{P:Program}[IdleOK P](hm:P.follows .mixedOrders=true){f:FuncId}{hints:aU}{F:AF}(hF:ae P hints f=some F){args:List AV}(hlen:args.length<=F.nt){H:AH}{Q:AV->AH->Prop}
  (h:GA P F.nt hints F.code (cw args) H (gw F.res Q)):eY P f args H Q:=by
 unfold ae at hF
 obtain⟨fn,h1,hF⟩:=Option.bind_eq_some_iff.1 hF
 obtain⟨c,h3,hF⟩:=Option.bind_eq_some_iff.1 hF
 obtain⟨ac,h5,hF⟩:=Option.bind_eq_some_iff.1 hF
 obtain⟨r,h6,hF⟩:=Option.bind_eq_some_iff.1 hF
 split at hF
 rotate_left
 ·cases hF
 rename_i hq
 cases hF
 refine⟨⟨fn,h1,hq.1,by rw[h3];rfl⟩,λB σ w args' hH ha=>?_⟩
 refine bA h1 h3 ?_
 refine h c h5 B σ _ w _ (fv ha hlen hq.2) hH (λc a w hq=>hq.elim) (λx e' H' a' w' σ' q q1 q2 q3 q4=>?_)
 have key:∀l,bQ e' H' r=some l->Q (aJ l) H'->(∀d ∈ a'.defers,eZ d)/\∃v,(results fn a'.tmps).run P w'= .ok v w'/\iA B σ w Q (.returned v) w':=by
  intro l hl hQ
  obtain⟨us,g1,g2⟩:=ea q1.er q2 _ _ _ h6 hl
  have hres:∃u,(results fn a'.tmps).run P w'= .ok u w'/\VR σ' (aJ l) u:=by
   have hsem:results fn a'.tmps=(do let vs<-fn.results.mapM (ce a');pure (if h:vs.size=1 then vs[0] else .tuple vs)):=by
    unfold results
    rfl
   have hrun:(fn.results.mapM (ce a')).run P w'= .ok us.toArray w':=by
    simp[Array.mapM_eq_mapM_toList,g1]
   rw[hsem]
   simp only[Sem.run_bind,hrun,Result.andThen_ok,Sem.run_pure]
   refine⟨_,rfl,?_⟩
   have hn:=g2.1
   match l,us,g2,hn with
   |[v],[u],g2,_=>exact g2.2 0 v rfl
   |[],[],_,_=>exact ax.nil.tup
   |v1::v2::l,u1::u2::us,g2,_=>exact g2.tup
  obtain⟨u,k1,k2⟩:=hres
  exact⟨q1.er.df,u,k1,aJ l,H',σ',hQ,k2,q2,q3,q4⟩
 have q':∃l,bQ e' H' r=some l/\Q (aJ l) H':=by
  cases x with
  |exit i=>exact q.elim
  |normal=>
   simp only[gw] at q
   split at q
   ·rename_i l hl;exact⟨l,hl,q⟩
   ·exact q.elim
  |ret=>
   simp only[gw] at q
   split at q
   ·rename_i l hl;exact⟨l,hl,q⟩
   ·exact q.elim
 obtain⟨l,hl,hQ⟩:=q'
 obtain⟨k1,v,k2,k3⟩:=key l hl hQ
 have post:Leaves P fn a'.tmps (iA B σ w Q) a'.defers .returning w':=bK k2 k3 _ k1
 cases x with
 |exit i=>exact q.elim
 |normal=>exact post
 |ret=>exact post
section
variable {P:Program} {n:Nat} {hints:aU} {B:Nat} {ops:Array Oper} {Q:Exit->Act->World->Prop}
end
end Go.Proofs.YthehakngpbjgjaaGreat
namespace Go.Proofs.YthehakngpbjgjaaGreat
open Go.RowKit
def QI(e e2:Tr AV):Prop:=∀t v,e2.get t=some v->e.get t=some v/\v.pu 3=true
def P5(P:Program)(f:AX)(args:List AX)(dst:Option Nat)(Q':Tr AV->AH->Prop)(e1:Tr AV)(H1:AH):Prop:=
 ∃e2,QI e1 e2/\∃g first cap vs,f.ev e1=some (.f g first cap)/\ki e1 args=some vs/\eY P g (first++vs++cap) H1 (λv H'=>Q' (aF e2 dst v) H')
section
variable {P:Program} {n:Nat} {hints:aU} {B:Nat} {ops:Array Oper} {Q:Exit->Act->World->Prop}
theorem ej:∀(l:List Oper) (l1 l2:List AO) {f:AX} {args:List AX} {dst:Option Nat} {σ:Sg} {e:Tr AV} {H:AH} {a:Act} {w:World} {Q':Tr AV->AH->Prop},bB P n ops l=some (l1++⟨dst,none,.cl f args⟩::l2)->cg P l1 e H (P5 P f args dst (λe' H'=>cg P l2 e' H' Q'))->EN n σ e a->HR B σ H w->∀{σb:Sg} {wb:World},dG B σb σ->Below B wb w->
  (∀e' H' a' w' σ',Q' e' H'->EN n σ' e' a'->HR B σ' H' w'->Below B wb w'->dG B σb σ'->Q .normal a' w')->wpList P ops Q l a w
 |[],l1,l2,f,args,dst,σ,e,H,a,w,Q',hl,hr,hE,h,σb,wb,hz,hb,hQ=>by
  simp only[bB,Option.some.injEq] at hl
  exact absurd hl.symm (by simp)
 |o::l,[],l2,f,args,dst,σ,e,H,a,w,Q',hl,hr,hE,h,σb,wb,hz,hb,hQ=>by
  simp only[bB,List.nil_append] at hl
  obtain⟨x,hx,hl⟩:=Option.bind_eq_some_iff.1 hl
  obtain⟨r,hl2,hr2⟩:=Option.map_eq_some_iff.1 hl
  cases hr2
  unfold dM at hx
  split at hx
  rotate_left
  ·cases hx
  rename_i hd
  obtain⟨g,hg,hx⟩:=Option.bind_eq_some_iff.1 hx
  obtain⟨k,hk,hx⟩:=Option.map_eq_some_iff.1 hx
  cases hx
  obtain⟨e2,hpe,g,first,cap,vs,hfe,hvs,⟨⟨fn,k1,k2,k3⟩,hcall⟩⟩:=hr
  unfold wpList
  rw[aL hE.er hg (b:=true) rfl,if_pos rfl]
  refine .inl ?_
  unfold dj at hk
  split at hk
  ·cases hk
  unfold eX at hk
  have nap:∀o:Op,(cU P o).map AK.ap=some (.cl f args)->False:=λo ho=>by
   obtain⟨_,_,h2⟩:=Option.map_eq_some_iff.1 ho
   cases h2
  split at hk
  ·split at hk
   ·obtain⟨_,_,h2⟩:=Option.map_eq_some_iff.1 hk
    cases h2
   ·exact(nap _ hk).elim
  ·rename_i c ho
   split at hk
   ·rename_i f0 hf
    obtain⟨f',hf',hc⟩:=Option.bind_eq_some_iff.1 hk
    obtain⟨l',hl3,h2⟩:=Option.map_eq_some_iff.1 hc
    cases h2
    obtain⟨c1,c2,hev,g1,g2⟩:=l7 hf' hE.er hfe
    have hargs:ax σ (first++vs++cap) (c1++c.args.map a.eval++c2).toList:=by
     have:=(g1.app (bS hl3 hE.er hvs)).app g2
     simpa using this
    have hcl:=hcall B σ w _ h hargs
    unfold Oper.wp execOp
    rw[ho]
    simp only[Sem.run_bind,resolve,hf,hev,Deferred.ofValue,Sem.run_pure,Result.andThen_ok,invoke,cD k1 k2 k3,Oper.upon]
    refine Calls.mono hcl (λen w' hp=>?_)
    cases en with
    |returned u=>
     obtain⟨v,H',σ',q0,q1,q2,q3,q4⟩:=hp
     have hle:σ.bare.le σ':=⟨λb x hx=>(by cases hx),λb hb=>False.elim hb,λc fs hf=>q4.le c fs hf⟩
     have hE2:EN n σ' e2 a:=⟨⟨hE.er.df,λt v hv=>((hE.er.get t v (hpe t v hv).1).pure 3 (hpe t v hv).2).mono hle⟩,hE.sz,hE.sm⟩
     exact dQ l l2 hl2 q0 (hE2.put q1 hd) q2 (hz.trans q4) (λe' H'' a' w'' σ'' p0 p1 p2 p3 p4=>hQ e' H'' a' w'' σ'' p0 p1 p2 ((hb.trans q3).trans p3.bel) p4)
    |panicked c=>exact hp.elim
    |outgrown=>exact hp.elim
   ·exact(nap _ hk).elim
  ·exact(nap _ hk).elim
 |o::l,y::l1,l2,f,args,dst,σ,e,H,a,w,Q',hl,hr,hE,h,σb,wb,hz,hb,hQ=>by
  simp only[bB,List.cons_append] at hl
  obtain⟨x,hx,hl⟩:=Option.bind_eq_some_iff.1 hl
  obtain⟨r,hl2,hr2⟩:=Option.map_eq_some_iff.1 hl
  cases hr2
  unfold dM at hx
  split at hx
  rotate_left
  ·cases hx
  rename_i hd
  obtain⟨g,hg,hx⟩:=Option.bind_eq_some_iff.1 hx
  obtain⟨k,hk,rfl⟩:=Option.map_eq_some_iff.1 hx
  simp only[cg] at hr
  unfold wpList
  split at hr
  rotate_left
  ·exact hr.elim
  rename_i t hw
  cases t
  rotate_left
  ·replace hr:=hr.1 rfl
   rw[aL hE.er hg hw,if_pos rfl]
   refine .inl (gp hk hE.er h hr λv H1 u w1 σ1 q0 q1 q2 q3 q4 _=>?_)
   exact ej l l1 l2 hl2 q0 ((hE.mono q3.ext).put q1 hd) q2 (hz.trans q4) (hb.trans q3.bel) hQ
  ·replace hr:=hr.2 rfl
   rw[aL hE.er hg hw,if_neg (by simp)]
   exact ej l l1 l2 hl2 hr (hE.put (u:=undef) (.tup rfl (λi v h=>by simp at h)) hd) h hz hb hQ
end
theorem GA.regx{P:Program}{n:Nat}{hints:aU}{e:Tr AV}{H:AH}{Q:AE->Tr AV->AH->Prop}{l0 l1 l2:List AO}{f:AX}{args:List AX}{dst:Option Nat}(hl0:l0=l1++⟨dst,none,.cl f args⟩::l2)(h:cg P l1 e H (P5 P f args dst (λe' H'=>cg P l2 e' H' (λe' H'=>Q .normal e' H')))):GA P n hints (.reg l0) e H Q:=λc hc B σ a w R hE hH hp hR=>by
 subst hl0
 obtain⟨id,ops,rfl,hl⟩:=aN hc
 exact wp_region_list (ej _ _ _ hl h hE hH (.refl _ σ) (Below.refl _ _) (λe' H' a' w' σ' q k1 k2 k3 k4=>hR .normal e' H' a' w' σ' q k1 k2 k3 k4))
theorem QI.of{e:Tr AV}:∀{L:List (Nat×AV)},(∀p ∈ L,p.1<1000000/\e.get p.1=some p.2/\p.2.pu 3=true)->QI e (aG L)
 |[],_,t,v,h=>by rw[dR] at h;cases h
 |(d,x)::L,hL,t,v,h=>by
  obtain⟨h1,h2,h3⟩:=hL (d,x) (List.mem_cons_self ..)
  rw[dg h1] at h
  by_cases e:t=d
  ·rw[if_pos e] at h
   cases h
   subst e
   exact⟨h2,h3⟩
  ·rw[if_neg e] at h
   exact QI.of (λp hp=>hL p (List.mem_cons_of_mem _ hp)) t v h
end Go.Proofs.YthehakngpbjgjaaGreat