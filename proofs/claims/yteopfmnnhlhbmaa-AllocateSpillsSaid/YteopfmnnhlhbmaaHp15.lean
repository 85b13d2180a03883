/- A part of the proof of AllocateSpills: EvMs IpA. No condition. -/
import Derived.Test.YteopfmnnhlhbmaaHp14
set_option linter.unusedSimpArgs false
set_option linter.unusedVariables false
set_option linter.constructorNameAsVariable false
set_option maxRecDepth 100000
set_option maxHeartbeats 4000000
namespace Go.Proofs.Yteopfmnnhlhbmaa
open Go.RowKit
section
variable (P:Program) (e:Tr AV) (H:AH) (Q:AV->AH->Prop)
theorem RA(x:MO):gK P e H (.mo x) Q=ku e H Q x:=id rfl
theorem Jt:ku e H Q .mm=Ue H Q:=id rfl
theorem Jw(z:AV)(ok:Bool)(x k:AX):ku e H Q (.lk z ok x k)=wI H Q z ok (x.ev e) (k.ev e):=id rfl
theorem Jr(m k v:AX):ku e H Q (.mu m k v)=yc H Q (m.ev e) (k.ev e) (v.ev e):=id rfl
theorem Ju(z:AV)(m k:AX):ku e H Q (.me z m k)=yi H Q z (m.ev e) (k.ev e):=id rfl
theorem Jx(m s v:AX):ku e H Q (.es m s v)=zg H Q (m.ev e) (s.ev e) (v.ev e):=id rfl
theorem Jo(x:AX):ku e H Q (.rg x)=wE H Q (x.ev e):=id rfl
theorem Jp(x:AX):ku e H Q (.nx x)=xX H Q (x.ev e):=id rfl
theorem Jy(x:AX):ku e H Q (.en x)=zk H Q (x.ev e):=id rfl
theorem Jv(x:AX):ku e H Q (.ln x)=wH H Q (x.ev e):=id rfl
theorem Js(neg:Bool)(x:AX):ku e H Q (.mn neg x)=vp H Q neg (x.ev e):=id rfl
theorem Jq(x y:AX):ku e H Q (.mx x y)=wF H Q (x.ev e) (y.ev e):=id rfl
theorem BN(z:AV)(ok:Bool)(i:Int):wI H Q z ok (some (.cv (.map none))) (some (.n .i64 i))=Q (lI ok z false) H:=id rfl
theorem yw(z:AV)(ok:Bool)(i:Int)(r:Nat):wI H Q z ok (some (.cv (.map (some r)))) (some (.n .i64 i))=vH H Q z ok i (H.ob r):=id rfl
theorem JA(z:AV)(ok:Bool)(i:Int)(m:dk):vH H Q z ok i (some (.mp m))=Q (m.look ok z i) H:=id rfl
theorem yb(r:Nat)(i:Int)(v:AV):yc H Q (some (.cv (.map (some r)))) (some (.n .i64 i)) (some v)=vo H Q r i v (H.ob r):=id rfl
theorem Jm(r:Nat)(i:Int)(v:AV)(x:dk):vo H Q r i v (some (.mp x))=(x.own=true/\v.flat=true/\Q .u (H.clr.setOb r (.mp (x.put i v)))):=id rfl
theorem yh(z:AV)(r:Nat)(i:Int):yi H Q z (some (.cv (.map (some r)))) (some (.n .i64 i))=vu H Q z r i (H.ob r):=id rfl
theorem zf(r:Nat)(s:Int)(v:AV):zg H Q (some (.cv (.map (some r)))) (some (.n .i64 s)) (some v)=v8 H Q r s v (H.ob r):=id rfl
theorem xL(r:Nat):wE H Q (some (.cv (.map (some r))))=uW H Q r (H.ob r):=id rfl
theorem xW(t:Nat):xX H Q (some (.cv (.pointer (some ⟨t,0,none⟩))))=tW H Q t (H.ob t):=id rfl
theorem A9:wE H Q (some (.cv (.map none)))=∀t,H.ob t=none->Q (.cv (.pointer (some ⟨t,0,none⟩))) (H.setOb t (.fix (.mapIter none 0 #[] 0))):=id rfl
theorem Br(t a:Nat)(b:Array Nat)(c:Nat):tW H Q t (some (.fix (.mapIter none a b c)))=Q (.tup [.b false]) H:=id rfl
theorem Jl(t:Nat)(y:mP):tW H Q t (some (.it y))=tV H Q t y (H.ob y.m):=id rfl
theorem zj(t:Nat):zk H Q (some (.cv (.pointer (some ⟨t,0,none⟩))))=wc H Q (H.ob t):=id rfl
theorem JU(y:mP):wc H Q (some (.it y))=we H Q y.cur:=id rfl
theorem zl(k:Int)(v:AV):we H Q (some (k,v))=Q (.tup [.n .i64 k,v]) H:=id rfl
theorem BM:wH H Q (some (.cv (.map none)))=Q (.n .i64 0) H:=id rfl
theorem yu(r:Nat):wH H Q (some (.cv (.map (some r))))=vG H Q (H.ob r):=id rfl
theorem Jz(m:dk):vG H Q (some (.mp m))=Q (.n .i64 m.cnt) H:=id rfl
theorem BC(neg:Bool):vp H Q neg (some (.cv (.map none)))=Q (.b (!neg)) H:=id rfl
theorem yd(neg:Bool)(r:Nat):vp H Q neg (some (.cv (.map (some r))))=Q (.b neg) H:=id rfl
theorem ya(i j:Int):wF H Q (some (.n .i64 i)) (some (.n .i64 j))=Q (.n .i64 (if i<j then j else i)) H:=id rfl
end
/-! the goals at which a step stops-/
theorem fS{H:AH}{Q:AV->AH->Prop}(h:∀r,H.ob r=none->Q (.cv (.map (some r))) (H.setOb r (.mp ⟨true,λ_=>none,0,none⟩))):Ue H Q:=h
theorem su{H:AH}{Q:AV->AH->Prop}{z:AV}{r:Nat}{i:Int}{x:dk}(ho:x.own=true)(h:∀s:Int,Q (.tup [(x.get i).getD z,.n .i64 s]) (H.clr.setOb r (.mp (x.ask z i s)))):vu H Q z r i (some (.mp x)):=⟨ho,h⟩
theorem sV{H:AH}{Q:AV->AH->Prop}{r:Nat}{s:Int}{v:AV}{x:dk}(k:Int)(ho:x.own=true)(hf:v.flat=true)(hs:x.stp=some (s,k))(h:Q .u (H.clr.setOb r (.mp (x.put k v)))):v8 H Q r s v (some (.mp x)):=⟨ho,hf,k,hs,h⟩
theorem lH{H:AH}{Q:AV->AH->Prop}{r:Nat}{m:dk}(h:∀t,H.ob t=none->Q (.cv (.pointer (some ⟨t,0,none⟩))) (H.setOb t (.it ⟨r,λk=>(m.get k).isSome,λ_=>false,none⟩))):uW H Q r (some (.mp m)):=h
theorem xY{H:AH}{Q:AV->AH->Prop}{t:Nat}{y:mP}{m:dk}(h0:∀k v,m.get k=some v->y.old k=true)(h1:∀k v,m.get k=some v->y.seen k=false->Q (.tup [.b true,.n .i64 k,v]) (H.setOb t (.it (y.at k v))))
  (h2:(∀k,y.old k=true->y.seen k=true)->Q (.tup [.b false]) H):tV H Q t y (some (.mp m)):=⟨h0,h1,h2⟩
/-! objects-/
theorem zW(H:AH)(r:Nat)(x:OB)(b:Nat):(H.setOb r x).at b=H.at b:=id rfl
theorem ah(H:AH)(r:Nat)(x:OB):(H.setOb r x).next=H.next:=id rfl
theorem vC(H:AH)(r:Nat)(x:OB):(H.setOb r x).low=H.low:=id rfl
theorem xS(H:AH)(r:Nat)(x:OB):(H.setOb r x).ob=bp H.ob r x:=id rfl
theorem J1(H:AH)(b:Nat):H.clr.at b=H.at b:=id rfl
theorem x7(H:AH):H.clr.next=H.next:=id rfl
theorem BL(H:AH):H.clr.low=H.low:=id rfl
theorem Jj(H:AH):H.clr.ob=gj H.ob:=id rfl
theorem Ab(H:AH)(N:Nat->Option OB)(b:Nat):(H.addOb N).at b=H.at b:=id rfl
theorem aj(H:AH)(N:Nat->Option OB):(H.addOb N).next=H.next:=id rfl
theorem vE(H:AH)(N:Nat->Option OB):(H.addOb N).low=H.low:=id rfl
theorem tp(H:AH):H.addOb (λ_=>none)=H:=by
 unfold AH.addOb
 cases H with
 |mk a b c ob=>
  congr 1
  funext r
  show(match ob r with|some x=>some x|none=>none)=ob r
  cases ob r<;>rfl
def jK(ob N:Nat->Option OB):Nat->Option OB:=λr=>match ob r with
 |some x=>some x
 |none=>N r
theorem xU(H:AH)(N:Nat->Option OB):(H.addOb N).ob=jK H.ob N:=id rfl
theorem Am{ob N:Nat->Option OB}{r:Nat}{x:OB}(h:ob r=some x):jK ob N r=some x:=by unfold jK;rw[h]
theorem eM{ob N:Nat->Option OB}{r:Nat}(h:ob r=none):jK ob N r=N r:=by unfold jK;rw[h]
theorem Jh(H:AH)(b:Nat)(x:AB):(H.upd b x).ob=H.ob:=id rfl
theorem vg(H:AH)(l:Nat):(H.setLow l).ob=H.ob:=id rfl
theorem aN(ob:Nat->Option OB)(r:Nat)(x:OB):bp ob r x r=some x:=if_pos rfl
theorem aZ(ob:Nat->Option OB){r r':Nat}(x:OB)(h:¬r'=r):bp ob r x r'=ob r':=if_neg h
theorem dT{ob:Nat->Option OB}{r:Nat}{x:dk}(h:ob r=some (.mp x)):gj ob r=some (.mp x):=by unfold gj;rw[h];rfl
theorem uw{ob:Nat->Option OB}{r:Nat}{y:mP}(h:ob r=some (.it y)):gj ob r=some (.it {y with cur:=none}):=by unfold gj;rw[h];rfl
theorem iz{ob:Nat->Option OB}{r r':Nat}{x:OB}(h:ob r=some x)(h':ob r'=none):¬r=r':=λe=>by rw[e,h'] at h;cases h
theorem JQ(x:Bool):(AV.b x).flat=true:=id rfl
theorem JP(k:IntKind)(x:Int):(AV.n k x).flat=true:=id rfl
theorem B7(v:Value):(AV.cv v).flat=true:=id rfl
theorem IY(v:AV)(b:Bool):lI true v b= .tup [v,.b b]:=id rfl
theorem IZ(v:AV)(b:Bool):lI false v b=v:=id rfl
theorem Wk.mkS{n:Nat}{e:Tr AV}{H:AH}{L:List (Nat×AV)}{bl:List AB}(ρ M:List Nat)(he:aX (λb2=>ρ.reverse[b2]?) M H e L)(hh:aV (λb2=>ρ.reverse[b2]?) M H ρ bl)(hl:bl.length<1000000):Wk n e H (az L) (bh H.ob bl):=
 Wk.mkO ρ M he hh hl (λ_ _ h=>h)
theorem jC{P:Program}(hm:P.follows .mixedOrders=true){f:FuncId}{hints:bN}{F:AF}(hF:bD P hints f=some F){args:List AV}(hlen:args.length<=F.nt/\F.nt<100000){Pr:(Nat->Option OB)->Prop}{Post:(Nat->Option OB)->List RT->(Nat->Option OB)->Prop}
  (h:∀M,Pr M->GA P F.nt hints F.code (az (bt 0 args)) (bh (eS M) []) (jF F.res λv H=>∃(rs:List RT) (N:Nat->Option OB) (l:List AV),Post M rs N/\v=bJ l/\cn rs l H/\∀r x,N r=some x->H.ob r=some x/\xP x=true)):ir P f args Pr Post:=λM hp=>
 yM hm hF hlen.1 (GA.wk (Wk.arg _ _ _ (by omega)) (h M hp))
attribute [go_sem] RA Jt Jw Jr Ju Jx Jo Jp Jy Jv Js Jq BN yw JA yb Jm yh zf xL A9 xW Jl Br zj JU zl BM yu Jz BC yd ya
 zW ah vC xS J1 x7 BL Jj Ab aj vE xU Jh vg Ji AH.kill_ob AH.mark_ob lV o6 z8 af vD xT JQ JP B7 tp IY IZ aN
end Go.Proofs.Yteopfmnnhlhbmaa
namespace Go.Proofs.Yteopfmnnhlhbmaa
open Go.RowKit
def AA(B:Nat)(σ:Sg)(w:World)(Q:AV->AH->Prop):Ending->World->Prop
 |.returned u,w'=>∃v H' σ',Q v H'/\VR σ' v u/\HR B σ' H' w'/\Below B w w'/\i5 B σ σ'
 |_,_=>False
def ov(P:Program)(g:FuncId)(args:List AV)(H:AH)(Q:AV->AH->Prop):Prop:=
 yZ P g/\∀(B:Nat) (σ:Sg) (w:World) (args':Array Value),HR B σ H w->bz σ args args'.toList->Calls P g args' w (AA B σ w Q)
theorem ov.mono{P:Program}{g:FuncId}{args:List AV}{H:AH}{Q Q':AV->AH->Prop}(h:ov P g args H Q)(hq:∀v H',Q v H'->Q' v H'):ov P g args H Q':=
 ⟨h.1,λB σ w args' hH ha=>(h.2 B σ w args' hH ha).mono λe w' hp=>by
  cases e with
  |returned u=>obtain⟨v,H',σ',q,r⟩:=hp;exact⟨v,H',σ',hq _ _ q,r⟩
  |panicked c=>exact hp
  |outgrown=>exact hp⟩
theorem xO{P:Program}(hm:P.follows .mixedOrders=true){f:FuncId}{hints:bN}{F:AF}(hF:bD P hints f=some F){args:List AV}(hlen:args.length<=F.nt){H:AH}{Q:AV->AH->Prop}
  (h:GA P F.nt hints F.code (ff args) H (jF F.res Q)):ov P f args H Q:=by
 unfold bD at hF
 obtain⟨fn,h1,hF⟩:=Option.bind_eq_some_iff.1 hF
 obtain⟨c,h3,hF⟩:=Option.bind_eq_some_iff.1 hF
 obtain⟨ac,h5,hF⟩:=Option.bind_eq_some_iff.1 hF
 obtain⟨r,h6,hF⟩:=Option.bind_eq_some_iff.1 hF
 split at hF
 rotate_left
 ·cases hF
 rename_i hq
 cases hF
 refine⟨⟨fn,h1,hq.1,by rw[h3];rfl⟩,λB σ w args' hH ha=>?_⟩
 refine calls_of_wp h1 h3 ?_
 refine h c h5 B σ _ w _ (jB ha hlen hq.2) hH (λc a w hq=>hq.2) (λx e' H' a' w' σ' q q1 q2 q3 q4=>?_)
 have key:∀l,dW e' H' r=some l->Q (bJ l) H'->a'.defers=[]/\∃v,(results fn a'.tmps).run P w'= .ok v w'/\AA B σ w Q (.returned v) w':=by
  intro l hl hQ
  obtain⟨us,g1,g2⟩:=iL q1.er q2 _ _ _ h6 hl
  have hres:∃u,(results fn a'.tmps).run P w'= .ok u w'/\VR σ' (bJ l) u:=by
   have hsem:results fn a'.tmps=(do let vs<-fn.results.mapM (dJ a');pure (if h:vs.size=1 then vs[0] else .tuple vs)):=by
    unfold results
    rfl
   have hrun:(fn.results.mapM (dJ a')).run P w'= .ok us.toArray w':=by
    simp[Array.mapM_eq_mapM_toList,g1]
   rw[hsem]
   simp only[Sem.run_bind,hrun,Result.andThen_ok,Sem.run_pure]
   refine⟨_,rfl,?_⟩
   have hn:=g2.1
   match l,us,g2,hn with
   |[v],[u],g2,_=>exact g2.2 0 v rfl
   |[],[],_,_=>exact bz.nil.tup
   |v1::v2::l,u1::u2::us,g2,_=>exact g2.tup
  obtain⟨u,k1,k2⟩:=hres
  exact⟨q1.er.df,u,k1,bJ l,H',σ',hQ,k2,q2,q3,q4⟩
 have q':∃l,dW e' H' r=some l/\Q (bJ l) H':=by
  cases x with
  |exit i=>exact q.elim
  |normal=>
   simp only[jF] at q
   split at q
   ·rename_i l hl;exact⟨l,hl,q⟩
   ·exact q.elim
  |ret=>
   simp only[jF] at q
   split at q
   ·rename_i l hl;exact⟨l,hl,q⟩
   ·exact q.elim
 obtain⟨l,hl,hQ⟩:=q'
 have post:=key l hl hQ
 cases x with
 |exit i=>exact q.elim
 |normal=>exact post
 |ret=>exact post
def PE(e:Tr AV):Prop:=∀t v,e.get t=some v->v.pu 3=true
theorem PE.of:∀{L:List (Nat×AV)},(L.all λp=>decide (p.1<1000000)&&p.2.pu 3)=true->PE (az L)
 |[],_,t,v,h=>by rw[jE] at h;cases h
 |(d,x)::L,hL,t,v,h=>by
  simp only[List.all_cons,Bool.and_eq_true,decide_eq_true_eq] at hL
  rw[ea hL.1.1] at h
  by_cases e:t=d
  ·rw[if_pos e] at h
   cases h
   exact hL.1.2
  ·rw[if_neg e] at h
   exact PE.of hL.2 t v h
def Q2(P:Program)(f:AX)(args:List AX)(dst:Option Nat)(Q':Tr AV->AH->Prop)(e1:Tr AV)(H1:AH):Prop:=
 PE e1/\∃g first cap vs,f.ev e1=some (.f g first cap)/\za e1 args=some vs/\ov P g (first++vs++cap) H1 (λv H'=>Q' (co e1 dst v) H')
section
variable {P:Program} {n:Nat} {hints:bN} {B:Nat} {ops:Array Oper} {Q:Exit->Act->World->Prop}
theorem pb:∀(l:List Oper) (l1:List AO) {f:AX} {args:List AX} {dst:Option Nat} {σ:Sg} {e:Tr AV} {H:AH} {a:Act} {w:World} {Q':Tr AV->AH->Prop},eb P n ops l=some (l1++[⟨dst,none,.cl f args⟩])->fB P l1 e H (Q2 P f args dst Q')->EN n σ e a->HR B σ H w->∀{σb:Sg} {wb:World},i5 B σb σ->Below B wb w->
  (∀e' H' a' w' σ',Q' e' H'->EN n σ' e' a'->HR B σ' H' w'->Below B wb w'->i5 B σb σ'->Q .normal a' w')->wpList P ops Q l a w
 |[],l1,f,args,dst,σ,e,H,a,w,Q',hl,hr,hE,h,σb,wb,hz,hb,hQ=>by
  simp only[eb,Option.some.injEq] at hl
  exact absurd hl.symm (by simp)
 |o::l,[],f,args,dst,σ,e,H,a,w,Q',hl,hr,hE,h,σb,wb,hz,hb,hQ=>by
  simp only[eb,List.nil_append] at hl
  obtain⟨x,hx,hl⟩:=Option.bind_eq_some_iff.1 hl
  obtain⟨r,hl2,hr2⟩:=Option.map_eq_some_iff.1 hl
  cases hr2
  have hlnil:l=[]:=by
   cases l with
   |nil=>rfl
   |cons o2 l2=>
    simp only[eb] at hl2
    obtain⟨x2,_,hl2⟩:=Option.bind_eq_some_iff.1 hl2
    obtain⟨r2,_,hr2⟩:=Option.map_eq_some_iff.1 hl2
    cases hr2
  subst hlnil
  unfold mC at hx
  split at hx
  rotate_left
  ·cases hx
  rename_i hd
  obtain⟨g,hg,hx⟩:=Option.bind_eq_some_iff.1 hx
  obtain⟨k,hk,hx⟩:=Option.map_eq_some_iff.1 hx
  cases hx
  obtain⟨hpe,g,first,cap,vs,hfe,hvs,⟨⟨fn,k1,k2,k3⟩,hcall⟩⟩:=hr
  unfold wpList
  rw[dp hE.er hg (b:=true) rfl,if_pos rfl]
  refine .inl ?_
  unfold kN at hk
  split at hk
  ·cases hk
  unfold og at hk
  have nap:∀o:Op,(kg P o).map AK.ap=some (.cl f args)->False:=λo ho=>by
   obtain⟨_,_,h2⟩:=Option.map_eq_some_iff.1 ho
   cases h2
  split at hk
  ·split at hk
   ·obtain⟨_,_,h2⟩:=Option.map_eq_some_iff.1 hk
    cases h2
   ·exact(nap _ hk).elim
  ·rename_i c ho
   split at hk
   ·rename_i f0 hf
    obtain⟨f',hf',hc⟩:=Option.bind_eq_some_iff.1 hk
    obtain⟨l',hl3,h2⟩:=Option.map_eq_some_iff.1 hc
    cases h2
    obtain⟨c1,c2,hev,g1,g2⟩:=zd hf' hE.er hfe
    have hargs:bz σ (first++vs++cap) (c1++c.args.map a.eval++c2).toList:=by
     have:=(g1.app (gH hl3 hE.er hvs)).app g2
     simpa using this
    have hcl:=hcall B σ w _ h hargs
    unfold Oper.wp execOp
    rw[ho]
    simp only[Sem.run_bind,resolve,hf,hev,Deferred.ofValue,Sem.run_pure,Result.andThen_ok,invoke,gY k1 k2 k3,Oper.upon]
    refine Calls.mono hcl (λen w' hp=>?_)
    cases en with
    |returned u=>
     obtain⟨v,H',σ',q0,q1,q2,q3,q4⟩:=hp
     have hle:σ.bare.le σ':=⟨λb x hx=>(by cases hx),λb hb=>False.elim hb,λc fs hf=>q4.le c fs hf⟩
     have hE2:EN n σ' e a:=⟨⟨hE.er.df,λt v hv=>((hE.er.get t v hv).pure 3 (hpe t v hv)).mono hle⟩,hE.sz,hE.sm⟩
     exact hQ _ H' _ w' σ' q0 (hE2.put q1 hd) q2 (hb.trans q3) (hz.trans q4)
    |panicked c=>exact hp.elim
    |outgrown=>exact hp.elim
   ·exact(nap _ hk).elim
  ·exact(nap _ hk).elim
 |o::l,y::l1,f,args,dst,σ,e,H,a,w,Q',hl,hr,hE,h,σb,wb,hz,hb,hQ=>by
  simp only[eb,List.cons_append] at hl
  obtain⟨x,hx,hl⟩:=Option.bind_eq_some_iff.1 hl
  obtain⟨r,hl2,hr2⟩:=Option.map_eq_some_iff.1 hl
  cases hr2
  unfold mC at hx
  split at hx
  rotate_left
  ·cases hx
  rename_i hd
  obtain⟨g,hg,hx⟩:=Option.bind_eq_some_iff.1 hx
  obtain⟨k,hk,rfl⟩:=Option.map_eq_some_iff.1 hx
  simp only[fB] at hr
  unfold wpList
  split at hr
  rotate_left
  ·exact hr.elim
  rename_i t hw
  cases t
  rotate_left
  ·replace hr:=hr.1 rfl
   rw[dp hE.er hg hw,if_pos rfl]
   refine .inl (ug hk hE.er h hr λv H1 u w1 σ1 q0 q1 q2 q3 q4 _=>?_)
   exact pb l l1 hl2 q0 ((hE.mono q3.ext).put q1 hd) q2 (hz.trans q4) (hb.trans q3.bel) hQ
  ·replace hr:=hr.2 rfl
   rw[dp hE.er hg hw,if_neg (by simp)]
   exact pb l l1 hl2 hr (hE.put (u:=undef) (.tup rfl (λi v h=>by simp at h)) hd) h hz hb hQ
end
theorem GA.regp{P:Program}{n:Nat}{hints:bN}{e:Tr AV}{H:AH}{Q:AE->Tr AV->AH->Prop}{l0 l:List AO}{f:AX}{args:List AX}{dst:Option Nat}(hl0:l0=l++[⟨dst,none,.cl f args⟩])(h:fB P l e H (Q2 P f args dst (λe' H'=>Q .normal e' H'))):GA P n hints (.reg l0) e H Q:=λc hc B σ a w R hE hH hp hR=>by
 subst hl0
 obtain⟨id,ops,rfl,hl⟩:=bG hc
 exact wp_region_list (pb _ _ hl h hE hH (.refl _ σ) (Below.refl _ _) (λe' H' a' w' σ' q k1 k2 k3 k4=>hR .normal e' H' a' w' σ' q k1 k2 k3 k4))
end Go.Proofs.Yteopfmnnhlhbmaa