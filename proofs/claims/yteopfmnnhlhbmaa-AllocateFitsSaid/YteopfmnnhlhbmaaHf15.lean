/- A part of the proof of AllocateFits: EvMs IpA IpB. No condition. -/
import Derived.Test.YteopfmnnhlhbmaaHf14
set_option linter.unusedSimpArgs false
set_option linter.unusedVariables false
set_option linter.constructorNameAsVariable false
set_option maxRecDepth 100000
set_option maxHeartbeats 4000000
namespace Go.Proofs.Yteopfmnnhlhbmaa
open Go.RowKit
section
variable (P:Program) (e:Tr AV) (H:AH) (Q:AV->AH->Prop)
theorem PC(x:MO):gK P e H (.mo x) Q=kB e H Q x:=id rfl
theorem H8:kB e H Q .mm=Sf H Q:=id rfl
theorem Ib(z:AV)(ok:Bool)(x k:AX):kB e H Q (.lk z ok x k)=wO H Q z ok (x.ev e) (k.ev e):=id rfl
theorem H6(m k v:AX):kB e H Q (.mu m k v)=xZ H Q (m.ev e) (k.ev e) (v.ev e):=id rfl
theorem H9(z:AV)(m k:AX):kB e H Q (.me z m k)=yb H Q z (m.ev e) (k.ev e):=id rfl
theorem Ic(m s v:AX):kB e H Q (.es m s v)=zg H Q (m.ev e) (s.ev e) (v.ev e):=id rfl
theorem HT(x:AX):kB e H Q (.rg x)=wK H Q (x.ev e):=id rfl
theorem HU(x:AX):kB e H Q (.nx x)=xL H Q (x.ev e):=id rfl
theorem Ie(x:AX):kB e H Q (.en x)=zk H Q (x.ev e):=id rfl
theorem Ia(x:AX):kB e H Q (.ln x)=wN H Q (x.ev e):=id rfl
theorem H7(neg:Bool)(x:AX):kB e H Q (.mn neg x)=vr H Q neg (x.ev e):=id rfl
theorem H5(x y:AX):kB e H Q (.mx x y)=wL H Q (x.ev e) (y.ev e):=id rfl
theorem BV(z:AV)(ok:Bool)(i:Int):wO H Q z ok (some (.cv (.map none))) (some (.n .i64 i))=Q (lN ok z false) H:=id rfl
theorem yn(z:AV)(ok:Bool)(i:Int)(r:Nat):wO H Q z ok (some (.cv (.map (some r)))) (some (.n .i64 i))=vJ H Q z ok i (H.ob r):=id rfl
theorem Ii(z:AV)(ok:Bool)(i:Int)(m:dv):vJ H Q z ok i (some (.mp m))=Q (m.look ok z i) H:=id rfl
theorem xY(r:Nat)(i:Int)(v:AV):xZ H Q (some (.cv (.map (some r)))) (some (.n .i64 i)) (some v)=vp H Q r i v (H.ob r):=id rfl
theorem HL(r:Nat)(i:Int)(v:AV)(x:dv):vp H Q r i v (some (.mp x))=(x.own=true/\v.flat=true/\Q .u (H.clr.setOb r (.mp (x.put i v)))):=id rfl
theorem ya(z:AV)(r:Nat)(i:Int):yb H Q z (some (.cv (.map (some r)))) (some (.n .i64 i))=vx H Q z r i (H.ob r):=id rfl
theorem zf(r:Nat)(s:Int)(v:AV):zg H Q (some (.cv (.map (some r)))) (some (.n .i64 s)) (some v)=wh H Q r s v (H.ob r):=id rfl
theorem xB(r:Nat):wK H Q (some (.cv (.map (some r))))=uY H Q r (H.ob r):=id rfl
theorem xK(t:Nat):xL H Q (some (.cv (.pointer (some ⟨t,0,none⟩))))=tY H Q t (H.ob t):=id rfl
theorem Bc:wK H Q (some (.cv (.map none)))=∀t,H.ob t=none->Q (.cv (.pointer (some ⟨t,0,none⟩))) (H.setOb t (.fix (.mapIter none 0 #[] 0))):=id rfl
theorem Bu(t a:Nat)(b:Array Nat)(c:Nat):tY H Q t (some (.fix (.mapIter none a b c)))=Q (.tup [.b false]) H:=id rfl
theorem HK(t:Nat)(y:mY):tY H Q t (some (.it y))=tX H Q t y (H.ob y.m):=id rfl
theorem zj(t:Nat):zk H Q (some (.cv (.pointer (some ⟨t,0,none⟩))))=wl H Q (H.ob t):=id rfl
theorem IC(y:mY):wl H Q (some (.it y))=wm H Q y.cur:=id rfl
theorem zl(k:Int)(v:AV):wm H Q (some (k,v))=Q (.tup [.n .i64 k,v]) H:=id rfl
theorem BU:wN H Q (some (.cv (.map none)))=Q (.n .i64 0) H:=id rfl
theorem ym(r:Nat):wN H Q (some (.cv (.map (some r))))=vI H Q (H.ob r):=id rfl
theorem Ih(m:dv):vI H Q (some (.mp m))=Q (.n .i64 m.cnt) H:=id rfl
theorem BG(neg:Bool):vr H Q neg (some (.cv (.map none)))=Q (.b (!neg)) H:=id rfl
theorem x6(neg:Bool)(r:Nat):vr H Q neg (some (.cv (.map (some r))))=Q (.b neg) H:=id rfl
theorem xX(i j:Int):wL H Q (some (.n .i64 i)) (some (.n .i64 j))=Q (.n .i64 (if i<j then j else i)) H:=id rfl
end
/-! the goals at which a step stops-/
theorem fY{H:AH}{Q:AV->AH->Prop}(h:∀r,H.ob r=none->Q (.cv (.map (some r))) (H.setOb r (.mp ⟨true,λ_=>none,0,none⟩))):Sf H Q:=h
theorem sC{H:AH}{Q:AV->AH->Prop}{z:AV}{r:Nat}{i:Int}{x:dv}(ho:x.own=true)(h:∀s:Int,Q (.tup [(x.get i).getD z,.n .i64 s]) (H.clr.setOb r (.mp (x.ask z i s)))):vx H Q z r i (some (.mp x)):=⟨ho,h⟩
theorem sY{H:AH}{Q:AV->AH->Prop}{r:Nat}{s:Int}{v:AV}{x:dv}(k:Int)(ho:x.own=true)(hf:v.flat=true)(hs:x.stp=some (s,k))(h:Q .u (H.clr.setOb r (.mp (x.put k v)))):wh H Q r s v (some (.mp x)):=⟨ho,hf,k,hs,h⟩
theorem lM{H:AH}{Q:AV->AH->Prop}{r:Nat}{m:dv}(h:∀t,H.ob t=none->Q (.cv (.pointer (some ⟨t,0,none⟩))) (H.setOb t (.it ⟨r,λk=>(m.get k).isSome,λ_=>false,none⟩))):uY H Q r (some (.mp m)):=h
theorem xM{H:AH}{Q:AV->AH->Prop}{t:Nat}{y:mY}{m:dv}(h0:∀k v,m.get k=some v->y.old k=true)(h1:∀k v,m.get k=some v->y.seen k=false->Q (.tup [.b true,.n .i64 k,v]) (H.setOb t (.it (y.at k v))))
  (h2:(∀k,y.old k=true->y.seen k=true)->Q (.tup [.b false]) H):tX H Q t y (some (.mp m)):=⟨h0,h1,h2⟩
/-! objects-/
theorem zX(H:AH)(r:Nat)(x:OB)(b:Nat):(H.setOb r x).at b=H.at b:=id rfl
theorem ai(H:AH)(r:Nat)(x:OB):(H.setOb r x).next=H.next:=id rfl
theorem vE(H:AH)(r:Nat)(x:OB):(H.setOb r x).low=H.low:=id rfl
theorem xH(H:AH)(r:Nat)(x:OB):(H.setOb r x).ob=br H.ob r x:=id rfl
theorem IM(H:AH)(b:Nat):H.clr.at b=H.at b:=id rfl
theorem xR(H:AH):H.clr.next=H.next:=id rfl
theorem BQ(H:AH):H.clr.low=H.low:=id rfl
theorem HH(H:AH):H.clr.ob=gn H.ob:=id rfl
theorem Ac(H:AH)(N:Nat->Option OB)(b:Nat):(H.addOb N).at b=H.at b:=id rfl
theorem aw(H:AH)(N:Nat->Option OB):(H.addOb N).next=H.next:=id rfl
theorem vG(H:AH)(N:Nat->Option OB):(H.addOb N).low=H.low:=id rfl
theorem tu(H:AH):H.addOb (λ_=>none)=H:=by
 unfold AH.addOb
 cases H with
 |mk a b c ob=>
  congr 1
  funext r
  show(match ob r with|some x=>some x|none=>none)=ob r
  cases ob r<;>rfl
def jR(ob N:Nat->Option OB):Nat->Option OB:=λr=>match ob r with
 |some x=>some x
 |none=>N r
theorem xJ(H:AH)(N:Nat->Option OB):(H.addOb N).ob=jR H.ob N:=id rfl
theorem An{ob N:Nat->Option OB}{r:Nat}{x:OB}(h:ob r=some x):jR ob N r=some x:=by unfold jR;rw[h]
theorem eO{ob N:Nat->Option OB}{r:Nat}(h:ob r=none):jR ob N r=N r:=by unfold jR;rw[h]
theorem Hz(H:AH)(b:Nat)(x:AB):(H.upd b x).ob=H.ob:=id rfl
theorem vg(H:AH)(l:Nat):(H.setLow l).ob=H.ob:=id rfl
theorem aK(ob:Nat->Option OB)(r:Nat)(x:OB):br ob r x r=some x:=if_pos rfl
theorem aW(ob:Nat->Option OB){r r':Nat}(x:OB)(h:¬r'=r):br ob r x r'=ob r':=if_neg h
theorem d8{ob:Nat->Option OB}{r:Nat}{x:dv}(h:ob r=some (.mp x)):gn ob r=some (.mp x):=by unfold gn;rw[h];rfl
theorem uA{ob:Nat->Option OB}{r:Nat}{y:mY}(h:ob r=some (.it y)):gn ob r=some (.it {y with cur:=none}):=by unfold gn;rw[h];rfl
theorem iH{ob:Nat->Option OB}{r r':Nat}{x:OB}(h:ob r=some x)(h':ob r'=none):¬r=r':=λe=>by rw[e,h'] at h;cases h
theorem Ix(x:Bool):(AV.b x).flat=true:=id rfl
theorem Iw(k:IntKind)(x:Int):(AV.n k x).flat=true:=id rfl
theorem Cg(v:Value):(AV.cv v).flat=true:=id rfl
theorem Hg(v:AV)(b:Bool):lN true v b= .tup [v,.b b]:=id rfl
theorem Hh(v:AV)(b:Bool):lN false v b=v:=id rfl
theorem Wk.mkS{n:Nat}{e:Tr AV}{H:AH}{L:List (Nat×AV)}{bl:List AB}(ρ M:List Nat)(he:bg (λb2=>ρ.reverse[b2]?) M H e L)(hh:bf (λb2=>ρ.reverse[b2]?) M H ρ bl)(hl:bl.length<1000000):Wk n e H (aF L) (bc H.ob bl):=
 Wk.mkO ρ M he hh hl (λ_ _ h=>h)
theorem jF{P:Program}(hm:P.follows .mixedOrders=true){f:FuncId}{hints:bI}{F:AF}(hF:bK P hints f=some F){args:List AV}(hlen:args.length<=F.nt/\F.nt<100000){Pr:(Nat->Option OB)->Prop}{Post:(Nat->Option OB)->List RT->(Nat->Option OB)->Prop}
  (h:∀M,Pr M->GA P F.nt hints F.code (aF (bM 0 args)) (bc (eT M) []) (gP F.res λv H=>∃(rs:List RT) (N:Nat->Option OB) (l:List AV),Post M rs N/\v=bB l/\dR rs l H/\∀r x,N r=some x->H.ob r=some x/\xE x=true)):iz P f args Pr Post:=λM hp=>
 yI hm hF hlen.1 (GA.wk (Wk.arg _ _ _ (by omega)) (h M hp))
attribute [go_sem] PC H8 Ib H6 H9 Ic HT HU Ie Ia H7 H5 BV yn Ii xY HL ya zf xB Bc xK HK Bu zj IC zl BU ym Ih BG x6 xX
 zX ai vE xH IM xR BQ HH Ac aw vG xJ Hz vg HC AH.kill_ob AH.mark_ob l6 pc Aa af vF xI Ix Iw Cg tu Hg Hh aK
end Go.Proofs.Yteopfmnnhlhbmaa
namespace Go.Proofs.Yteopfmnnhlhbmaa
open Go.RowKit
def Az(B:Nat)(σ:Sg)(w:World)(Q:AV->AH->Prop):Ending->World->Prop
 |.returned u,w'=>∃v H' σ',Q v H'/\VR σ' v u/\HR B σ' H' w'/\Below B w w'/\ir B σ σ'
 |_,_=>False
def jU(P:Program)(g:FuncId)(args:List AV)(H:AH)(Q:AV->AH->Prop):Prop:=
 yY P g/\∀(B:Nat) (σ:Sg) (w:World) (args':Array Value),HR B σ H w->bz σ args args'.toList->Calls P g args' w (Az B σ w Q)
theorem jU.mono{P:Program}{g:FuncId}{args:List AV}{H:AH}{Q Q':AV->AH->Prop}(h:jU P g args H Q)(hq:∀v H',Q v H'->Q' v H'):jU P g args H Q':=
 ⟨h.1,λB σ w args' hH ha=>(h.2 B σ w args' hH ha).mono λe w' hp=>by
  cases e with
  |returned u=>obtain⟨v,H',σ',q,r⟩:=hp;exact⟨v,H',σ',hq _ _ q,r⟩
  |panicked c=>exact hp
  |outgrown=>exact hp⟩
theorem qz{P:Program}(hm:P.follows .mixedOrders=true){f:FuncId}{hints:bI}{F:AF}(hF:bK P hints f=some F){args:List AV}(hlen:args.length<=F.nt){H:AH}{Q:AV->AH->Prop}
  (h:GA P F.nt hints F.code (fh args) H (gP F.res Q)):jU P f args H Q:=by
 unfold bK at hF
 obtain⟨fn,h1,hF⟩:=Option.bind_eq_some_iff.1 hF
 obtain⟨c,h3,hF⟩:=Option.bind_eq_some_iff.1 hF
 obtain⟨ac,h5,hF⟩:=Option.bind_eq_some_iff.1 hF
 obtain⟨r,h6,hF⟩:=Option.bind_eq_some_iff.1 hF
 split at hF
 rotate_left
 ·cases hF
 rename_i hq
 cases hF
 refine⟨⟨fn,h1,hq.1,by rw[h3];rfl⟩,λB σ w args' hH ha=>?_⟩
 refine calls_of_wp h1 h3 ?_
 refine h c h5 B σ _ w _ (jE ha hlen hq.2) hH (λc a w hq=>hq.2) (λx e' H' a' w' σ' q q1 q2 q3 q4=>?_)
 have key:∀l,ea e' H' r=some l->Q (bB l) H'->a'.defers=[]/\∃v,(results fn a'.tmps).run P w'= .ok v w'/\Az B σ w Q (.returned v) w':=by
  intro l hl hQ
  obtain⟨us,g1,g2⟩:=iU q1.er q2 _ _ _ h6 hl
  have hres:∃u,(results fn a'.tmps).run P w'= .ok u w'/\VR σ' (bB l) u:=by
   have hsem:results fn a'.tmps=(do let vs<-fn.results.mapM (dT a');pure (if h:vs.size=1 then vs[0] else .tuple vs)):=by
    unfold results
    rfl
   have hrun:(fn.results.mapM (dT a')).run P w'= .ok us.toArray w':=by
    simp[Array.mapM_eq_mapM_toList,g1]
   rw[hsem]
   simp only[Sem.run_bind,hrun,Result.andThen_ok,Sem.run_pure]
   refine⟨_,rfl,?_⟩
   have hn:=g2.1
   match l,us,g2,hn with
   |[v],[u],g2,_=>exact g2.2 0 v rfl
   |[],[],_,_=>exact bz.nil.tup
   |v1::v2::l,u1::u2::us,g2,_=>exact g2.tup
  obtain⟨u,k1,k2⟩:=hres
  exact⟨q1.er.df,u,k1,bB l,H',σ',hQ,k2,q2,q3,q4⟩
 have q':∃l,ea e' H' r=some l/\Q (bB l) H':=by
  cases x with
  |exit i=>exact q.elim
  |normal=>
   simp only[gP] at q
   split at q
   ·rename_i l hl;exact⟨l,hl,q⟩
   ·exact q.elim
  |ret=>
   simp only[gP] at q
   split at q
   ·rename_i l hl;exact⟨l,hl,q⟩
   ·exact q.elim
 obtain⟨l,hl,hQ⟩:=q'
 have post:=key l hl hQ
 cases x with
 |exit i=>exact q.elim
 |normal=>exact post
 |ret=>exact post
def PE(e:Tr AV):Prop:=∀t v,e.get t=some v->v.pu 3=true
theorem PE.of:∀{L:List (Nat×AV)},(L.all λp=>decide (p.1<1000000)&&p.2.pu 3)=true->PE (aF L)
 |[],_,t,v,h=>by rw[im] at h;cases h
 |(d,x)::L,hL,t,v,h=>by
  simp only[List.all_cons,Bool.and_eq_true,decide_eq_true_eq] at hL
  rw[dJ hL.1.1] at h
  by_cases e:t=d
  ·rw[if_pos e] at h
   cases h
   exact hL.1.2
  ·rw[if_neg e] at h
   exact PE.of hL.2 t v h
def O5(P:Program)(f:AX)(args:List AX)(dst:Option Nat)(Q':Tr AV->AH->Prop)(e1:Tr AV)(H1:AH):Prop:=
 PE e1/\∃g first cap vs,f.ev e1=some (.f g first cap)/\wP e1 args=some vs/\jU P g (first++vs++cap) H1 (λv H'=>Q' (co e1 dst v) H')
section
variable {P:Program} {n:Nat} {hints:bI} {B:Nat} {ops:Array Oper} {Q:Exit->Act->World->Prop}
theorem ph:∀(l:List Oper) (l1:List AO) {f:AX} {args:List AX} {dst:Option Nat} {σ:Sg} {e:Tr AV} {H:AH} {a:Act} {w:World} {Q':Tr AV->AH->Prop},dm P n ops l=some (l1++[⟨dst,none,.cl f args⟩])->eh P l1 e H (O5 P f args dst Q')->EN n σ e a->HR B σ H w->∀{σb:Sg} {wb:World},ir B σb σ->Below B wb w->
  (∀e' H' a' w' σ',Q' e' H'->EN n σ' e' a'->HR B σ' H' w'->Below B wb w'->ir B σb σ'->Q .normal a' w')->wpList P ops Q l a w
 |[],l1,f,args,dst,σ,e,H,a,w,Q',hl,hr,hE,h,σb,wb,hz,hb,hQ=>by
  simp only[dm,Option.some.injEq] at hl
  exact absurd hl.symm (by simp)
 |o::l,[],f,args,dst,σ,e,H,a,w,Q',hl,hr,hE,h,σb,wb,hz,hb,hQ=>by
  simp only[dm,List.nil_append] at hl
  obtain⟨x,hx,hl⟩:=Option.bind_eq_some_iff.1 hl
  obtain⟨r,hl2,hr2⟩:=Option.map_eq_some_iff.1 hl
  cases hr2
  have hlnil:l=[]:=by
   cases l with
   |nil=>rfl
   |cons o2 l2=>
    simp only[dm] at hl2
    obtain⟨x2,_,hl2⟩:=Option.bind_eq_some_iff.1 hl2
    obtain⟨r2,_,hr2⟩:=Option.map_eq_some_iff.1 hl2
    cases hr2
  subst hlnil
  unfold jQ at hx
  split at hx
  rotate_left
  ·cases hx
  rename_i hd
  obtain⟨g,hg,hx⟩:=Option.bind_eq_some_iff.1 hx
  obtain⟨k,hk,hx⟩:=Option.map_eq_some_iff.1 hx
  cases hx
  obtain⟨hpe,g,first,cap,vs,hfe,hvs,⟨⟨fn,k1,k2,k3⟩,hcall⟩⟩:=hr
  unfold wpList
  rw[cw hE.er hg (b:=true) rfl,if_pos rfl]
  refine .inl ?_
  unfold ko at hk
  split at hk
  ·cases hk
  unfold mO at hk
  have nap:∀o:Op,(jP P o).map AK.ap=some (.cl f args)->False:=λo ho=>by
   obtain⟨_,_,h2⟩:=Option.map_eq_some_iff.1 ho
   cases h2
  split at hk
  ·split at hk
   ·obtain⟨_,_,h2⟩:=Option.map_eq_some_iff.1 hk
    cases h2
   ·exact(nap _ hk).elim
  ·rename_i c ho
   split at hk
   ·rename_i f0 hf
    obtain⟨f',hf',hc⟩:=Option.bind_eq_some_iff.1 hk
    obtain⟨l',hl3,h2⟩:=Option.map_eq_some_iff.1 hc
    cases h2
    obtain⟨c1,c2,hev,g1,g2⟩:=we hf' hE.er hfe
    have hargs:bz σ (first++vs++cap) (c1++c.args.map a.eval++c2).toList:=by
     have:=(g1.app (fy hl3 hE.er hvs)).app g2
     simpa using this
    have hcl:=hcall B σ w _ h hargs
    unfold Oper.wp execOp
    rw[ho]
    simp only[Sem.run_bind,resolve,hf,hev,Deferred.ofValue,Sem.run_pure,Result.andThen_ok,invoke,ft k1 k2 k3,Oper.upon]
    refine Calls.mono hcl (λen w' hp=>?_)
    cases en with
    |returned u=>
     obtain⟨v,H',σ',q0,q1,q2,q3,q4⟩:=hp
     have hle:σ.bare.le σ':=⟨λb x hx=>(by cases hx),λb hb=>False.elim hb,λc fs hf=>q4.le c fs hf⟩
     have hE2:EN n σ' e a:=⟨⟨hE.er.df,λt v hv=>((hE.er.get t v hv).pure 3 (hpe t v hv)).mono hle⟩,hE.sz,hE.sm⟩
     exact hQ _ H' _ w' σ' q0 (hE2.put q1 hd) q2 (hb.trans q3) (hz.trans q4)
    |panicked c=>exact hp.elim
    |outgrown=>exact hp.elim
   ·exact(nap _ hk).elim
  ·exact(nap _ hk).elim
 |o::l,y::l1,f,args,dst,σ,e,H,a,w,Q',hl,hr,hE,h,σb,wb,hz,hb,hQ=>by
  simp only[dm,List.cons_append] at hl
  obtain⟨x,hx,hl⟩:=Option.bind_eq_some_iff.1 hl
  obtain⟨r,hl2,hr2⟩:=Option.map_eq_some_iff.1 hl
  cases hr2
  unfold jQ at hx
  split at hx
  rotate_left
  ·cases hx
  rename_i hd
  obtain⟨g,hg,hx⟩:=Option.bind_eq_some_iff.1 hx
  obtain⟨k,hk,rfl⟩:=Option.map_eq_some_iff.1 hx
  simp only[eh] at hr
  unfold wpList
  split at hr
  rotate_left
  ·exact hr.elim
  rename_i t hw
  cases t
  rotate_left
  ·replace hr:=hr.1 rfl
   rw[cw hE.er hg hw,if_pos rfl]
   refine .inl (nX hk hE.er h hr λv H1 u w1 σ1 q0 q1 q2 q3 q4 _=>?_)
   exact ph l l1 hl2 q0 ((hE.mono q3.ext).put q1 hd) q2 (hz.trans q4) (hb.trans q3.bel) hQ
  ·replace hr:=hr.2 rfl
   rw[cw hE.er hg hw,if_neg (by simp)]
   exact ph l l1 hl2 hr (hE.put (u:=undef) (.tup rfl (λi v h=>by simp at h)) hd) h hz hb hQ
end
theorem GA.regp{P:Program}{n:Nat}{hints:bI}{e:Tr AV}{H:AH}{Q:AE->Tr AV->AH->Prop}{l0 l:List AO}{f:AX}{args:List AX}{dst:Option Nat}(hl0:l0=l++[⟨dst,none,.cl f args⟩])(h:eh P l e H (O5 P f args dst (λe' H'=>Q .normal e' H'))):GA P n hints (.reg l0) e H Q:=λc hc B σ a w R hE hH hp hR=>by
 subst hl0
 obtain⟨id,ops,rfl,hl⟩:=bA hc
 exact wp_region_list (ph _ _ hl h hE hH (.refl _ σ) (Below.refl _ _) (λe' H' a' w' σ' q k1 k2 k3 k4=>hR .normal e' H' a' w' σ' q k1 k2 k3 k4))
end Go.Proofs.Yteopfmnnhlhbmaa
namespace Go.Proofs.Yteopfmnnhlhbmaa
open Go.RowKit
def P0(e e2:Tr AV):Prop:=∀t v,e2.get t=some v->e.get t=some v/\v.pu 3=true
def O4(P:Program)(f:AX)(args:List AX)(dst:Option Nat)(Q':Tr AV->AH->Prop)(e1:Tr AV)(H1:AH):Prop:=
 ∃e2,P0 e1 e2/\∃g first cap vs,f.ev e1=some (.f g first cap)/\wP e1 args=some vs/\jU P g (first++vs++cap) H1 (λv H'=>Q' (co e2 dst v) H')
section
variable {P:Program} {n:Nat} {hints:bI} {B:Nat} {ops:Array Oper} {Q:Exit->Act->World->Prop}
theorem mq:∀(l:List Oper) (l1 l2:List AO) {f:AX} {args:List AX} {dst:Option Nat} {σ:Sg} {e:Tr AV} {H:AH} {a:Act} {w:World} {Q':Tr AV->AH->Prop},dm P n ops l=some (l1++⟨dst,none,.cl f args⟩::l2)->eh P l1 e H (O4 P f args dst (λe' H'=>eh P l2 e' H' Q'))->EN n σ e a->HR B σ H w->∀{σb:Sg} {wb:World},ir B σb σ->Below B wb w->
  (∀e' H' a' w' σ',Q' e' H'->EN n σ' e' a'->HR B σ' H' w'->Below B wb w'->ir B σb σ'->Q .normal a' w')->wpList P ops Q l a w
 |[],l1,l2,f,args,dst,σ,e,H,a,w,Q',hl,hr,hE,h,σb,wb,hz,hb,hQ=>by
  simp only[dm,Option.some.injEq] at hl
  exact absurd hl.symm (by simp)
 |o::l,[],l2,f,args,dst,σ,e,H,a,w,Q',hl,hr,hE,h,σb,wb,hz,hb,hQ=>by
  simp only[dm,List.nil_append] at hl
  obtain⟨x,hx,hl⟩:=Option.bind_eq_some_iff.1 hl
  obtain⟨r,hl2,hr2⟩:=Option.map_eq_some_iff.1 hl
  cases hr2
  unfold jQ at hx
  split at hx
  rotate_left
  ·cases hx
  rename_i hd
  obtain⟨g,hg,hx⟩:=Option.bind_eq_some_iff.1 hx
  obtain⟨k,hk,hx⟩:=Option.map_eq_some_iff.1 hx
  cases hx
  obtain⟨e2,hpe,g,first,cap,vs,hfe,hvs,⟨⟨fn,k1,k2,k3⟩,hcall⟩⟩:=hr
  unfold wpList
  rw[cw hE.er hg (b:=true) rfl,if_pos rfl]
  refine .inl ?_
  unfold ko at hk
  split at hk
  ·cases hk
  unfold mO at hk
  have nap:∀o:Op,(jP P o).map AK.ap=some (.cl f args)->False:=λo ho=>by
   obtain⟨_,_,h2⟩:=Option.map_eq_some_iff.1 ho
   cases h2
  split at hk
  ·split at hk
   ·obtain⟨_,_,h2⟩:=Option.map_eq_some_iff.1 hk
    cases h2
   ·exact(nap _ hk).elim
  ·rename_i c ho
   split at hk
   ·rename_i f0 hf
    obtain⟨f',hf',hc⟩:=Option.bind_eq_some_iff.1 hk
    obtain⟨l',hl3,h2⟩:=Option.map_eq_some_iff.1 hc
    cases h2
    obtain⟨c1,c2,hev,g1,g2⟩:=we hf' hE.er hfe
    have hargs:bz σ (first++vs++cap) (c1++c.args.map a.eval++c2).toList:=by
     have:=(g1.app (fy hl3 hE.er hvs)).app g2
     simpa using this
    have hcl:=hcall B σ w _ h hargs
    unfold Oper.wp execOp
    rw[ho]
    simp only[Sem.run_bind,resolve,hf,hev,Deferred.ofValue,Sem.run_pure,Result.andThen_ok,invoke,ft k1 k2 k3,Oper.upon]
    refine Calls.mono hcl (λen w' hp=>?_)
    cases en with
    |returned u=>
     obtain⟨v,H',σ',q0,q1,q2,q3,q4⟩:=hp
     have hle:σ.bare.le σ':=⟨λb x hx=>(by cases hx),λb hb=>False.elim hb,λc fs hf=>q4.le c fs hf⟩
     have hE2:EN n σ' e2 a:=⟨⟨hE.er.df,λt v hv=>((hE.er.get t v (hpe t v hv).1).pure 3 (hpe t v hv).2).mono hle⟩,hE.sz,hE.sm⟩
     exact jH l l2 hl2 q0 (hE2.put q1 hd) q2 (hz.trans q4) (λe' H'' a' w'' σ'' p0 p1 p2 p3 p4=>hQ e' H'' a' w'' σ'' p0 p1 p2 ((hb.trans q3).trans p3.bel) p4)
    |panicked c=>exact hp.elim
    |outgrown=>exact hp.elim
   ·exact(nap _ hk).elim
  ·exact(nap _ hk).elim
 |o::l,y::l1,l2,f,args,dst,σ,e,H,a,w,Q',hl,hr,hE,h,σb,wb,hz,hb,hQ=>by
  simp only[dm,List.cons_append] at hl
  obtain⟨x,hx,hl⟩:=Option.bind_eq_some_iff.1 hl
  obtain⟨r,hl2,hr2⟩:=Option.map_eq_some_iff.1 hl
  cases hr2
  unfold jQ at hx
  split at hx
  rotate_left
  ·cases hx
  rename_i hd
  obtain⟨g,hg,hx⟩:=Option.bind_eq_some_iff.1 hx
  obtain⟨k,hk,rfl⟩:=Option.map_eq_some_iff.1 hx
  simp only[eh] at hr
  unfold wpList
  split at hr
  rotate_left
  ·exact hr.elim
  rename_i t hw
  cases t
  rotate_left
  ·replace hr:=hr.1 rfl
   rw[cw hE.er hg hw,if_pos rfl]
   refine .inl (nX hk hE.er h hr λv H1 u w1 σ1 q0 q1 q2 q3 q4 _=>?_)
   exact mq l l1 l2 hl2 q0 ((hE.mono q3.ext).put q1 hd) q2 (hz.trans q4) (hb.trans q3.bel) hQ
  ·replace hr:=hr.2 rfl
   rw[cw hE.er hg hw,if_neg (by simp)]
   exact mq l l1 l2 hl2 hr (hE.put (u:=undef) (.tup rfl (λi v h=>by simp at h)) hd) h hz hb hQ
end
theorem GA.regx{P:Program}{n:Nat}{hints:bI}{e:Tr AV}{H:AH}{Q:AE->Tr AV->AH->Prop}{l0 l1 l2:List AO}{f:AX}{args:List AX}{dst:Option Nat}(hl0:l0=l1++⟨dst,none,.cl f args⟩::l2)(h:eh P l1 e H (O4 P f args dst (λe' H'=>eh P l2 e' H' (λe' H'=>Q .normal e' H')))):GA P n hints (.reg l0) e H Q:=λc hc B σ a w R hE hH hp hR=>by
 subst hl0
 obtain⟨id,ops,rfl,hl⟩:=bA hc
 exact wp_region_list (mq _ _ _ hl h hE hH (.refl _ σ) (Below.refl _ _) (λe' H' a' w' σ' q k1 k2 k3 k4=>hR .normal e' H' a' w' σ' q k1 k2 k3 k4))
theorem P0.of{e:Tr AV}:∀{L:List (Nat×AV)},(∀p ∈ L,p.1<1000000/\e.get p.1=some p.2/\p.2.pu 3=true)->P0 e (aF L)
 |[],_,t,v,h=>by rw[im] at h;cases h
 |(d,x)::L,hL,t,v,h=>by
  obtain⟨h1,h2,h3⟩:=hL (d,x) (List.mem_cons_self ..)
  rw[dJ h1] at h
  by_cases e:t=d
  ·rw[if_pos e] at h
   cases h
   subst e
   exact⟨h2,h3⟩
  ·rw[if_neg e] at h
   exact P0.of (λp hp=>hL p (List.mem_cons_of_mem _ hp)) t v h
end Go.Proofs.Yteopfmnnhlhbmaa