/- A part of the proof of AllocateNeeds: EvMs IpA IpB. No condition. -/
import Derived.Test.YteopfmnnhlhbmaaHn14
set_option linter.unusedSimpArgs false
set_option linter.unusedVariables false
set_option linter.constructorNameAsVariable false
set_option maxRecDepth 100000
set_option maxHeartbeats 4000000
namespace Go.Proofs.Yteopfmnnhlhbmaa
open Go.RowKit
section
variable (P:Program) (e:Tr AV) (H:AH) (Q:AV->AH->Prop)
theorem O2(x:MO):gK P e H (.mo x) Q=kq e H Q x:=id rfl
theorem G1:kq e H Q .mm=RF H Q:=id rfl
theorem G4(z:AV)(ok:Bool)(x k:AX):kq e H Q (.lk z ok x k)=wu H Q z ok (x.ev e) (k.ev e):=id rfl
theorem GZ(m k v:AX):kq e H Q (.mu m k v)=xG H Q (m.ev e) (k.ev e) (v.ev e):=id rfl
theorem G2(z:AV)(m k:AX):kq e H Q (.me z m k)=xM H Q z (m.ev e) (k.ev e):=id rfl
theorem G5(m s v:AX):kq e H Q (.es m s v)=yM H Q (m.ev e) (s.ev e) (v.ev e):=id rfl
theorem GU(x:AX):kq e H Q (.rg x)=wo H Q (x.ev e):=id rfl
theorem GV(x:AX):kq e H Q (.nx x)=xu H Q (x.ev e):=id rfl
theorem G6(x:AX):kq e H Q (.en x)=yQ H Q (x.ev e):=id rfl
theorem G3(x:AX):kq e H Q (.ln x)=wt H Q (x.ev e):=id rfl
theorem G0(neg:Bool)(x:AX):kq e H Q (.mn neg x)=uZ H Q neg (x.ev e):=id rfl
theorem GY(x y:AX):kq e H Q (.mx x y)=wq H Q (x.ev e) (y.ev e):=id rfl
theorem Bi(z:AV)(ok:Bool)(i:Int):wu H Q z ok (some (.cv (.map none))) (some (.n .i64 i))=Q (lH ok z false) H:=id rfl
theorem xY(z:AV)(ok:Bool)(i:Int)(r:Nat):wu H Q z ok (some (.cv (.map (some r)))) (some (.n .i64 i))=vo H Q z ok i (H.ob r):=id rfl
theorem G9(z:AV)(ok:Bool)(i:Int)(m:dl):vo H Q z ok i (some (.mp m))=Q (m.look ok z i) H:=id rfl
theorem xF(r:Nat)(i:Int)(v:AV):xG H Q (some (.cv (.map (some r)))) (some (.n .i64 i)) (some v)=uY H Q r i v (H.ob r):=id rfl
theorem GQ(r:Nat)(i:Int)(v:AV)(x:dl):uY H Q r i v (some (.mp x))=(x.own=true/\v.flat=true/\Q .u (H.clr.setOb r (.mp (x.put i v)))):=id rfl
theorem xL(z:AV)(r:Nat)(i:Int):xM H Q z (some (.cv (.map (some r)))) (some (.n .i64 i))=u9 H Q z r i (H.ob r):=id rfl
theorem yL(r:Nat)(s:Int)(v:AV):yM H Q (some (.cv (.map (some r)))) (some (.n .i64 s)) (some v)=vL H Q r s v (H.ob r):=id rfl
theorem xg(r:Nat):wo H Q (some (.cv (.map (some r))))=uI H Q r (H.ob r):=id rfl
theorem xt(t:Nat):xu H Q (some (.cv (.pointer (some ⟨t,0,none⟩))))=tI H Q t (H.ob t):=id rfl
theorem Ap:wo H Q (some (.cv (.map none)))=∀t,H.ob t=none->Q (.cv (.pointer (some ⟨t,0,none⟩))) (H.setOb t (.fix (.mapIter none 0 #[] 0))):=id rfl
theorem AU(t a:Nat)(b:Array Nat)(c:Nat):tI H Q t (some (.fix (.mapIter none a b c)))=Q (.tup [.b false]) H:=id rfl
theorem GP(t:Nat)(y:mP):tI H Q t (some (.it y))=tH H Q t y (H.ob y.m):=id rfl
theorem yP(t:Nat):yQ H Q (some (.cv (.pointer (some ⟨t,0,none⟩))))=vO H Q (H.ob t):=id rfl
theorem Hs(y:mP):vO H Q (some (.it y))=vP H Q y.cur:=id rfl
theorem yR(k:Int)(v:AV):vP H Q (some (k,v))=Q (.tup [.n .i64 k,v]) H:=id rfl
theorem Bh:wt H Q (some (.cv (.map none)))=Q (.n .i64 0) H:=id rfl
theorem xX(r:Nat):wt H Q (some (.cv (.map (some r))))=vn H Q (H.ob r):=id rfl
theorem G8(m:dl):vn H Q (some (.mp m))=Q (.n .i64 m.cnt) H:=id rfl
theorem A6(neg:Bool):uZ H Q neg (some (.cv (.map none)))=Q (.b (!neg)) H:=id rfl
theorem xH(neg:Bool)(r:Nat):uZ H Q neg (some (.cv (.map (some r))))=Q (.b neg) H:=id rfl
theorem xE(i j:Int):wq H Q (some (.n .i64 i)) (some (.n .i64 j))=Q (.n .i64 (if i<j then j else i)) H:=id rfl
end
/-! the goals at which a step stops-/
theorem fR{H:AH}{Q:AV->AH->Prop}(h:∀r,H.ob r=none->Q (.cv (.map (some r))) (H.setOb r (.mp ⟨true,λ_=>none,0,none⟩))):RF H Q:=h
theorem r8{H:AH}{Q:AV->AH->Prop}{z:AV}{r:Nat}{i:Int}{x:dl}(ho:x.own=true)(h:∀s:Int,Q (.tup [(x.get i).getD z,.n .i64 s]) (H.clr.setOb r (.mp (x.ask z i s)))):u9 H Q z r i (some (.mp x)):=⟨ho,h⟩
theorem sI{H:AH}{Q:AV->AH->Prop}{r:Nat}{s:Int}{v:AV}{x:dl}(k:Int)(ho:x.own=true)(hf:v.flat=true)(hs:x.stp=some (s,k))(h:Q .u (H.clr.setOb r (.mp (x.put k v)))):vL H Q r s v (some (.mp x)):=⟨ho,hf,k,hs,h⟩
theorem lG{H:AH}{Q:AV->AH->Prop}{r:Nat}{m:dl}(h:∀t,H.ob t=none->Q (.cv (.pointer (some ⟨t,0,none⟩))) (H.setOb t (.it ⟨r,λk=>(m.get k).isSome,λ_=>false,none⟩))):uI H Q r (some (.mp m)):=h
theorem xv{H:AH}{Q:AV->AH->Prop}{t:Nat}{y:mP}{m:dl}(h0:∀k v,m.get k=some v->y.old k=true)(h1:∀k v,m.get k=some v->y.seen k=false->Q (.tup [.b true,.n .i64 k,v]) (H.setOb t (.it (y.at k v))))
  (h2:(∀k,y.old k=true->y.seen k=true)->Q (.tup [.b false]) H):tH H Q t y (some (.mp m)):=⟨h0,h1,h2⟩
/-! objects-/
theorem zt(H:AH)(r:Nat)(x:OB)(b:Nat):(H.setOb r x).at b=H.at b:=id rfl
theorem ai(H:AH)(r:Nat)(x:OB):(H.setOb r x).next=H.next:=id rfl
theorem vj(H:AH)(r:Nat)(x:OB):(H.setOb r x).low=H.low:=id rfl
theorem xo(H:AH)(r:Nat)(x:OB):(H.setOb r x).ob=bp H.ob r x:=id rfl
theorem Hz(H:AH)(b:Nat):H.clr.at b=H.at b:=id rfl
theorem xB(H:AH):H.clr.next=H.next:=id rfl
theorem Bg(H:AH):H.clr.low=H.low:=id rfl
theorem GM(H:AH):H.clr.ob=gj H.ob:=id rfl
theorem zC(H:AH)(N:Nat->Option OB)(b:Nat):(H.addOb N).at b=H.at b:=id rfl
theorem av(H:AH)(N:Nat->Option OB):(H.addOb N).next=H.next:=id rfl
theorem vl(H:AH)(N:Nat->Option OB):(H.addOb N).low=H.low:=id rfl
theorem s9(H:AH):H.addOb (λ_=>none)=H:=by
 unfold AH.addOb
 cases H with
 |mk a b c ob=>
  congr 1
  funext r
  show(match ob r with|some x=>some x|none=>none)=ob r
  cases ob r<;>rfl
def jF(ob N:Nat->Option OB):Nat->Option OB:=λr=>match ob r with
 |some x=>some x
 |none=>N r
theorem xq(H:AH)(N:Nat->Option OB):(H.addOb N).ob=jF H.ob N:=id rfl
theorem zM{ob N:Nat->Option OB}{r:Nat}{x:OB}(h:ob r=some x):jF ob N r=some x:=by unfold jF;rw[h]
theorem eJ{ob N:Nat->Option OB}{r:Nat}(h:ob r=none):jF ob N r=N r:=by unfold jF;rw[h]
theorem GK(H:AH)(b:Nat)(x:AB):(H.upd b x).ob=H.ob:=id rfl
theorem uQ(H:AH)(l:Nat):(H.setLow l).ob=H.ob:=id rfl
theorem aJ(ob:Nat->Option OB)(r:Nat)(x:OB):bp ob r x r=some x:=if_pos rfl
theorem aW(ob:Nat->Option OB){r r':Nat}(x:OB)(h:¬r'=r):bp ob r x r'=ob r':=if_neg h
theorem dR{ob:Nat->Option OB}{r:Nat}{x:dl}(h:ob r=some (.mp x)):gj ob r=some (.mp x):=by unfold gj;rw[h];rfl
theorem ui{ob:Nat->Option OB}{r:Nat}{y:mP}(h:ob r=some (.it y)):gj ob r=some (.it {y with cur:=none}):=by unfold gj;rw[h];rfl
theorem iE{ob:Nat->Option OB}{r r':Nat}{x:OB}(h:ob r=some x)(h':ob r'=none):¬r=r':=λe=>by rw[e,h'] at h;cases h
theorem Ho(x:Bool):(AV.b x).flat=true:=id rfl
theorem Hn(k:IntKind)(x:Int):(AV.n k x).flat=true:=id rfl
theorem Bw(v:Value):(AV.cv v).flat=true:=id rfl
theorem Gn(v:AV)(b:Bool):lH true v b= .tup [v,.b b]:=id rfl
theorem Gp(v:AV)(b:Bool):lH false v b=v:=id rfl
theorem Wk.mkS{n:Nat}{e:Tr AV}{H:AH}{L:List (Nat×AV)}{bl:List AB}(ρ M:List Nat)(he:bk (λb2=>ρ.reverse[b2]?) M H e L)(hh:bh (λb2=>ρ.reverse[b2]?) M H ρ bl)(hl:bl.length<1000000):Wk n e H (aE L) (ba H.ob bl):=
 Wk.mkO ρ M he hh hl (λ_ _ h=>h)
theorem jw{P:Program}(hm:P.follows .mixedOrders=true){f:FuncId}{hints:bz}{F:AF}(hF:bF P hints f=some F){args:List AV}(hlen:args.length<=F.nt/\F.nt<100000){Pr:(Nat->Option OB)->Prop}{Post:(Nat->Option OB)->List RT->(Nat->Option OB)->Prop}
  (h:∀M,Pr M->GA P F.nt hints F.code (aE (bI 0 args)) (ba (eN M) []) (gL F.res λv H=>∃(rs:List RT) (N:Nat->Option OB) (l:List AV),Post M rs N/\v=bB l/\dS rs l H/\∀r x,N r=some x->H.ob r=some x/\xk x=true)):iw P f args Pr Post:=λM hp=>
 ym hm hF hlen.1 (GA.wk (Wk.arg _ _ _ (by omega)) (h M hp))
attribute [go_sem] O2 G1 G4 GZ G2 G5 GU GV G6 G3 G0 GY Bi xY G9 xF GQ xL yL xg Ap xt GP AU yP Hs yR Bh xX G8 A6 xH xE
 zt ai vj xo Hz xB Bg GM zC av vl xq GK uQ GL AH.kill_ob AH.mark_ob lS oK zA af vk xp Ho Hn Bw s9 Gn Gp aJ
end Go.Proofs.Yteopfmnnhlhbmaa
namespace Go.Proofs.Yteopfmnnhlhbmaa
open Go.RowKit
def zU(B:Nat)(σ:Sg)(w:World)(Q:AV->AH->Prop):Ending->World->Prop
 |.returned u,w'=>∃v H' σ',Q v H'/\VR σ' v u/\HR B σ' H' w'/\Below B w w'/\gX B σ σ'
 |_,_=>False
def oh(P:Program)(g:FuncId)(args:List AV)(H:AH)(Q:AV->AH->Prop):Prop:=
 vJ P g/\∀(B:Nat) (σ:Sg) (w:World) (args':Array Value),HR B σ H w->bw σ args args'.toList->Calls P g args' w (zU B σ w Q)
theorem oh.mono{P:Program}{g:FuncId}{args:List AV}{H:AH}{Q Q':AV->AH->Prop}(h:oh P g args H Q)(hq:∀v H',Q v H'->Q' v H'):oh P g args H Q':=
 ⟨h.1,λB σ w args' hH ha=>(h.2 B σ w args' hH ha).mono λe w' hp=>by
  cases e with
  |returned u=>obtain⟨v,H',σ',q,r⟩:=hp;exact⟨v,H',σ',hq _ _ q,r⟩
  |panicked c=>exact hp
  |outgrown=>exact hp⟩
theorem xj{P:Program}(hm:P.follows .mixedOrders=true){f:FuncId}{hints:bz}{F:AF}(hF:bF P hints f=some F){args:List AV}(hlen:args.length<=F.nt){H:AH}{Q:AV->AH->Prop}
  (h:GA P F.nt hints F.code (eB args) H (gL F.res Q)):oh P f args H Q:=by
 unfold bF at hF
 obtain⟨fn,h1,hF⟩:=Option.bind_eq_some_iff.1 hF
 obtain⟨c,h3,hF⟩:=Option.bind_eq_some_iff.1 hF
 obtain⟨ac,h5,hF⟩:=Option.bind_eq_some_iff.1 hF
 obtain⟨r,h6,hF⟩:=Option.bind_eq_some_iff.1 hF
 split at hF
 rotate_left
 ·cases hF
 rename_i hq
 cases hF
 refine⟨⟨fn,h1,hq.1,by rw[h3];rfl⟩,λB σ w args' hH ha=>?_⟩
 refine calls_of_wp h1 h3 ?_
 refine h c h5 B σ _ w _ (ij ha hlen hq.2) hH (λc a w hq=>hq.2) (λx e' H' a' w' σ' q q1 q2 q3 q4=>?_)
 have key:∀l,dv e' H' r=some l->Q (bB l) H'->a'.defers=[]/\∃v,(results fn a'.tmps).run P w'= .ok v w'/\zU B σ w Q (.returned v) w':=by
  intro l hl hQ
  obtain⟨us,g1,g2⟩:=gv q1.er q2 _ _ _ h6 hl
  have hres:∃u,(results fn a'.tmps).run P w'= .ok u w'/\VR σ' (bB l) u:=by
   have hsem:results fn a'.tmps=(do let vs<-fn.results.mapM (dh a');pure (if h:vs.size=1 then vs[0] else .tuple vs)):=by
    unfold results
    rfl
   have hrun:(fn.results.mapM (dh a')).run P w'= .ok us.toArray w':=by
    simp[Array.mapM_eq_mapM_toList,g1]
   rw[hsem]
   simp only[Sem.run_bind,hrun,Result.andThen_ok,Sem.run_pure]
   refine⟨_,rfl,?_⟩
   have hn:=g2.1
   match l,us,g2,hn with
   |[v],[u],g2,_=>exact g2.2 0 v rfl
   |[],[],_,_=>exact bw.nil.tup
   |v1::v2::l,u1::u2::us,g2,_=>exact g2.tup
  obtain⟨u,k1,k2⟩:=hres
  exact⟨q1.er.df,u,k1,bB l,H',σ',hQ,k2,q2,q3,q4⟩
 have q':∃l,dv e' H' r=some l/\Q (bB l) H':=by
  cases x with
  |exit i=>exact q.elim
  |normal=>
   simp only[gL] at q
   split at q
   ·rename_i l hl;exact⟨l,hl,q⟩
   ·exact q.elim
  |ret=>
   simp only[gL] at q
   split at q
   ·rename_i l hl;exact⟨l,hl,q⟩
   ·exact q.elim
 obtain⟨l,hl,hQ⟩:=q'
 have post:=key l hl hQ
 cases x with
 |exit i=>exact q.elim
 |normal=>exact post
 |ret=>exact post
def PE(e:Tr AV):Prop:=∀t v,e.get t=some v->v.pu 3=true
theorem PE.of:∀{L:List (Nat×AV)},(L.all λp=>decide (p.1<1000000)&&p.2.pu 3)=true->PE (aE L)
 |[],_,t,v,h=>by rw[il] at h;cases h
 |(d,x)::L,hL,t,v,h=>by
  simp only[List.all_cons,Bool.and_eq_true,decide_eq_true_eq] at hL
  rw[dC hL.1.1] at h
  by_cases e:t=d
  ·rw[if_pos e] at h
   cases h
   exact hL.1.2
  ·rw[if_neg e] at h
   exact PE.of hL.2 t v h
def Ou(P:Program)(f:AX)(args:List AX)(dst:Option Nat)(Q':Tr AV->AH->Prop)(e1:Tr AV)(H1:AH):Prop:=
 PE e1/\∃g first cap vs,f.ev e1=some (.f g first cap)/\yG e1 args=some vs/\oh P g (first++vs++cap) H1 (λv H'=>Q' (cq e1 dst v) H')
section
variable {P:Program} {n:Nat} {hints:bz} {B:Nat} {ops:Array Oper} {Q:Exit->Act->World->Prop}
theorem oP:∀(l:List Oper) (l1:List AO) {f:AX} {args:List AX} {dst:Option Nat} {σ:Sg} {e:Tr AV} {H:AH} {a:Act} {w:World} {Q':Tr AV->AH->Prop},dZ P n ops l=some (l1++[⟨dst,none,.cl f args⟩])->eF P l1 e H (Ou P f args dst Q')->EN n σ e a->HR B σ H w->∀{σb:Sg} {wb:World},gX B σb σ->Below B wb w->
  (∀e' H' a' w' σ',Q' e' H'->EN n σ' e' a'->HR B σ' H' w'->Below B wb w'->gX B σb σ'->Q .normal a' w')->wpList P ops Q l a w
 |[],l1,f,args,dst,σ,e,H,a,w,Q',hl,hr,hE,h,σb,wb,hz,hb,hQ=>by
  simp only[dZ,Option.some.injEq] at hl
  exact absurd hl.symm (by simp)
 |o::l,[],f,args,dst,σ,e,H,a,w,Q',hl,hr,hE,h,σb,wb,hz,hb,hQ=>by
  simp only[dZ,List.nil_append] at hl
  obtain⟨x,hx,hl⟩:=Option.bind_eq_some_iff.1 hl
  obtain⟨r,hl2,hr2⟩:=Option.map_eq_some_iff.1 hl
  cases hr2
  have hlnil:l=[]:=by
   cases l with
   |nil=>rfl
   |cons o2 l2=>
    simp only[dZ] at hl2
    obtain⟨x2,_,hl2⟩:=Option.bind_eq_some_iff.1 hl2
    obtain⟨r2,_,hr2⟩:=Option.map_eq_some_iff.1 hl2
    cases hr2
  subst hlnil
  unfold kM at hx
  split at hx
  rotate_left
  ·cases hx
  rename_i hd
  obtain⟨g,hg,hx⟩:=Option.bind_eq_some_iff.1 hx
  obtain⟨k,hk,hx⟩:=Option.map_eq_some_iff.1 hx
  cases hx
  obtain⟨hpe,g,first,cap,vs,hfe,hvs,⟨⟨fn,k1,k2,k3⟩,hcall⟩⟩:=hr
  unfold wpList
  rw[de hE.er hg (b:=true) rfl,if_pos rfl]
  refine .inl ?_
  unfold kN at hk
  split at hk
  ·cases hk
  unfold oe at hk
  have nap:∀o:Op,(kb P o).map AK.ap=some (.cl f args)->False:=λo ho=>by
   obtain⟨_,_,h2⟩:=Option.map_eq_some_iff.1 ho
   cases h2
  split at hk
  ·split at hk
   ·obtain⟨_,_,h2⟩:=Option.map_eq_some_iff.1 hk
    cases h2
   ·exact(nap _ hk).elim
  ·rename_i c ho
   split at hk
   ·rename_i f0 hf
    obtain⟨f',hf',hc⟩:=Option.bind_eq_some_iff.1 hk
    obtain⟨l',hl3,h2⟩:=Option.map_eq_some_iff.1 hc
    cases h2
    obtain⟨c1,c2,hev,g1,g2⟩:=yJ hf' hE.er hfe
    have hargs:bw σ (first++vs++cap) (c1++c.args.map a.eval++c2).toList:=by
     have:=(g1.app (gG hl3 hE.er hvs)).app g2
     simpa using this
    have hcl:=hcall B σ w _ h hargs
    unfold Oper.wp execOp
    rw[ho]
    simp only[Sem.run_bind,resolve,hf,hev,Deferred.ofValue,Sem.run_pure,Result.andThen_ok,invoke,g8 k1 k2 k3,Oper.upon]
    refine Calls.mono hcl (λen w' hp=>?_)
    cases en with
    |returned u=>
     obtain⟨v,H',σ',q0,q1,q2,q3,q4⟩:=hp
     have hle:σ.bare.le σ':=⟨λb x hx=>(by cases hx),λb hb=>False.elim hb,λc fs hf=>q4.le c fs hf⟩
     have hE2:EN n σ' e a:=⟨⟨hE.er.df,λt v hv=>((hE.er.get t v hv).pure 3 (hpe t v hv)).mono hle⟩,hE.sz,hE.sm⟩
     exact hQ _ H' _ w' σ' q0 (hE2.put q1 hd) q2 (hb.trans q3) (hz.trans q4)
    |panicked c=>exact hp.elim
    |outgrown=>exact hp.elim
   ·exact(nap _ hk).elim
  ·exact(nap _ hk).elim
 |o::l,y::l1,f,args,dst,σ,e,H,a,w,Q',hl,hr,hE,h,σb,wb,hz,hb,hQ=>by
  simp only[dZ,List.cons_append] at hl
  obtain⟨x,hx,hl⟩:=Option.bind_eq_some_iff.1 hl
  obtain⟨r,hl2,hr2⟩:=Option.map_eq_some_iff.1 hl
  cases hr2
  unfold kM at hx
  split at hx
  rotate_left
  ·cases hx
  rename_i hd
  obtain⟨g,hg,hx⟩:=Option.bind_eq_some_iff.1 hx
  obtain⟨k,hk,rfl⟩:=Option.map_eq_some_iff.1 hx
  simp only[eF] at hr
  unfold wpList
  split at hr
  rotate_left
  ·exact hr.elim
  rename_i t hw
  cases t
  rotate_left
  ·replace hr:=hr.1 rfl
   rw[de hE.er hg hw,if_pos rfl]
   refine .inl (qF hk hE.er h hr λv H1 u w1 σ1 q0 q1 q2 q3 q4 _=>?_)
   exact oP l l1 hl2 q0 ((hE.mono q3.ext).put q1 hd) q2 (hz.trans q4) (hb.trans q3.bel) hQ
  ·replace hr:=hr.2 rfl
   rw[de hE.er hg hw,if_neg (by simp)]
   exact oP l l1 hl2 hr (hE.put (u:=undef) (.tup rfl (λi v h=>by simp at h)) hd) h hz hb hQ
end
theorem GA.regp{P:Program}{n:Nat}{hints:bz}{e:Tr AV}{H:AH}{Q:AE->Tr AV->AH->Prop}{l0 l:List AO}{f:AX}{args:List AX}{dst:Option Nat}(hl0:l0=l++[⟨dst,none,.cl f args⟩])(h:eF P l e H (Ou P f args dst (λe' H'=>Q .normal e' H'))):GA P n hints (.reg l0) e H Q:=λc hc B σ a w R hE hH hp hR=>by
 subst hl0
 obtain⟨id,ops,rfl,hl⟩:=bc hc
 exact wp_region_list (oP _ _ hl h hE hH (.refl _ σ) (Below.refl _ _) (λe' H' a' w' σ' q k1 k2 k3 k4=>hR .normal e' H' a' w' σ' q k1 k2 k3 k4))
end Go.Proofs.Yteopfmnnhlhbmaa
namespace Go.Proofs.Yteopfmnnhlhbmaa
open Go.RowKit
section
variable {P:Program} {n:Nat} {hints:bz} {B:Nat} {ops:Array Oper} {Q:Exit->Act->World->Prop}
end
end Go.Proofs.Yteopfmnnhlhbmaa