/- A part of the proof of AllocateSettles: EvMs IpA. No condition. -/
import Derived.Test.YteopfmnnhlhbmaaHs14
set_option linter.unusedSimpArgs false
set_option linter.unusedVariables false
set_option linter.constructorNameAsVariable false
set_option maxRecDepth 100000
set_option maxHeartbeats 4000000
namespace Go.Proofs.Yteopfmnnhlhbmaa
open Go.RowKit
section
variable (P:Program) (e:Tr AV) (H:AH) (Q:AV->AH->Prop)
theorem Ow(x:MO):gK P e H (.mo x) Q=kj e H Q x:=id rfl
theorem He:kj e H Q .mm=Q6 H Q:=id rfl
theorem Hh(z:AV)(ok:Bool)(x k:AX):kj e H Q (.lk z ok x k)=wq H Q z ok (x.ev e) (k.ev e):=id rfl
theorem Hb(m k v:AX):kj e H Q (.mu m k v)=xJ H Q (m.ev e) (k.ev e) (v.ev e):=id rfl
theorem Hf(z:AV)(m k:AX):kj e H Q (.me z m k)=xP H Q z (m.ev e) (k.ev e):=id rfl
theorem Hi(m s v:AX):kj e H Q (.es m s v)=yM H Q (m.ev e) (s.ev e) (v.ev e):=id rfl
theorem G7(x:AX):kj e H Q (.rg x)=wj H Q (x.ev e):=id rfl
theorem G8(x:AX):kj e H Q (.nx x)=xu H Q (x.ev e):=id rfl
theorem Hj(x:AX):kj e H Q (.en x)=yQ H Q (x.ev e):=id rfl
theorem Hg(x:AX):kj e H Q (.ln x)=wo H Q (x.ev e):=id rfl
theorem Hd(neg:Bool)(x:AX):kj e H Q (.mn neg x)=u5 H Q neg (x.ev e):=id rfl
theorem G9(x y:AX):kj e H Q (.mx x y)=wl H Q (x.ev e) (y.ev e):=id rfl
theorem Bk(z:AV)(ok:Bool)(i:Int):wq H Q z ok (some (.cv (.map none))) (some (.n .i64 i))=Q (lw ok z false) H:=id rfl
theorem x5(z:AV)(ok:Bool)(i:Int)(r:Nat):wq H Q z ok (some (.cv (.map (some r)))) (some (.n .i64 i))=vp H Q z ok i (H.ob r):=id rfl
theorem Hm(z:AV)(ok:Bool)(i:Int)(m:dj):vp H Q z ok i (some (.mp m))=Q (m.look ok z i) H:=id rfl
theorem xI(r:Nat)(i:Int)(v:AV):xJ H Q (some (.cv (.map (some r)))) (some (.n .i64 i)) (some v)=uY H Q r i v (H.ob r):=id rfl
theorem G3(r:Nat)(i:Int)(v:AV)(x:dj):uY H Q r i v (some (.mp x))=(x.own=true/\v.flat=true/\Q .u (H.clr.setOb r (.mp (x.put i v)))):=id rfl
theorem xO(z:AV)(r:Nat)(i:Int):xP H Q z (some (.cv (.map (some r)))) (some (.n .i64 i))=vd H Q z r i (H.ob r):=id rfl
theorem yL(r:Nat)(s:Int)(v:AV):yM H Q (some (.cv (.map (some r)))) (some (.n .i64 s)) (some v)=vM H Q r s v (H.ob r):=id rfl
theorem xg(r:Nat):wj H Q (some (.cv (.map (some r))))=uH H Q r (H.ob r):=id rfl
theorem xt(t:Nat):xu H Q (some (.cv (.pointer (some ⟨t,0,none⟩))))=tC H Q t (H.ob t):=id rfl
theorem Aq:wj H Q (some (.cv (.map none)))=∀t,H.ob t=none->Q (.cv (.pointer (some ⟨t,0,none⟩))) (H.setOb t (.fix (.mapIter none 0 #[] 0))):=id rfl
theorem AW(t a:Nat)(b:Array Nat)(c:Nat):tC H Q t (some (.fix (.mapIter none a b c)))=Q (.tup [.b false]) H:=id rfl
theorem G2(t:Nat)(y:mG):tC H Q t (some (.it y))=tB H Q t y (H.ob y.m):=id rfl
theorem yP(t:Nat):yQ H Q (some (.cv (.pointer (some ⟨t,0,none⟩))))=vO H Q (H.ob t):=id rfl
theorem HL(y:mG):vO H Q (some (.it y))=vP H Q y.cur:=id rfl
theorem yR(k:Int)(v:AV):vP H Q (some (k,v))=Q (.tup [.n .i64 k,v]) H:=id rfl
theorem Bj:wo H Q (some (.cv (.map none)))=Q (.n .i64 0) H:=id rfl
theorem x4(r:Nat):wo H Q (some (.cv (.map (some r))))=vo H Q (H.ob r):=id rfl
theorem Hl(m:dj):vo H Q (some (.mp m))=Q (.n .i64 m.cnt) H:=id rfl
theorem A8(neg:Bool):u5 H Q neg (some (.cv (.map none)))=Q (.b (!neg)) H:=id rfl
theorem xK(neg:Bool)(r:Nat):u5 H Q neg (some (.cv (.map (some r))))=Q (.b neg) H:=id rfl
theorem xH(i j:Int):wl H Q (some (.n .i64 i)) (some (.n .i64 j))=Q (.n .i64 (if i<j then j else i)) H:=id rfl
end
/-! the goals at which a step stops-/
theorem fJ{H:AH}{Q:AV->AH->Prop}(h:∀r,H.ob r=none->Q (.cv (.map (some r))) (H.setOb r (.mp ⟨true,λ_=>none,0,none⟩))):Q6 H Q:=h
theorem rX{H:AH}{Q:AV->AH->Prop}{z:AV}{r:Nat}{i:Int}{x:dj}(ho:x.own=true)(h:∀s:Int,Q (.tup [(x.get i).getD z,.n .i64 s]) (H.clr.setOb r (.mp (x.ask z i s)))):vd H Q z r i (some (.mp x)):=⟨ho,h⟩
theorem sC{H:AH}{Q:AV->AH->Prop}{r:Nat}{s:Int}{v:AV}{x:dj}(k:Int)(ho:x.own=true)(hf:v.flat=true)(hs:x.stp=some (s,k))(h:Q .u (H.clr.setOb r (.mp (x.put k v)))):vM H Q r s v (some (.mp x)):=⟨ho,hf,k,hs,h⟩
theorem lu{H:AH}{Q:AV->AH->Prop}{r:Nat}{m:dj}(h:∀t,H.ob t=none->Q (.cv (.pointer (some ⟨t,0,none⟩))) (H.setOb t (.it ⟨r,λk=>(m.get k).isSome,λ_=>false,none⟩))):uH H Q r (some (.mp m)):=h
theorem xv{H:AH}{Q:AV->AH->Prop}{t:Nat}{y:mG}{m:dj}(h0:∀k v,m.get k=some v->y.old k=true)(h1:∀k v,m.get k=some v->y.seen k=false->Q (.tup [.b true,.n .i64 k,v]) (H.setOb t (.it (y.at k v))))
  (h2:(∀k,y.old k=true->y.seen k=true)->Q (.tup [.b false]) H):tB H Q t y (some (.mp m)):=⟨h0,h1,h2⟩
/-! objects-/
theorem zv(H:AH)(r:Nat)(x:OB)(b:Nat):(H.setOb r x).at b=H.at b:=id rfl
theorem ao(H:AH)(r:Nat)(x:OB):(H.setOb r x).next=H.next:=id rfl
theorem vk(H:AH)(r:Nat)(x:OB):(H.setOb r x).low=H.low:=id rfl
theorem xp(H:AH)(r:Nat)(x:OB):(H.setOb r x).ob=bp H.ob r x:=id rfl
theorem H8(H:AH)(b:Nat):H.clr.at b=H.at b:=id rfl
theorem xB(H:AH):H.clr.next=H.next:=id rfl
theorem Bi(H:AH):H.clr.low=H.low:=id rfl
theorem G0(H:AH):H.clr.ob=fZ H.ob:=id rfl
theorem zD(H:AH)(N:Nat->Option OB)(b:Nat):(H.addOb N).at b=H.at b:=id rfl
theorem az(H:AH)(N:Nat->Option OB):(H.addOb N).next=H.next:=id rfl
theorem vm(H:AH)(N:Nat->Option OB):(H.addOb N).low=H.low:=id rfl
theorem sZ(H:AH):H.addOb (λ_=>none)=H:=by
 unfold AH.addOb
 cases H with
 |mk a b c ob=>
  congr 1
  funext r
  show(match ob r with|some x=>some x|none=>none)=ob r
  cases ob r<;>rfl
def jB(ob N:Nat->Option OB):Nat->Option OB:=λr=>match ob r with
 |some x=>some x
 |none=>N r
theorem xr(H:AH)(N:Nat->Option OB):(H.addOb N).ob=jB H.ob N:=id rfl
theorem zP{ob N:Nat->Option OB}{r:Nat}{x:OB}(h:ob r=some x):jB ob N r=some x:=by unfold jB;rw[h]
theorem eF{ob N:Nat->Option OB}{r:Nat}(h:ob r=none):jB ob N r=N r:=by unfold jB;rw[h]
theorem GY(H:AH)(b:Nat)(x:AB):(H.upd b x).ob=H.ob:=id rfl
theorem uQ(H:AH)(l:Nat):(H.setLow l).ob=H.ob:=id rfl
theorem aJ(ob:Nat->Option OB)(r:Nat)(x:OB):bp ob r x r=some x:=if_pos rfl
theorem aV(ob:Nat->Option OB){r r':Nat}(x:OB)(h:¬r'=r):bp ob r x r'=ob r':=if_neg h
theorem dS{ob:Nat->Option OB}{r:Nat}{x:dj}(h:ob r=some (.mp x)):fZ ob r=some (.mp x):=by unfold fZ;rw[h];rfl
theorem uc{ob:Nat->Option OB}{r:Nat}{y:mG}(h:ob r=some (.it y)):fZ ob r=some (.it {y with cur:=none}):=by unfold fZ;rw[h];rfl
theorem ir{ob:Nat->Option OB}{r r':Nat}{x:OB}(h:ob r=some x)(h':ob r'=none):¬r=r':=λe=>by rw[e,h'] at h;cases h
theorem Hz(x:Bool):(AV.b x).flat=true:=id rfl
theorem Hy(k:IntKind)(x:Int):(AV.n k x).flat=true:=id rfl
theorem BB(v:Value):(AV.cv v).flat=true:=id rfl
theorem Gz(v:AV)(b:Bool):lw true v b= .tup [v,.b b]:=id rfl
theorem GB(v:AV)(b:Bool):lw false v b=v:=id rfl
theorem Wk.mkS{n:Nat}{e:Tr AV}{H:AH}{L:List (Nat×AV)}{bl:List AB}(ρ M:List Nat)(he:bj (λb2=>ρ.reverse[b2]?) M H e L)(hh:bc (λb2=>ρ.reverse[b2]?) M H ρ bl)(hl:bl.length<1000000):Wk n e H (aF L) (a8 H.ob bl):=
 Wk.mkO ρ M he hh hl (λ_ _ h=>h)
theorem jr{P:Program}(hm:P.follows .mixedOrders=true){f:FuncId}{hints:bI}{F:AF}(hF:bJ P hints f=some F){args:List AV}(hlen:args.length<=F.nt/\F.nt<100000){Pr:(Nat->Option OB)->Prop}{Post:(Nat->Option OB)->List RT->(Nat->Option OB)->Prop}
  (h:∀M,Pr M->GA P F.nt hints F.code (aF (bN 0 args)) (a8 (eJ M) []) (jw F.res λv H=>∃(rs:List RT) (N:Nat->Option OB) (l:List AV),Post M rs N/\v=bG l/\ea rs l H/\∀r x,N r=some x->H.ob r=some x/\xk x=true)):ij P f args Pr Post:=λM hp=>
 yk hm hF hlen.1 (GA.wk (Wk.arg _ _ _ (by omega)) (h M hp))
attribute [go_sem] Ow He Hh Hb Hf Hi G7 G8 Hj Hg Hd G9 Bk x5 Hm xI G3 xO yL xg Aq xt G2 AW yP HL yR Bj x4 Hl A8 xK xH
 zv ao vk xp H8 xB Bi G0 zD az vm xr GY uQ GZ AH.kill_ob AH.mark_ob lL oI zB af vl xq Hz Hy BB sZ Gz GB aJ
end Go.Proofs.Yteopfmnnhlhbmaa
namespace Go.Proofs.Yteopfmnnhlhbmaa
open Go.RowKit
def zX(B:Nat)(σ:Sg)(w:World)(Q:AV->AH->Prop):Ending->World->Prop
 |.returned u,w'=>∃v H' σ',Q v H'/\VR σ' v u/\HR B σ' H' w'/\Below B w w'/\iy B σ σ'
 |_,_=>False
def nY(P:Program)(g:FuncId)(args:List AV)(H:AH)(Q:AV->AH->Prop):Prop:=
 yC P g/\∀(B:Nat) (σ:Sg) (w:World) (args':Array Value),HR B σ H w->bz σ args args'.toList->Calls P g args' w (zX B σ w Q)
theorem nY.mono{P:Program}{g:FuncId}{args:List AV}{H:AH}{Q Q':AV->AH->Prop}(h:nY P g args H Q)(hq:∀v H',Q v H'->Q' v H'):nY P g args H Q':=
 ⟨h.1,λB σ w args' hH ha=>(h.2 B σ w args' hH ha).mono λe w' hp=>by
  cases e with
  |returned u=>obtain⟨v,H',σ',q,r⟩:=hp;exact⟨v,H',σ',hq _ _ q,r⟩
  |panicked c=>exact hp
  |outgrown=>exact hp⟩
theorem xj{P:Program}(hm:P.follows .mixedOrders=true){f:FuncId}{hints:bI}{F:AF}(hF:bJ P hints f=some F){args:List AV}(hlen:args.length<=F.nt){H:AH}{Q:AV->AH->Prop}
  (h:GA P F.nt hints F.code (eV args) H (jw F.res Q)):nY P f args H Q:=by
 unfold bJ at hF
 obtain⟨fn,h1,hF⟩:=Option.bind_eq_some_iff.1 hF
 obtain⟨c,h3,hF⟩:=Option.bind_eq_some_iff.1 hF
 obtain⟨ac,h5,hF⟩:=Option.bind_eq_some_iff.1 hF
 obtain⟨r,h6,hF⟩:=Option.bind_eq_some_iff.1 hF
 split at hF
 rotate_left
 ·cases hF
 rename_i hq
 cases hF
 refine⟨⟨fn,h1,hq.1,by rw[h3];rfl⟩,λB σ w args' hH ha=>?_⟩
 refine calls_of_wp h1 h3 ?_
 refine h c h5 B σ _ w _ (jq ha hlen hq.2) hH (λc a w hq=>hq.2) (λx e' H' a' w' σ' q q1 q2 q3 q4=>?_)
 have key:∀l,dU e' H' r=some l->Q (bG l) H'->a'.defers=[]/\∃v,(results fn a'.tmps).run P w'= .ok v w'/\zX B σ w Q (.returned v) w':=by
  intro l hl hQ
  obtain⟨us,g1,g2⟩:=iE q1.er q2 _ _ _ h6 hl
  have hres:∃u,(results fn a'.tmps).run P w'= .ok u w'/\VR σ' (bG l) u:=by
   have hsem:results fn a'.tmps=(do let vs<-fn.results.mapM (dH a');pure (if h:vs.size=1 then vs[0] else .tuple vs)):=by
    unfold results
    rfl
   have hrun:(fn.results.mapM (dH a')).run P w'= .ok us.toArray w':=by
    simp[Array.mapM_eq_mapM_toList,g1]
   rw[hsem]
   simp only[Sem.run_bind,hrun,Result.andThen_ok,Sem.run_pure]
   refine⟨_,rfl,?_⟩
   have hn:=g2.1
   match l,us,g2,hn with
   |[v],[u],g2,_=>exact g2.2 0 v rfl
   |[],[],_,_=>exact bz.nil.tup
   |v1::v2::l,u1::u2::us,g2,_=>exact g2.tup
  obtain⟨u,k1,k2⟩:=hres
  exact⟨q1.er.df,u,k1,bG l,H',σ',hQ,k2,q2,q3,q4⟩
 have q':∃l,dU e' H' r=some l/\Q (bG l) H':=by
  cases x with
  |exit i=>exact q.elim
  |normal=>
   simp only[jw] at q
   split at q
   ·rename_i l hl;exact⟨l,hl,q⟩
   ·exact q.elim
  |ret=>
   simp only[jw] at q
   split at q
   ·rename_i l hl;exact⟨l,hl,q⟩
   ·exact q.elim
 obtain⟨l,hl,hQ⟩:=q'
 have post:=key l hl hQ
 cases x with
 |exit i=>exact q.elim
 |normal=>exact post
 |ret=>exact post
def PE(e:Tr AV):Prop:=∀t v,e.get t=some v->v.pu 3=true
theorem PE.of:∀{L:List (Nat×AV)},(L.all λp=>decide (p.1<1000000)&&p.2.pu 3)=true->PE (aF L)
 |[],_,t,v,h=>by rw[jv] at h;cases h
 |(d,x)::L,hL,t,v,h=>by
  simp only[List.all_cons,Bool.and_eq_true,decide_eq_true_eq] at hL
  rw[dZ hL.1.1] at h
  by_cases e:t=d
  ·rw[if_pos e] at h
   cases h
   exact hL.1.2
  ·rw[if_neg e] at h
   exact PE.of hL.2 t v h
def NV(P:Program)(f:AX)(args:List AX)(dst:Option Nat)(Q':Tr AV->AH->Prop)(e1:Tr AV)(H1:AH):Prop:=
 PE e1/\∃g first cap vs,f.ev e1=some (.f g first cap)/\yG e1 args=some vs/\nY P g (first++vs++cap) H1 (λv H'=>Q' (co e1 dst v) H')
section
variable {P:Program} {n:Nat} {hints:bI} {B:Nat} {ops:Array Oper} {Q:Exit->Act->World->Prop}
theorem oM:∀(l:List Oper) (l1:List AO) {f:AX} {args:List AX} {dst:Option Nat} {σ:Sg} {e:Tr AV} {H:AH} {a:Act} {w:World} {Q':Tr AV->AH->Prop},d8 P n ops l=some (l1++[⟨dst,none,.cl f args⟩])->fm P l1 e H (NV P f args dst Q')->EN n σ e a->HR B σ H w->∀{σb:Sg} {wb:World},iy B σb σ->Below B wb w->
  (∀e' H' a' w' σ',Q' e' H'->EN n σ' e' a'->HR B σ' H' w'->Below B wb w'->iy B σb σ'->Q .normal a' w')->wpList P ops Q l a w
 |[],l1,f,args,dst,σ,e,H,a,w,Q',hl,hr,hE,h,σb,wb,hz,hb,hQ=>by
  simp only[d8,Option.some.injEq] at hl
  exact absurd hl.symm (by simp)
 |o::l,[],f,args,dst,σ,e,H,a,w,Q',hl,hr,hE,h,σb,wb,hz,hb,hQ=>by
  simp only[d8,List.nil_append] at hl
  obtain⟨x,hx,hl⟩:=Option.bind_eq_some_iff.1 hl
  obtain⟨r,hl2,hr2⟩:=Option.map_eq_some_iff.1 hl
  cases hr2
  have hlnil:l=[]:=by
   cases l with
   |nil=>rfl
   |cons o2 l2=>
    simp only[d8] at hl2
    obtain⟨x2,_,hl2⟩:=Option.bind_eq_some_iff.1 hl2
    obtain⟨r2,_,hr2⟩:=Option.map_eq_some_iff.1 hl2
    cases hr2
  subst hlnil
  unfold kC at hx
  split at hx
  rotate_left
  ·cases hx
  rename_i hd
  obtain⟨g,hg,hx⟩:=Option.bind_eq_some_iff.1 hx
  obtain⟨k,hk,hx⟩:=Option.map_eq_some_iff.1 hx
  cases hx
  obtain⟨hpe,g,first,cap,vs,hfe,hvs,⟨⟨fn,k1,k2,k3⟩,hcall⟩⟩:=hr
  unfold wpList
  rw[de hE.er hg (b:=true) rfl,if_pos rfl]
  refine .inl ?_
  unfold kE at hk
  split at hk
  ·cases hk
  unfold nV at hk
  have nap:∀o:Op,(j6 P o).map AK.ap=some (.cl f args)->False:=λo ho=>by
   obtain⟨_,_,h2⟩:=Option.map_eq_some_iff.1 ho
   cases h2
  split at hk
  ·split at hk
   ·obtain⟨_,_,h2⟩:=Option.map_eq_some_iff.1 hk
    cases h2
   ·exact(nap _ hk).elim
  ·rename_i c ho
   split at hk
   ·rename_i f0 hf
    obtain⟨f',hf',hc⟩:=Option.bind_eq_some_iff.1 hk
    obtain⟨l',hl3,h2⟩:=Option.map_eq_some_iff.1 hc
    cases h2
    obtain⟨c1,c2,hev,g1,g2⟩:=yJ hf' hE.er hfe
    have hargs:bz σ (first++vs++cap) (c1++c.args.map a.eval++c2).toList:=by
     have:=(g1.app (gy hl3 hE.er hvs)).app g2
     simpa using this
    have hcl:=hcall B σ w _ h hargs
    unfold Oper.wp execOp
    rw[ho]
    simp only[Sem.run_bind,resolve,hf,hev,Deferred.ofValue,Sem.run_pure,Result.andThen_ok,invoke,gQ k1 k2 k3,Oper.upon]
    refine Calls.mono hcl (λen w' hp=>?_)
    cases en with
    |returned u=>
     obtain⟨v,H',σ',q0,q1,q2,q3,q4⟩:=hp
     have hle:σ.bare.le σ':=⟨λb x hx=>(by cases hx),λb hb=>False.elim hb,λc fs hf=>q4.le c fs hf⟩
     have hE2:EN n σ' e a:=⟨⟨hE.er.df,λt v hv=>((hE.er.get t v hv).pure 3 (hpe t v hv)).mono hle⟩,hE.sz,hE.sm⟩
     exact hQ _ H' _ w' σ' q0 (hE2.put q1 hd) q2 (hb.trans q3) (hz.trans q4)
    |panicked c=>exact hp.elim
    |outgrown=>exact hp.elim
   ·exact(nap _ hk).elim
  ·exact(nap _ hk).elim
 |o::l,y::l1,f,args,dst,σ,e,H,a,w,Q',hl,hr,hE,h,σb,wb,hz,hb,hQ=>by
  simp only[d8,List.cons_append] at hl
  obtain⟨x,hx,hl⟩:=Option.bind_eq_some_iff.1 hl
  obtain⟨r,hl2,hr2⟩:=Option.map_eq_some_iff.1 hl
  cases hr2
  unfold kC at hx
  split at hx
  rotate_left
  ·cases hx
  rename_i hd
  obtain⟨g,hg,hx⟩:=Option.bind_eq_some_iff.1 hx
  obtain⟨k,hk,rfl⟩:=Option.map_eq_some_iff.1 hx
  simp only[fm] at hr
  unfold wpList
  split at hr
  rotate_left
  ·exact hr.elim
  rename_i t hw
  cases t
  rotate_left
  ·replace hr:=hr.1 rfl
   rw[de hE.er hg hw,if_pos rfl]
   refine .inl (qy hk hE.er h hr λv H1 u w1 σ1 q0 q1 q2 q3 q4 _=>?_)
   exact oM l l1 hl2 q0 ((hE.mono q3.ext).put q1 hd) q2 (hz.trans q4) (hb.trans q3.bel) hQ
  ·replace hr:=hr.2 rfl
   rw[de hE.er hg hw,if_neg (by simp)]
   exact oM l l1 hl2 hr (hE.put (u:=undef) (.tup rfl (λi v h=>by simp at h)) hd) h hz hb hQ
end
theorem GA.regp{P:Program}{n:Nat}{hints:bI}{e:Tr AV}{H:AH}{Q:AE->Tr AV->AH->Prop}{l0 l:List AO}{f:AX}{args:List AX}{dst:Option Nat}(hl0:l0=l++[⟨dst,none,.cl f args⟩])(h:fm P l e H (NV P f args dst (λe' H'=>Q .normal e' H'))):GA P n hints (.reg l0) e H Q:=λc hc B σ a w R hE hH hp hR=>by
 subst hl0
 obtain⟨id,ops,rfl,hl⟩:=bB hc
 exact wp_region_list (oM _ _ hl h hE hH (.refl _ σ) (Below.refl _ _) (λe' H' a' w' σ' q k1 k2 k3 k4=>hR .normal e' H' a' w' σ' q k1 k2 k3 k4))
end Go.Proofs.Yteopfmnnhlhbmaa