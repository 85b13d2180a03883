/- A part of the proof of AllocateLives: EvMs IpA. No condition. -/
import Derived.Test.YteopfmnnhlhbmaaHl14
set_option linter.unusedSimpArgs false
set_option linter.unusedVariables false
set_option linter.constructorNameAsVariable false
set_option maxRecDepth 100000
set_option maxHeartbeats 4000000
namespace Go.Proofs.Yteopfmnnhlhbmaa
open Go.RowKit
section
variable (P:Program) (e:Tr AV) (H:AH) (Q:AV->AH->Prop)
theorem MV(x:MO):gK P e H (.mo x) Q=jX e H Q x:=id rfl
theorem FL:jX e H Q .mm=PB H Q:=id rfl
theorem FO(z:AV)(ok:Bool)(x k:AX):jX e H Q (.lk z ok x k)=vf H Q z ok (x.ev e) (k.ev e):=id rfl
theorem FJ(m k v:AX):jX e H Q (.mu m k v)=wq H Q (m.ev e) (k.ev e) (v.ev e):=id rfl
theorem FM(z:AV)(m k:AX):jX e H Q (.me z m k)=wx H Q z (m.ev e) (k.ev e):=id rfl
theorem FP(m s v:AX):jX e H Q (.es m s v)=xz H Q (m.ev e) (s.ev e) (v.ev e):=id rfl
theorem FG(x:AX):jX e H Q (.rg x)=u8 H Q (x.ev e):=id rfl
theorem FH(x:AX):jX e H Q (.nx x)=v8 H Q (x.ev e):=id rfl
theorem FQ(x:AX):jX e H Q (.en x)=xD H Q (x.ev e):=id rfl
theorem FN(x:AX):jX e H Q (.ln x)=ve H Q (x.ev e):=id rfl
theorem FK(neg:Bool)(x:AX):jX e H Q (.mn neg x)=tY H Q neg (x.ev e):=id rfl
theorem FI(x y:AX):jX e H Q (.mx x y)=u9 H Q (x.ev e) (y.ev e):=id rfl
theorem zS(z:AV)(ok:Bool)(i:Int):vf H Q z ok (some (.cv (.map none))) (some (.n .i64 i))=Q (kK ok z false) H:=id rfl
theorem wK(z:AV)(ok:Bool)(i:Int)(r:Nat):vf H Q z ok (some (.cv (.map (some r)))) (some (.n .i64 i))=ul H Q z ok i (H.ob r):=id rfl
theorem FT(z:AV)(ok:Bool)(i:Int)(m:c9):ul H Q z ok i (some (.mp m))=Q (m.look ok z i) H:=id rfl
theorem wo(r:Nat)(i:Int)(v:AV):wq H Q (some (.cv (.map (some r)))) (some (.n .i64 i)) (some v)=tX H Q r i v (H.ob r):=id rfl
theorem FE(r:Nat)(i:Int)(v:AV)(x:c9):tX H Q r i v (some (.mp x))=(x.own=true/\v.flat=true/\Q .u (H.clr.setOb r (.mp (x.put i v)))):=id rfl
theorem ww(z:AV)(r:Nat)(i:Int):wx H Q z (some (.cv (.map (some r)))) (some (.n .i64 i))=t8 H Q z r i (H.ob r):=id rfl
theorem xy(r:Nat)(s:Int)(v:AV):xz H Q (some (.cv (.map (some r)))) (some (.n .i64 s)) (some v)=uG H Q r s v (H.ob r):=id rfl
theorem vR(r:Nat):u8 H Q (some (.cv (.map (some r))))=tE H Q r (H.ob r):=id rfl
theorem v7(t:Nat):v8 H Q (some (.cv (.pointer (some ⟨t,0,none⟩))))=sB H Q t (H.ob t):=id rfl
theorem zd:u8 H Q (some (.cv (.map none)))=∀t,H.ob t=none->Q (.cv (.pointer (some ⟨t,0,none⟩))) (H.setOb t (.fix (.mapIter none 0 #[] 0))):=id rfl
theorem zw(t a:Nat)(b:Array Nat)(c:Nat):sB H Q t (some (.fix (.mapIter none a b c)))=Q (.tup [.b false]) H:=id rfl
theorem FD(t:Nat)(y:lZ):sB H Q t (some (.it y))=sA H Q t y (H.ob y.m):=id rfl
theorem xC(t:Nat):xD H Q (some (.cv (.pointer (some ⟨t,0,none⟩))))=uJ H Q (H.ob t):=id rfl
theorem Ga(y:lZ):uJ H Q (some (.it y))=uK H Q y.cur:=id rfl
theorem xE(k:Int)(v:AV):uK H Q (some (k,v))=Q (.tup [.n .i64 k,v]) H:=id rfl
theorem zR:ve H Q (some (.cv (.map none)))=Q (.n .i64 0) H:=id rfl
theorem wJ(r:Nat):ve H Q (some (.cv (.map (some r))))=uk H Q (H.ob r):=id rfl
theorem FS(m:c9):uk H Q (some (.mp m))=Q (.n .i64 m.cnt) H:=id rfl
theorem zG(neg:Bool):tY H Q neg (some (.cv (.map none)))=Q (.b (!neg)) H:=id rfl
theorem ws(neg:Bool)(r:Nat):tY H Q neg (some (.cv (.map (some r))))=Q (.b neg) H:=id rfl
theorem wm(i j:Int):u9 H Q (some (.n .i64 i)) (some (.n .i64 j))=Q (.n .i64 (if i<j then j else i)) H:=id rfl
end
/-! the goals at which a step stops-/
theorem ft{H:AH}{Q:AV->AH->Prop}(h:∀r,H.ob r=none->Q (.cv (.map (some r))) (H.setOb r (.mp ⟨true,λ_=>none,0,none⟩))):PB H Q:=h
theorem qT{H:AH}{Q:AV->AH->Prop}{z:AV}{r:Nat}{i:Int}{x:c9}(ho:x.own=true)(h:∀s:Int,Q (.tup [(x.get i).getD z,.n .i64 s]) (H.clr.setOb r (.mp (x.ask z i s)))):t8 H Q z r i (some (.mp x)):=⟨ho,h⟩
theorem rB{H:AH}{Q:AV->AH->Prop}{r:Nat}{s:Int}{v:AV}{x:c9}(k:Int)(ho:x.own=true)(hf:v.flat=true)(hs:x.stp=some (s,k))(h:Q .u (H.clr.setOb r (.mp (x.put k v)))):uG H Q r s v (some (.mp x)):=⟨ho,hf,k,hs,h⟩
theorem kJ{H:AH}{Q:AV->AH->Prop}{r:Nat}{m:c9}(h:∀t,H.ob t=none->Q (.cv (.pointer (some ⟨t,0,none⟩))) (H.setOb t (.it ⟨r,λk=>(m.get k).isSome,λ_=>false,none⟩))):tE H Q r (some (.mp m)):=h
theorem wa{H:AH}{Q:AV->AH->Prop}{t:Nat}{y:lZ}{m:c9}(h0:∀k v,m.get k=some v->y.old k=true)(h1:∀k v,m.get k=some v->y.seen k=false->Q (.tup [.b true,.n .i64 k,v]) (H.setOb t (.it (y.at k v))))
  (h2:(∀k,y.old k=true->y.seen k=true)->Q (.tup [.b false]) H):sA H Q t y (some (.mp m)):=⟨h0,h1,h2⟩
/-! objects-/
theorem ye(H:AH)(r:Nat)(x:OB)(b:Nat):(H.setOb r x).at b=H.at b:=id rfl
theorem am(H:AH)(r:Nat)(x:OB):(H.setOb r x).next=H.next:=id rfl
theorem ug(H:AH)(r:Nat)(x:OB):(H.setOb r x).low=H.low:=id rfl
theorem vY(H:AH)(r:Nat)(x:OB):(H.setOb r x).ob=bm H.ob r x:=id rfl
theorem Gm(H:AH)(b:Nat):H.clr.at b=H.at b:=id rfl
theorem wi(H:AH):H.clr.next=H.next:=id rfl
theorem zQ(H:AH):H.clr.low=H.low:=id rfl
theorem FB(H:AH):H.clr.ob=fI H.ob:=id rfl
theorem ym(H:AH)(N:Nat->Option OB)(b:Nat):(H.addOb N).at b=H.at b:=id rfl
theorem aw(H:AH)(N:Nat->Option OB):(H.addOb N).next=H.next:=id rfl
theorem ui(H:AH)(N:Nat->Option OB):(H.addOb N).low=H.low:=id rfl
theorem rV(H:AH):H.addOb (λ_=>none)=H:=by
 unfold AH.addOb
 cases H with
 |mk a b c ob=>
  congr 1
  funext r
  show(match ob r with|some x=>some x|none=>none)=ob r
  cases ob r<;>rfl
def je(ob N:Nat->Option OB):Nat->Option OB:=λr=>match ob r with
 |some x=>some x
 |none=>N r
theorem v6(H:AH)(N:Nat->Option OB):(H.addOb N).ob=je H.ob N:=id rfl
theorem yz{ob N:Nat->Option OB}{r:Nat}{x:OB}(h:ob r=some x):je ob N r=some x:=by unfold je;rw[h]
theorem eo{ob N:Nat->Option OB}{r:Nat}(h:ob r=none):je ob N r=N r:=by unfold je;rw[h]
theorem Fy(H:AH)(b:Nat)(x:AB):(H.upd b x).ob=H.ob:=id rfl
theorem tP(H:AH)(l:Nat):(H.setLow l).ob=H.ob:=id rfl
theorem aG(ob:Nat->Option OB)(r:Nat)(x:OB):bm ob r x r=some x:=if_pos rfl
theorem aQ(ob:Nat->Option OB){r r':Nat}(x:OB)(h:¬r'=r):bm ob r x r'=ob r':=if_neg h
theorem dF{ob:Nat->Option OB}{r:Nat}{x:c9}(h:ob r=some (.mp x)):fI ob r=some (.mp x):=by unfold fI;rw[h];rfl
theorem s7{ob:Nat->Option OB}{r:Nat}{y:lZ}(h:ob r=some (.it y)):fI ob r=some (.it {y with cur:=none}):=by unfold fI;rw[h];rfl
theorem gJ{ob:Nat->Option OB}{r r':Nat}{x:OB}(h:ob r=some x)(h':ob r'=none):¬r=r':=λe=>by rw[e,h'] at h;cases h
theorem F6(x:Bool):(AV.b x).flat=true:=id rfl
theorem F5(k:IntKind)(x:Int):(AV.n k x).flat=true:=id rfl
theorem Ad(v:Value):(AV.cv v).flat=true:=id rfl
theorem Fd(v:AV)(b:Bool):kK true v b= .tup [v,.b b]:=id rfl
theorem Fe(v:AV)(b:Bool):kK false v b=v:=id rfl
theorem Wk.mkS{n:Nat}{e:Tr AV}{H:AH}{L:List (Nat×AV)}{bl:List AB}(ρ M:List Nat)(he:bj (λb2=>ρ.reverse[b2]?) M H e L)(hh:ba (λb2=>ρ.reverse[b2]?) M H ρ bl)(hl:bl.length<1000000):Wk n e H (aF L) (a6 H.ob bl):=
 Wk.mkO ρ M he hh hl (λ_ _ h=>h)
theorem i5{P:Program}(hm:P.follows .mixedOrders=true){f:FuncId}{hints:bG}{F:AF}(hF:bI P hints f=some F){args:List AV}(hlen:args.length<=F.nt/\F.nt<100000){Pr:(Nat->Option OB)->Prop}{Post:(Nat->Option OB)->List RT->(Nat->Option OB)->Prop}
  (h:∀M,Pr M->GA P F.nt hints F.code (aF (bJ 0 args)) (a6 (ey M) []) (i8 F.res λv H=>∃(rs:List RT) (N:Nat->Option OB) (l:List AV),Post M rs N/\v=bD l/\du rs l H/\∀r x,N r=some x->H.ob r=some x/\vV x=true)):gF P f args Pr Post:=λM hp=>
 w6 hm hF hlen.1 (GA.wk (Wk.arg _ _ _ (by omega)) (h M hp))
attribute [go_sem] MV FL FO FJ FM FP FG FH FQ FN FK FI zS wK FT wo FE ww xy vR zd v7 FD zw xC Ga xE zR wJ FS zG ws wm
 ye am ug vY Gm wi zQ FB ym aw ui v6 Fy tP FA AH.kill_ob AH.mark_ob kX nU yk af uh vZ F6 F5 Ad rV Fd Fe aG
end Go.Proofs.Yteopfmnnhlhbmaa
namespace Go.Proofs.Yteopfmnnhlhbmaa
open Go.RowKit
def yJ(B:Nat)(σ:Sg)(w:World)(Q:AV->AH->Prop):Ending->World->Prop
 |.returned u,w'=>∃v H' σ',Q v H'/\VR σ' v u/\HR B σ' H' w'/\Below B w w'/\il B σ σ'
 |_,_=>False
def nv(P:Program)(g:FuncId)(args:List AV)(H:AH)(Q:AV->AH->Prop):Prop:=
 xn P g/\∀(B:Nat) (σ:Sg) (w:World) (args':Array Value),HR B σ H w->bw σ args args'.toList->Calls P g args' w (yJ B σ w Q)
theorem nv.mono{P:Program}{g:FuncId}{args:List AV}{H:AH}{Q Q':AV->AH->Prop}(h:nv P g args H Q)(hq:∀v H',Q v H'->Q' v H'):nv P g args H Q':=
 ⟨h.1,λB σ w args' hH ha=>(h.2 B σ w args' hH ha).mono λe w' hp=>by
  cases e with
  |returned u=>obtain⟨v,H',σ',q,r⟩:=hp;exact⟨v,H',σ',hq _ _ q,r⟩
  |panicked c=>exact hp
  |outgrown=>exact hp⟩
theorem vU{P:Program}(hm:P.follows .mixedOrders=true){f:FuncId}{hints:bG}{F:AF}(hF:bI P hints f=some F){args:List AV}(hlen:args.length<=F.nt){H:AH}{Q:AV->AH->Prop}
  (h:GA P F.nt hints F.code (eH args) H (i8 F.res Q)):nv P f args H Q:=by
 unfold bI at hF
 obtain⟨fn,h1,hF⟩:=Option.bind_eq_some_iff.1 hF
 obtain⟨c,h3,hF⟩:=Option.bind_eq_some_iff.1 hF
 obtain⟨ac,h5,hF⟩:=Option.bind_eq_some_iff.1 hF
 obtain⟨r,h6,hF⟩:=Option.bind_eq_some_iff.1 hF
 split at hF
 rotate_left
 ·cases hF
 rename_i hq
 cases hF
 refine⟨⟨fn,h1,hq.1,by rw[h3];rfl⟩,λB σ w args' hH ha=>?_⟩
 refine calls_of_wp h1 h3 ?_
 refine h c h5 B σ _ w _ (i4 ha hlen hq.2) hH (λc a w hq=>hq.2) (λx e' H' a' w' σ' q q1 q2 q3 q4=>?_)
 have key:∀l,dI e' H' r=some l->Q (bD l) H'->a'.defers=[]/\∃v,(results fn a'.tmps).run P w'= .ok v w'/\yJ B σ w Q (.returned v) w':=by
  intro l hl hQ
  obtain⟨us,g1,g2⟩:=gU q1.er q2 _ _ _ h6 hl
  have hres:∃u,(results fn a'.tmps).run P w'= .ok u w'/\VR σ' (bD l) u:=by
   have hsem:results fn a'.tmps=(do let vs<-fn.results.mapM (dx a');pure (if h:vs.size=1 then vs[0] else .tuple vs)):=by
    unfold results
    rfl
   have hrun:(fn.results.mapM (dx a')).run P w'= .ok us.toArray w':=by
    simp[Array.mapM_eq_mapM_toList,g1]
   rw[hsem]
   simp only[Sem.run_bind,hrun,Result.andThen_ok,Sem.run_pure]
   refine⟨_,rfl,?_⟩
   have hn:=g2.1
   match l,us,g2,hn with
   |[v],[u],g2,_=>exact g2.2 0 v rfl
   |[],[],_,_=>exact bw.nil.tup
   |v1::v2::l,u1::u2::us,g2,_=>exact g2.tup
  obtain⟨u,k1,k2⟩:=hres
  exact⟨q1.er.df,u,k1,bD l,H',σ',hQ,k2,q2,q3,q4⟩
 have q':∃l,dI e' H' r=some l/\Q (bD l) H':=by
  cases x with
  |exit i=>exact q.elim
  |normal=>
   simp only[i8] at q
   split at q
   ·rename_i l hl;exact⟨l,hl,q⟩
   ·exact q.elim
  |ret=>
   simp only[i8] at q
   split at q
   ·rename_i l hl;exact⟨l,hl,q⟩
   ·exact q.elim
 obtain⟨l,hl,hQ⟩:=q'
 have post:=key l hl hQ
 cases x with
 |exit i=>exact q.elim
 |normal=>exact post
 |ret=>exact post
def PE(e:Tr AV):Prop:=∀t v,e.get t=some v->v.pu 3=true
theorem PE.of:∀{L:List (Nat×AV)},(L.all λp=>decide (p.1<1000000)&&p.2.pu 3)=true->PE (aF L)
 |[],_,t,v,h=>by rw[i7] at h;cases h
 |(d,x)::L,hL,t,v,h=>by
  simp only[List.all_cons,Bool.and_eq_true,decide_eq_true_eq] at hL
  rw[dQ hL.1.1] at h
  by_cases e:t=d
  ·rw[if_pos e] at h
   cases h
   exact hL.1.2
  ·rw[if_neg e] at h
   exact PE.of hL.2 t v h
def Mo(P:Program)(f:AX)(args:List AX)(dst:Option Nat)(Q':Tr AV->AH->Prop)(e1:Tr AV)(H1:AH):Prop:=
 PE e1/\∃g first cap vs,f.ev e1=some (.f g first cap)/\xr e1 args=some vs/\nv P g (first++vs++cap) H1 (λv H'=>Q' (cf e1 dst v) H')
section
variable {P:Program} {n:Nat} {hints:bG} {B:Nat} {ops:Array Oper} {Q:Exit->Act->World->Prop}
theorem nY:∀(l:List Oper) (l1:List AO) {f:AX} {args:List AX} {dst:Option Nat} {σ:Sg} {e:Tr AV} {H:AH} {a:Act} {w:World} {Q':Tr AV->AH->Prop},dR P n ops l=some (l1++[⟨dst,none,.cl f args⟩])->eU P l1 e H (Mo P f args dst Q')->EN n σ e a->HR B σ H w->∀{σb:Sg} {wb:World},il B σb σ->Below B wb w->
  (∀e' H' a' w' σ',Q' e' H'->EN n σ' e' a'->HR B σ' H' w'->Below B wb w'->il B σb σ'->Q .normal a' w')->wpList P ops Q l a w
 |[],l1,f,args,dst,σ,e,H,a,w,Q',hl,hr,hE,h,σb,wb,hz,hb,hQ=>by
  simp only[dR,Option.some.injEq] at hl
  exact absurd hl.symm (by simp)
 |o::l,[],f,args,dst,σ,e,H,a,w,Q',hl,hr,hE,h,σb,wb,hz,hb,hQ=>by
  simp only[dR,List.nil_append] at hl
  obtain⟨x,hx,hl⟩:=Option.bind_eq_some_iff.1 hl
  obtain⟨r,hl2,hr2⟩:=Option.map_eq_some_iff.1 hl
  cases hr2
  have hlnil:l=[]:=by
   cases l with
   |nil=>rfl
   |cons o2 l2=>
    simp only[dR] at hl2
    obtain⟨x2,_,hl2⟩:=Option.bind_eq_some_iff.1 hl2
    obtain⟨r2,_,hr2⟩:=Option.map_eq_some_iff.1 hl2
    cases hr2
  subst hlnil
  unfold lM at hx
  split at hx
  rotate_left
  ·cases hx
  rename_i hd
  obtain⟨g,hg,hx⟩:=Option.bind_eq_some_iff.1 hx
  obtain⟨k,hk,hx⟩:=Option.map_eq_some_iff.1 hx
  cases hx
  obtain⟨hpe,g,first,cap,vs,hfe,hvs,⟨⟨fn,k1,k2,k3⟩,hcall⟩⟩:=hr
  unfold wpList
  rw[dc hE.er hg (b:=true) rfl,if_pos rfl]
  refine .inl ?_
  unfold kh at hk
  split at hk
  ·cases hk
  unfold nq at hk
  have nap:∀o:Op,(jJ P o).map AK.ap=some (.cl f args)->False:=λo ho=>by
   obtain⟨_,_,h2⟩:=Option.map_eq_some_iff.1 ho
   cases h2
  split at hk
  ·split at hk
   ·obtain⟨_,_,h2⟩:=Option.map_eq_some_iff.1 hk
    cases h2
   ·exact(nap _ hk).elim
  ·rename_i c ho
   split at hk
   ·rename_i f0 hf
    obtain⟨f',hf',hc⟩:=Option.bind_eq_some_iff.1 hk
    obtain⟨l',hl3,h2⟩:=Option.map_eq_some_iff.1 hc
    cases h2
    obtain⟨c1,c2,hev,g1,g2⟩:=xv hf' hE.er hfe
    have hargs:bw σ (first++vs++cap) (c1++c.args.map a.eval++c2).toList:=by
     have:=(g1.app (fZ hl3 hE.er hvs)).app g2
     simpa using this
    have hcl:=hcall B σ w _ h hargs
    unfold Oper.wp execOp
    rw[ho]
    simp only[Sem.run_bind,resolve,hf,hev,Deferred.ofValue,Sem.run_pure,Result.andThen_ok,invoke,gp k1 k2 k3,Oper.upon]
    refine Calls.mono hcl (λen w' hp=>?_)
    cases en with
    |returned u=>
     obtain⟨v,H',σ',q0,q1,q2,q3,q4⟩:=hp
     have hle:σ.bare.le σ':=⟨λb x hx=>(by cases hx),λb hb=>False.elim hb,λc fs hf=>q4.le c fs hf⟩
     have hE2:EN n σ' e a:=⟨⟨hE.er.df,λt v hv=>((hE.er.get t v hv).pure 3 (hpe t v hv)).mono hle⟩,hE.sz,hE.sm⟩
     exact hQ _ H' _ w' σ' q0 (hE2.put q1 hd) q2 (hb.trans q3) (hz.trans q4)
    |panicked c=>exact hp.elim
    |outgrown=>exact hp.elim
   ·exact(nap _ hk).elim
  ·exact(nap _ hk).elim
 |o::l,y::l1,f,args,dst,σ,e,H,a,w,Q',hl,hr,hE,h,σb,wb,hz,hb,hQ=>by
  simp only[dR,List.cons_append] at hl
  obtain⟨x,hx,hl⟩:=Option.bind_eq_some_iff.1 hl
  obtain⟨r,hl2,hr2⟩:=Option.map_eq_some_iff.1 hl
  cases hr2
  unfold lM at hx
  split at hx
  rotate_left
  ·cases hx
  rename_i hd
  obtain⟨g,hg,hx⟩:=Option.bind_eq_some_iff.1 hx
  obtain⟨k,hk,rfl⟩:=Option.map_eq_some_iff.1 hx
  simp only[eU] at hr
  unfold wpList
  split at hr
  rotate_left
  ·exact hr.elim
  rename_i t hw
  cases t
  rotate_left
  ·replace hr:=hr.1 rfl
   rw[dc hE.er hg hw,if_pos rfl]
   refine .inl (sO hk hE.er h hr λv H1 u w1 σ1 q0 q1 q2 q3 q4 _=>?_)
   exact nY l l1 hl2 q0 ((hE.mono q3.ext).put q1 hd) q2 (hz.trans q4) (hb.trans q3.bel) hQ
  ·replace hr:=hr.2 rfl
   rw[dc hE.er hg hw,if_neg (by simp)]
   exact nY l l1 hl2 hr (hE.put (u:=undef) (.tup rfl (λi v h=>by simp at h)) hd) h hz hb hQ
end
theorem GA.regp{P:Program}{n:Nat}{hints:bG}{e:Tr AV}{H:AH}{Q:AE->Tr AV->AH->Prop}{l0 l:List AO}{f:AX}{args:List AX}{dst:Option Nat}(hl0:l0=l++[⟨dst,none,.cl f args⟩])(h:eU P l e H (Mo P f args dst (λe' H'=>Q .normal e' H'))):GA P n hints (.reg l0) e H Q:=λc hc B σ a w R hE hH hp hR=>by
 subst hl0
 obtain⟨id,ops,rfl,hl⟩:=bA hc
 exact wp_region_list (nY _ _ hl h hE hH (.refl _ σ) (Below.refl _ _) (λe' H' a' w' σ' q k1 k2 k3 k4=>hR .normal e' H' a' w' σ' q k1 k2 k3 k4))
end Go.Proofs.Yteopfmnnhlhbmaa