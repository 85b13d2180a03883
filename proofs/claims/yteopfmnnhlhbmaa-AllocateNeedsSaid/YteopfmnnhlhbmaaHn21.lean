/- A part of the proof of AllocateNeeds: GxC GxD GxE. No condition. -/
import Derived.Test.YteopfmnnhlhbmaaHn20
set_option linter.unusedSimpArgs false
set_option linter.unusedVariables false
set_option linter.constructorNameAsVariable false
set_option maxRecDepth 100000
set_option maxHeartbeats 4000000
namespace Go.Proofs.Yteopfmnnhlhbmaa
open Go.RowKit
section
variable {P:Program} {n:Nat} {hints:bz} {K:Nat->Bool} {ds:List Nat} {e:Tr AV} {H:AH} {Q:List Nat->AE->Tr AV->AH->Prop}
theorem tP{ops:Array Oper}{fl:List Nat}:∀{pl:List (Nat×Nat)} {l':List (Nat×AO)},eV P n ops fl pl=some l'->∀x ∈ ax ops (pl.map eo),∃y ∈ l',y.2.dst=x.2.2.dst
 |[],l',h,x,hx=>by simp[ax] at hx
 |(k,j)::pl,l',h,x,hx=>by
  simp only[eV] at h
  split at h
  rotate_left
  ·cases h
  rename_i o ho
  obtain⟨y,hy,h⟩:=Option.bind_eq_some_iff.1 h
  split at h
  rotate_left
  ·cases h
  obtain⟨r,hl2,rfl⟩:=Option.map_eq_some_iff.1 h
  unfold kM at hy
  split at hy
  rotate_left
  ·cases hy
  obtain⟨g,hg,hy⟩:=Option.bind_eq_some_iff.1 hy
  obtain⟨ak,hk,rfl⟩:=Option.map_eq_some_iff.1 hy
  have hgp:ax ops (((k,j)::pl).map eo)=((eo (k,j)).1,j,o)::ax ops (pl.map eo):=by
   have:eo (k,j)=((eo (k,j)).1,j):=by unfold eo;split<;>first|rfl|(rename_i heq;cases heq;rfl)
   rw[List.map_cons,this]
   simp[ax,ho]
  rw[hgp] at hx
  rcases List.mem_cons.1 hx with rfl|hx
  ·exact⟨_,List.mem_cons_self ..,rfl⟩
  ·obtain⟨y,h1,h2⟩:=tP hl2 x hx
   exact⟨y,List.mem_cons_of_mem _ h1,h2⟩
theorem GX.mix(hm:P.follows .mixedOrders=true)(m:Nat){l:List (Nat×AO)}(hk:l.all (λx=>gM K x.2.dst)=true)(htop:eC H m (H.next-m))(h:ea P (H.setLow (2^40)) m true l e (H.setLow (2^40)) (λe' H'=>Q ds .normal e' (H'.setLow (min H.low H'.low)))):GX P n hints K none ds (.mix l) e H Q:=λc hc B σ a w R hE hH hR=>by
 obtain⟨id,ops,fl,pu,pl,rfl,hB,hl⟩:=bc hc
 have hops:ops=ops.toList.toArray:=by simp
 refine(wpIn_wide (n:=9)).2 (wp_mono (Q:=λx a' w'=>x= .normal/\R .normal a' w') ?_ (λx a' w' hq=>by obtain⟨rfl,hq⟩:=hq;exact hq))
 have hd:HR B σ (H.setLow (2^40)) w.drew:=⟨hH.new,hH.newl,hH.old,hH.small,hH.hB,hH.nil,hH.nilp,hH.blk,hH.szs,hH.inj,hH.frz,hH.ob.of_eq rfl⟩
 rw[hops]
 rw[hops] at hB
 refine eZ (dM m σ (H.setLow (2^40)) w.drew) fl pu (pl.map eo) hm hB (λc a d v w hq=>by cases hq.1) (dM.refl _ _ _ _) ?_
 rw[<-hops]
 have htop':eC (H.setLow (2^40)) m ((H.setLow (2^40)).next-m):=by
  have key:∀(k m:Nat),eC H m k->eC (H.setLow (2^40)) m k:=by
   intro k
   induction k with
   |zero=>intro m _;trivial
   |succ k ih=>intro m h;exact⟨h.1,ih _ h.2⟩
  exact key _ _ htop
 refine fO (K:=K) (Q:=BD n B σ w (λe' H'=>Q ds .normal e' (H'.setLow (min H.low H'.low)))) iQ qQ _ (λx hx=>?_) DR.self (λa0 a1' w' hq hdr hkt=>?_) (eX hd htop' iQ pl l hl h hE hd (Fr.refl hd) (.inl (dM.refl _ _ _ _)) (λ_=>rfl) (.refl _ _) (λe' H' a' w' σ' q q1 q2 q3 q4=>⟨rfl,e',H',σ',q,q1,q2,(Below.refl _ _).drew.trans q3.bel,q4⟩))
 ·obtain⟨y,h1,h2⟩:=tP hl x hx
  rw[<-h2]
  exact List.all_eq_true.1 hk y h1
 ·obtain⟨_,e',H',σ',q,k1,k2,k3,k4⟩:=hq
  rw[hdr.2 k1.er.df]
  refine⟨rfl,hR ds .normal e' _ a0 w' σ' q k1 (k2.relow _) k3 k4 (λt ht=>?_)⟩
  have:=hkt t ht
  rwa [hdr.1] at this
end
/-! ### ranges over a function-/
theorem z7.put{B:Nat}{w:World}{r r':Nat}{x:OB}{o0 o:Obj}(h:z7 B w r' x)(hr:w.heap[r]? =some o0)(hne:∀es c,o0≠ .map es c)(h1:r'≠r):z7 B (w.putObj r o) r' x:=by
 have key:∀k,k≠r->(w.putObj r o).heap[k]? =w.heap[k]? :=λk hk=>World.putObj_heap_other hk
 cases x with
 |mp x=>obtain⟨q,es,c,h2,h3⟩:=h;exact⟨q,es,c,(key _ h1).trans h2,h3⟩
 |it y=>
  obtain⟨q,since,seen,last,es,c,h2,h3,h4⟩:=h
  exact⟨q,since,seen,last,es,c,(key _ h1).trans h2,(key _ (λe=>by rw[e,hr] at h3;exact hne _ _ (Option.some.inj h3))).trans h3,h4⟩
 |fix o'=>exact⟨h.1,(key _ h1).trans h.2.1,h.2.2⟩
def kp(B0:Nat)(w:World)(ob:Nat->Option OB):Nat->Option OB:=λr=>if r<B0 then ob r else match w.heap[r]? with
 |some (.cells _ _ _)=>none
 |some o=>some (.fix o)
 |none=>none
theorem qj{B0:Nat}{w:World}{ob:Nat->Option OB}{r:Nat}(h:r<B0):kp B0 w ob r=ob r:=if_pos h
theorem jj{B0:Nat}{w:World}{ob:Nat->Option OB}{r:Nat}{o:Obj}(h:¬r<B0)(ho:w.heap[r]? =some o)(hn:dg (some o)):kp B0 w ob r=some (.fix o):=by
 unfold kp
 rw[if_neg h,ho]
 cases o<;>first|rfl|exact(hn _ _ _ rfl).elim
theorem OR.fix{B B0:Nat}{w:World}{ob:Nat->Option OB}(hB:B<=B0)(h:∀r x,r<B0->ob r=some x->z7 B w r x):OR B (kp B0 w ob) w:=λr x hx=>by
 unfold kp at hx
 split at hx
 ·exact h r x ‹_› hx
 ·split at hx
  ·cases hx
  ·rename_i o hno ho
   cases hx
   exact⟨by omega,ho,λcs t fr e=>hno cs t fr (by cases e;rfl)⟩
  ·cases hx
theorem HR.reob{B:Nat}{σ:Sg}{H:AH}{w:World}(h:HR B σ H w){ob:Nat->Option OB}(hob:OR B ob w):HR B σ {H with ob:=ob} w:=
 ⟨h.new,h.newl,h.old,h.small,h.hB,h.nil,h.nilp,h.blk,h.szs,h.inj,h.frz,hob⟩
theorem HR.putO{B:Nat}{σ:Sg}{H:AH}{w:World}(h:HR B σ H w){r:Nat}{o:Obj}{ob:Nat->Option OB}(hB:B<=r)(hr:dg w.heap[r]?)(hob:OR B ob (w.putObj r o)):HR B σ {H with ob:=ob} (w.putObj r o):=(h.turn hB hr hob).1
theorem Below.put{B r:Nat}(w:World)(h:B<=r)(o:Obj):Below B w (w.putObj r o):=⟨rfl,rfl,rfl,by simp[World.putObj],λk hk=>World.putObj_heap_other (by omega)⟩
def AH.reob(H:AH)(ob:Nat->Option OB):AH:={H with ob:=ob}
theorem BW(H:AH)(ob:Nat->Option OB)(b:Nat):(H.reob ob).at b=H.at b:=id rfl
theorem uU(H:AH)(ob:Nat->Option OB):(H.reob ob).next=H.next:=id rfl
theorem xV(H:AH)(ob:Nat->Option OB):(H.reob ob).low=H.low:=id rfl
theorem AQ(H:AH)(ob:Nat->Option OB):(H.reob ob).ob=ob:=id rfl
attribute [go_sem] BW uU xV AQ
def CF(H H':AH):Prop:=∀r o,H.ob r=some (.fix o)->H'.ob r=some (.fix o)
def Pm(P:Program)(g:FuncId)(cap:List AV)(N:Nat)(vals:Nat->AV×AV):Prop:=
 (∀args w,(callFunc g args).run P w= .ok (.enter g args) w)/\∀(φ:Fz) (lb:Array Value),bw (Sg.data φ) cap lb.toList->∃encs:Nat->Value×Value,(∀i,i<N->VR (Sg.data φ) (vals i).1 (encs i).1/\VR (Sg.data φ) (vals i).2 (encs i).2)/\
  ∀(l:Nat) (J:Nat->World->Prop) (W:World),(∀i W,J i W->pE φ W)->(∀i W1,i<N->J i W1->YieldAt Fence.wide 7 P l #[(encs i).1,(encs i).2] W1 λe W'=>e= .returned (.bool true)/\J (i+1) W')->J 0 W->
   CallsIn Fence.wide 8 P g (#[.func (.yield l) #[] #[]]++lb) W λe W'=>(∃v,e= .returned v)/\J N W'
end Go.Proofs.Yteopfmnnhlhbmaa
namespace Go.Proofs.Yteopfmnnhlhbmaa
open Go.RowKit
theorem He{B:Nat}{σ σ':Sg}{H:AH}{w:World}(h:HR B σ' H w)(hz:gX B σ σ'):pE σ.fz w:=λc fs hf=>by
 obtain⟨f1,e1,p1⟩:=hz.le c fs hf
 obtain⟨cs,t,fr,e2,p2,_⟩:=h.frz c f1 e1
 exact⟨cs,t,fr,e2,p1.trans p2⟩
theorem uc{B:Nat}{σ σ':Sg}(hz:gX B σ σ'):(Sg.data σ.fz).le σ':=⟨λ_ _ h=>(by cases h),λ_ h=>False.elim h,hz.le⟩
theorem EN.kept{n:Nat}{σ:Sg}{e:Tr AV}{a a':Act}{K:Nat->Bool}(h:EN n σ e a')(ha:a.defers=[])(hn:a.tmps.size=n)(hk:KT K a a')(hd:∀t v,e.get t=some v->K t=true):EN n σ e a:=
 ⟨⟨ha,λt v hv=>by have:=h.er.get t v hv;rwa [hk t (hd t v hv)] at this⟩,hn,h.sm⟩
theorem GX.rf{P:Program}{n:Nat}{hints:bz}{K Kb:Nat->Bool}{ds:List Nat}{e:Tr AV}{H:AH}{Q:List Nat->AE->Tr AV->AH->Prop}
  {g:AX} {p1 p2:Nat} {asg body:AC} {gB:FuncId} {cap:List AV} {N:Nat} {vals:Nat->AV×AV} (hg:g.ev e=some (.f gB [] cap)) (hcap:cap.all (AV.pu 3)=true) (hit:Pm P gB cap N vals) (hp:p1≠p2/\Kb p1=false/\Kb p2=false)
  (I:Nat->Tr AV->AH->Prop) {e0:Tr AV} {H0:AH} (hw:Wk n e H e0 H0) (h0:I 0 e0 H0)
  (hres:∀i e H ob',I i e H->(∀r,(H0.ob r).isSome=true->ob' r=H.ob r)->I i e {H with ob:=ob'})
  (hdom:∀i e H,I i e H->∀t v,e.get t=some v->Kb t=true)
  (round:∀i e H l,i<N->I i e H->GX P n hints Kb (some l) [] asg (cq (cq e (some p1) (vals i).1) (some p2) (vals i).2) H (λds' x e1 H1=>x= .normal/\ds'=[]/\CF H H1/\∀ob',(∀r,(H0.ob r).isSome=true->ob' r=H1.ob r)->
   GX P n hints Kb (some l) [] body e1 (H1.reob ob') (λds'' x' e' H'=>x'= .normal/\ds''=[]/\∃e2 H2,Wk n e' H' e2 H2/\I (i+1) e2 H2/\CF (H1.reob ob') H2)))
  (after:∀D e H,I N e H->H0.ob D=none->H.ob D=some (.fix (.deferred (some [])))->Q (D::ds) .normal e H):GX P n hints K none ds (.rf g p1 p2 asg body) e H Q:=λc hc B σ0 a w R hE hH hR=>by
 obtain⟨go,ca,cb,rfl,hgo,h1,h2,hp1,hp2⟩:=bc hc
 obtain⟨c1,c2,hev,g1,g2⟩:=yJ hgo hE.er hg
 have hc1:c1= #[]:=by
  have:=g1.1
  simp at this
  exact Array.eq_empty_of_size_eq_zero this.symm
 subst hc1
 obtain⟨σ,hE0,hH0,hz0⟩:=hw B σ0 a w hE hH
 have hcapv:bw (Sg.data σ0.fz) cap c2.toList:=⟨g2.1,λi v hv=>(g2.2 i v hv).pure 3 (List.all_eq_true.1 hcap v (List.mem_of_getElem? hv))⟩
 obtain⟨hent,hit⟩:=hit
 obtain⟨encs,henc,hcall⟩:=hit σ0.fz c2 hcapv
 have nodep:∀{p:Prop},((pJ none).depth.isSome=true->p):=λh=>by simp[Fence.wide] at h
 have hlt0:∀r,(H0.ob r).isSome=true->r<w.heap.size:=λr hr=>by
  obtain⟨x,hx⟩:=Option.isSome_iff_exists.1 hr
  exact hH0.ob.lt hx
 have hBw:B<=w.heap.size:=hH.hB
 refine wpIn_rangeFunc ?_
 intro fn _
 obtain⟨rec,hrec⟩:∃rec:LoopState->Loop,rec=λst=>{state:=st,pending:=none,fn,tmps:=a.tmps,params:= #[p1,p2],assign:=ca,body:=cb,defers:=w.heap.size}:=⟨_,rfl⟩
 have hncl:∀st,dg (some (Obj.loop (rec st))):=λst cs t fr e=>by cases e
 have hncd:∀x,dg (some (Obj.deferred x)):=λx cs t fr e=>by cases e
 have hnml:∀st es c,(Obj.loop (rec st))≠ .map es c:=λst es c e=>by cases e
 obtain⟨W1,hW1⟩:∃W1,(w.alloc (.deferred (some []))).alloc (.loop (rec .ready))=W1:=⟨_,rfl⟩
 have hL1:W1.heap[w.heap.size+1]? =some (.loop (rec .ready)):=by
  rw[<-hW1];have:=World.alloc_heap_new (w.alloc (.deferred (some []))) (.loop (rec .ready));rwa [World.size_alloc] at this
 have hD1:W1.heap[w.heap.size]? =some (.deferred (some [])):=by
  rw[<-hW1];exact(Below.heap_alloc _ _ _ (by simp)).trans (World.alloc_heap_new w _)
 have hb1:Below B w W1:=by
  rw[<-hW1];exact((Below.refl _ w).alloc hBw _).alloc (by simp;omega) _
 have hH1:HR B σ H0 W1:=by rw[<-hW1];exact((hH0.junk _).1.junk _).1
 let J:Nat->World->Prop:=λi W=>∃e H σ',I i e H/\EN n σ' e a/\HR B σ' H W/\Below B w W/\gX B σ0 σ'/\(∀r x,H.ob r=some x->r<w.heap.size)/\W.heap[w.heap.size+1]? =some (.loop (rec .ready))/\W.heap[w.heap.size]? =some (.deferred (some []))
 have hJin:∀i W,J i W->pE σ0.fz W:=λi W ⟨e,H,σ',_,_,k3,_,k5,_⟩=>He k3 k5
 have hJ0:J 0 W1:=⟨e0,H0,σ,h0,hE0,hH1,hb1,hz0,λr x hx=>hH0.ob.lt hx,hL1,hD1⟩
 have restr:∀i e H ob',I i e H->(∀r,r<w.heap.size->ob' r=H.ob r)->I i e {H with ob:=ob'}:=λi e H ob' hi ho=>hres i e H ob' hi (λr hr=>ho r (hlt0 r hr))
 refine⟨w.heap.size+1,[RG w.heap.size],W1,{target:= .fn (.func gB) c2,args:= #[.func (.yield (w.heap.size+1)) #[] #[]]},W1,gB,
  #[.func (.yield (w.heap.size+1)) #[] #[]]++c2,W1,?_,?_,λ_ _=>trivial,?_,nodep,?_⟩
 ·rw[<-hW1,hrec];exact run_enterLoop_outer _ _ _ _ _
 ·simp only[resolve,qS,hev]
  simp[go_sem]
 ·simp[invoke,go_sem,hent]
 refine CallsIn.mono (hcall (w.heap.size+1) J W1 hJin ?_ hJ0) ?_
 ·
  rintro i W hi ⟨e,H,σ',k1,k2,k3,k4,k5,k6,k7,k8⟩
  refine⟨fn,_,ca,cb,(by have:=run_yield (P:=P) (args:= #[(encs i).1,(encs i).2]) k7 (by rw[hrec];rfl);rw[hrec] at this;exact this),roundIn_of_wpIn trivial ?_⟩
  have hIF:=restr i e H (kp w.heap.size W H.ob) k1 (λr hr=>qj hr)
  have hHF:HR B σ' {H with ob:=kp w.heap.size W H.ob} W:=k3.reob (OR.fix hBw λr x hr hx=>k3.ob r x hx)
  have v1:=((henc i hi).1).mono (uc k5)
  have v2:=((henc i hi).2).mono (uc k5)
  have hEr:=(k2.put v1 (d:=some p1) (by simpa [BF] using hp1)).put v2 (d:=some p2) (by simpa [BF] using hp2)
  obtain⟨ar,har⟩:∃ar,(a.put (some p1) (encs i).1).put (some p2) (encs i).2=ar:=⟨_,rfl⟩
  rw[har] at hEr
  have hkr:KT Kb a ar:=by rw[<-har];exact(KT.put (K:=Kb) (d:=some p1) (by simp[gM,hp.2.1]) _).trans (KT.put (K:=Kb) (d:=some p2) (by simp[gM,hp.2.2]) _)
  show ca.wpIn (pJ (some (w.heap.size+1))) 7 P _ _ W
  have hact':({tmps:=(#[p1,p2].zip #[(encs i).1,(encs i).2]).foldl (λtmps x=>match x with|(t,a)=>tmps.setIfInBounds t a) a.tmps,defers:=[]}:Act)=o7 [] ar:=by
   rw[<-har];simp[o7,Act.put]
  rw[hact']
  refine tj (m:=9) (round i e _ (w.heap.size+1) hi hIF ca h1 B σ' ar W _ hEr hHF ?_)
  rintro ds' x e1 H1 a1 w1 σ1 ⟨rfl,rfl,hfx,hbody⟩ m1 m2 m3 m4 m5
  have r1:w1.heap[w.heap.size+1]? =some (.loop (rec .ready)):=(m2.ob _ _ (hfx _ _ (jj (by omega) k7 (hncl _)))).2.1
  have r2:w1.heap[w.heap.size]? =some (.deferred (some [])):=(m2.ob _ _ (hfx _ _ (jj (by omega) k8 (hncd _)))).2.1
  have hs1:w.heap.size+1<w1.heap.size:=(Array.getElem?_eq_some_iff.1 r1).1
  refine⟨w1.putObj (w.heap.size+1) (.loop (rec .busy)),(by have:=run_beginRound (P:=P) r1 (by rw[hrec]);rw[hrec] at this ⊢;exact this),?_⟩
  have hH2:HR B σ1 {H1 with ob:=kp w.heap.size (w1.putObj (w.heap.size+1) (.loop (rec .busy))) H1.ob} (w1.putObj (w.heap.size+1) (.loop (rec .busy))):=
   m2.putO (by omega) (by rw[r1];exact hncl _) (OR.fix hBw λr x hr hx=>(m2.ob r x hx).put r1 (hnml _) (by omega))
  show cb.wpIn (pJ (some (w.heap.size+1))) 7 P _ (o7 [] a1) _
  refine tj (m:=9) (hbody _ (λr hr=>qj (hlt0 r hr)) cb h2 B σ1 a1 _ _ m1 hH2 ?_)
  rintro ds'' x' e3 H3 a3 w3 σ3 ⟨rfl,rfl,e4,H4,hwk,hI4,hfx2⟩ q1 q2 q3 q4 q5
  obtain⟨σ4,u1,u2,u3⟩:=hwk B σ3 a3 w3 q1 q2
  have s1:w3.heap[w.heap.size+1]? =some (.loop (rec .busy)):=(u2.ob _ _ (hfx2 _ _ (jj (by omega) (World.putObj_heap_same hs1) (hncl _)))).2.1
  have s2:w3.heap[w.heap.size]? =some (.deferred (some [])):=(u2.ob _ _ (hfx2 _ _ (jj (by omega) ((World.putObj_heap_other (by omega)).trans r2) (hncd _)))).2.1
  have hs3:w.heap.size+1<w3.heap.size:=(Array.getElem?_eq_some_iff.1 s1).1
  have hend:=run_endRound (P:=P) none s1
  refine⟨_,_,hend,rfl,?_⟩
  have hrd:({rec .busy with state:=if(none:Option Code).isNone then .ready else .done,pending:=none}:Loop)=rec .ready:=by rw[hrec];rfl
  rw[hrd]
  have hk4:KT Kb a a3:=hkr.trans (m5.trans q5)
  refine⟨e4,{H4 with ob:=λr=>if r<w.heap.size then H4.ob r else none},σ4,restr _ _ _ _ hI4 (λr hr=>if_pos hr),u1.kept k2.er.df k2.sz hk4 (hdom _ _ _ hI4),u2.putO (by omega) (by rw[s1];exact hncl _) (λr x hx=>?_),k4.trans (m3.trans ((Below.put w1 (by omega) _).trans (q3.trans (Below.put w3 (by omega) _)))),k5.trans (m4.trans (q4.trans u3)),λr x hx=>?_,World.putObj_heap_same hs3,(World.putObj_heap_other (by omega)).trans s2⟩
  ·have hx:(if r<w.heap.size then H4.ob r else none)=some x:=hx
   split at hx
   ·exact(u2.ob r x hx).put s1 (hnml _) (by omega)
   ·cases hx
  ·have hx:(if r<w.heap.size then H4.ob r else none)=some x:=hx
   split at hx
   ·assumption
   ·cases hx
 ·
  rintro en W2 ⟨⟨v,rfl⟩,e,H,σ',k1,k2,k3,k4,k5,k6,k7,k8⟩
  have hs:w.heap.size+1<W2.heap.size:=(Array.getElem?_eq_some_iff.1 k7).1
  refine⟨none,_,(by have:=run_endLoop (P:=P) k7 (by rw[hrec];simp);rw[hrec] at this;exact this),?_⟩
  let ob':Nat->Option OB:=λr=>if r=w.heap.size then some (.fix (.deferred (some []))) else if r<w.heap.size then H.ob r else none
  have hI':=restr N e H ob' k1 (λr hr=>by show(if _ then _ else _)=_;rw[if_neg (by omega),if_pos hr])
  have hno:H0.ob w.heap.size=none:=by
   cases hx:H0.ob w.heap.size with
   |none=>rfl
   |some x=>have:=hlt0 w.heap.size (by rw[hx];rfl);omega
  refine hR (w.heap.size::ds) .normal e {H with ob:=ob'} a _ σ' (after w.heap.size e _ hI' hno (if_pos rfl)) k2 (k3.putO (by omega) (by rw[k7];exact hncl _) (λr x hx=>?_)) (k4.trans (Below.put W2 (by omega) _)) k5 (.refl _ _)
  have hx:(if r=w.heap.size then some (OB.fix (.deferred (some []))) else if r<w.heap.size then H.ob r else none)=some x:=hx
  split at hx
  ·rename_i e1
   cases hx
   subst e1
   exact⟨hBw,(World.putObj_heap_other (by omega)).trans k8,hncd _⟩
  ·split at hx
   ·exact(k3.ob r x hx).put k7 (hnml _) (by omega)
   ·cases hx
def BE(res:List AP)(Q:AV->AH->Prop)(ds:List Nat):AE->Tr AV->AH->Prop
 |.exit _,_,_=>False
 |_,e,H=>ds.Nodup/\(∀D ∈ ds,H.ob D=some (.fix (.deferred (some []))))/\match dv e (H.reob λr=>if r ∈ ds then none else H.ob r) res with
  |some l=>Q (bB l) (H.reob λr=>if r ∈ ds then none else H.ob r)
  |none=>False
theorem lR{P:Program}{fn:Func}{tmps:Array Value}{B:Nat}{σ:Sg}{R:Ending->World->Prop}:∀(ds:List Nat) {H:AH} {w:World},HR B σ H w->ds.Nodup->(∀D ∈ ds,H.ob D=some (.fix (.deferred (some []))))->
  (∀w',HR B σ {H with ob:=λr=>if r ∈ ds then none else H.ob r} w'->Below B w w'->LeavesIn (pJ none) 9 P fn tmps R [] .returning w')->LeavesInM (pJ none) 9 P fn tmps R (ds.map RG) .returning w
 |[],H,w,h,_,_,hq=>by
  have:({H with ob:=λr=>if r ∈ ([]:List Nat) then none else H.ob r}:AH)=H:=by simp
  exact hq w (by rw[this];exact h) (Below.refl _ _)
 |D::ds,H,w,h,hn,hd,hq=>by
  have hD:=hd D (List.mem_cons_self ..)
  obtain⟨hB,hw,_⟩:=h.ob D _ hD
  have hn':=List.nodup_cons.1 hn
  refine⟨by simp,.inl ⟨D,_,rfl,run_takeDeferred hw,?_⟩⟩
  have hob:OR B (λr=>if r=D then none else H.ob r) (w.putObj D (.deferred none)):=λr x hx=>by
   have hx:(if r=D then none else H.ob r)=some x:=hx
   split at hx
   ·cases hx
   ·exact(h.ob r x hx).put hw (λes c e=>by cases e) (by assumption)
  have hsub:∀r,(if r ∈ ds then none else(if r=D then none else H.ob r))=(if r ∈ D::ds then none else H.ob r):=λr=>by
   by_cases h1:r ∈ ds
   ·rw[if_pos h1,if_pos (List.mem_cons_of_mem _ h1)]
   ·rw[if_neg h1]
    by_cases h2:r=D
    ·rw[if_pos h2,if_pos (by rw[h2];exact List.mem_cons_self ..)]
    ·rw[if_neg h2,if_neg (by simp[h1,h2])]
  refine lR ds (H:={H with ob:=λr=>if r=D then none else H.ob r}) (h.putO hB (by rw[hw];intro cs t fr e;cases e) hob) hn'.2 (λD' hD'=>?_) (λw' h1 h2=>?_)
  ·show(if D'=D then none else H.ob D')=_
   rw[if_neg (by rintro rfl;exact hn'.1 hD')]
   exact hd D' (List.mem_cons_of_mem _ hD')
  ·refine hq w' ?_ ((Below.put w hB _).trans h2)
   have e1:(λr=>if r ∈ ds then none else(if r=D then none else H.ob r))=(λr=>if r ∈ D::ds then none else H.ob r):=funext hsub
   have h1':HR B σ {H with ob:=λr=>if r ∈ ds then none else(if r=D then none else H.ob r)} w':=h1
   rwa [e1] at h1'
theorem yl{P:Program}{f:FuncId}{hints:bz}{F:AF}(hF:bF P hints f=some F){args:List AV}(hlen:args.length<=F.nt){Q:AV->AH->Prop}{M:Nat->Option OB}
  (h:GX P F.nt hints (λ_=>false) none [] F.code (eB args) (ba (eN M) []) (BE F.res Q)):zW P f M args Q:=by
 unfold bF at hF
 obtain⟨fn,h1,hF⟩:=Option.bind_eq_some_iff.1 hF
 obtain⟨c,h3,hF⟩:=Option.bind_eq_some_iff.1 hF
 obtain⟨ac,h5,hF⟩:=Option.bind_eq_some_iff.1 hF
 obtain⟨r,h6,hF⟩:=Option.bind_eq_some_iff.1 hF
 split at hF
 rotate_left
 ·cases hF
 rename_i hq
 cases hF
 refine⟨⟨fn,h1,hq.1,by rw[h3];rfl⟩,λφ w args' hφ ha hM=>?_⟩
 refine zm (ro:=none) (n:=9) (callsIn_of_wp_marks h1 h3 trivial ?_)
 have hin:=ij ha hlen hq.2
 have hgo:=h c h5 w.heap.size (Sg.data φ) _ w (λx a' w'=>bodyPostM (pJ none) 9 P fn (ky φ w Q) x a' w') hin (HR.emptyM w hφ hM) (λds' x e' H' a' w' σ' q q1 q2 q3 q4 _=>?_)
 ·rw[BH rfl] at hgo
  exact hgo
 ·have key:(ds'.Nodup/\(∀D ∈ ds',H'.ob D=some (.fix (.deferred (some []))))/\∃l,dv e' (H'.reob λr=>if r ∈ ds' then none else H'.ob r) r=some l/\Q (bB l) (H'.reob λr=>if r ∈ ds' then none else H'.ob r))->LeavesInM (pJ none) 9 P fn (o7 ds' a').tmps (ky φ w Q) (o7 ds' a').defers .returning w':=by
   rintro ⟨hnd,hds,l,hl,hQ⟩
   refine lR ds' q2 hnd hds (λw2 h7 h8=>?_)
   ·obtain⟨us,g1,g2⟩:=gv q1.er h7 _ _ _ h6 hl
    have hres:∃u,(results fn a'.tmps).run P w2= .ok u w2/\VR σ' (bB l) u:=by
     have hsem:results fn a'.tmps=(do let vs<-fn.results.mapM (dh a');pure (if h:vs.size=1 then vs[0] else .tuple vs)):=by
      unfold results
      rfl
     have hrun:(fn.results.mapM (dh a')).run P w2= .ok us.toArray w2:=by
      simp[Array.mapM_eq_mapM_toList,g1]
     rw[hsem]
     simp only[Sem.run_bind,hrun,Result.andThen_ok,Sem.run_pure]
     refine⟨_,rfl,?_⟩
     have hn:=g2.1
     match l,us,g2,hn with
     |[v],[u],g2,_=>exact g2.2 0 v rfl
     |[],[],_,_=>exact bw.nil.tup
     |v1::v2::l,u1::u2::us,g2,_=>exact g2.tup
    obtain⟨u,k1,k2⟩:=hres
    exact⟨u,k1,bB l,_,σ',hQ,k2,h7,q3.trans h8,q4.eq⟩
  cases x with
  |exit i=>exact q.elim
  |normal=>
   simp only[BE] at q
   refine key ⟨q.1,q.2.1,?_⟩
   have q:=q.2.2
   split at q
   ·rename_i l hl;exact⟨l,hl,q⟩
   ·exact q.elim
  |ret=>
   simp only[BE] at q
   refine key ⟨q.1,q.2.1,?_⟩
   have q:=q.2.2
   split at q
   ·rename_i l hl;exact⟨l,hl,q⟩
   ·exact q.elim
end Go.Proofs.Yteopfmnnhlhbmaa