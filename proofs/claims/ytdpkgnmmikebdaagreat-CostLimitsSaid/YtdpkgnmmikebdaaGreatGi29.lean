/- A part of the proof of CostLimits. No condition. -/
import Derived.Test.YtdpkgnmmikebdaaGreatGi23
set_option linter.unusedSimpArgs false
set_option linter.unusedVariables false
set_option linter.constructorNameAsVariable false
set_option maxRecDepth 100000
set_option maxHeartbeats 4000000
namespace Go.Proofs.YtdpkgnmmikebdaaGreat
open Go.RowKit
def Ac(P:Program)(H:AH)(m:Nat):List (Nat×AO)->Tr AV->(Tr AV->Prop)->Prop
 |[],e,Q=>Q e
 |(k,o)::l,e,Q=>match gM e o.gd with
  |some t=>(t=true->if k=1 then iz H m true e o.k/\gK P e H o.k (λv _=>Ac P H m l (fQ e o.dst v) Q) else if k=2 then jq o.k=true/\gK P e H o.k (λv _=>Ac P H m l (fQ e o.dst v) Q) else False)/\(t=false->k≠3/\k≠0/\Ac P H m l (fQ e o.dst (.tup [])) Q)
  |none=>False
def lc(P:Program)(m:Nat):AT->Tr AV->AH->(Tr AV->AH->Prop)->Prop
 |.fin,e,H,Q=>Q e H
 |.none,_,_,_=>True
 |.alt o r more,e,H,Q=>(match gM e o.gd with
   |some t=>(t=true->zK P e H o.k (λv H'=>m<=H'.low/\lc P m r (fQ e o.dst v) H' Q))/\(t=false->m<=H.low/\lc P m r (fQ e o.dst (.tup [])) H Q)
   |none=>False)/\lc P m more e H Q
section
variable {P:Program} {B n m:Nat} {kk:Nat->Bool} {ops:Array Oper} {fl:List Nat} {R:Exit->Act->World->Prop}
theorem ve{σ:Sg}{H:AH}{w:World}(h:HR B σ H w)(htop:g8 H m (H.next-m)):∀(pl:List (Nat×Nat)) (l':List (Nat×AO)) {e:Tr AV} {a:Act} {Q':Tr AV->Prop},kO P n ops fl pl=some l'->Ac P H m l' e Q'->EN n σ e a->a.defers=[]->
  (∀e' a',Q' e'->EN n σ e' a'->a'.defers=[]->R .normal a' w)->fD P .any ops R (gP m σ H w) fl (fC ops (pl.map iZ)) a w
 |[],l',e,a,Q',hl,hr,hE,hdf,hQ=>by
  simp only[kO,apn] at hl;subst hl;show fD P .any ops R (gP m σ H w) fl [] a w;exact lH (hQ e a hr hE hdf)
 |(k,j)::pl,l',e,a,Q',hl,hr,hE,hdf,hQ=>by
  simp only[kO] at hl;split at hl;rotate_left
  ·cases hl
  rename_i o ho;obtain⟨x,hx,hl⟩:=bM.1 hl;split at hl;rotate_left
  ·cases hl
  rename_i hk3;obtain⟨hk3,hsee⟩:=hk3;obtain⟨r,hl2,rfl⟩:=apc.1 hl;unfold qa at hx;split at hx;rotate_left
  ·cases hx
  rename_i hd;obtain⟨g,hg,hx⟩:=bM.1 hx;obtain⟨ak,hk,rfl⟩:=apc.1 hx;have hgp:fC ops (((k,j)::pl).map iZ)=((iZ (k,j)).1,j,o)::fC ops (pl.map iZ):=by
   have:iZ (k,j)=((iZ (k,j)).1,j):=by unfold iZ;split<;>first|rfl|(rename_i heq;cases heq;rfl)
   rw[List.map_cons,this];simp[fC,ho]
  rw[hgp];simp only[Ac] at hr;split at hr;rotate_left
  ·exact hr.elim
  rename_i t hw;have hwant:=iV hE.er hg hw;cases t;rotate_left
  ·replace hr:=hr.1 rfl
   split at hr
   ·rename_i hk1;subst hk1;obtain⟨hearly,hr⟩:=hr;cases ak with
    |cl f args=>exact hearly.elim
    |sn neg x=>exact hearly.elim
    |mo x=>exact hearly.elim
    |ap ap0=>
     cases ap0<;>try exact hearly.elim
     rename_i nn row xx;simp only[gK] at hr;split at hr;rotate_left
     ·exact hr.elim
     rename_i v H1 hrun;obtain⟨q1,_,_,_,c,u,q2,q34,q5,q6⟩:=wa (qO hk) rfl hE.er h hrun;cases q2;have htop':=g8.get _ _ htop;have hclt:(∃(cs:Array Value) (t:TypeId) (fr:Nat×Nat),w.heap[c]? =some (Obj.cells cs t fr))/\∀b o,m<=b->b<H.next->σ b≠some (c,o):=by
      rcases q34 with⟨b,off,oc,q3,q4⟩|⟨_,_,_,fs,q3,q4,q40⟩
      ·simp only[iz,q3] at hearly;obtain⟨hbm,hearly⟩:=hearly;obtain⟨xb,hxb⟩:=Option.isSome_iff_exists.1 hearly;obtain⟨cs0,p2,p3,p4⟩:=h.blk b xb c oc hxb q4;refine⟨⟨_,_,_,p3⟩,λb' o' h1 h2 h3=>?_⟩;obtain⟨x',hx',_⟩:=htop' b' h1 aa;have:=h.inj b b' xb x' c oc o' hxb hx' q4 h3;omega
      ·refine⟨by obtain⟨cs',t',fr',m1,_⟩:=h.frz c fs q4;exact⟨_,_,_,m1⟩,λb' o' h1 h2 h3=>?_⟩
       obtain⟨x',hx',hx0⟩:=htop' b' h1 aa;obtain⟨cs',t',fr',_,_,m3⟩:=h.frz c fs q4;have:=m3 b' x' o' hx' h3;omega
     have hcell:∀{w':World},gP m σ H w w'->∀i,w'.cell? ⟨c,i,none⟩=w.cell? ⟨c,i,none⟩:=λhw' i=>by
      have:=hw' c hclt.1 hclt.2;simp only[World.cell?,this]
     show fD P .any ops R (gP m σ H w) fl ((1,j,o)::fC ops (pl.map iZ)) a w;unfold fD;rw[if_pos hwant];refine⟨u,λw' hw'=>q6 w' (λi=>hcell hw' i),?_⟩;exact ve h htop pl r hl2 hr (hE.put q5 hd) ((jv _ _ _).trans hdf) hQ
   ·split at hr
    ·rename_i hk1 hk2;subst hk2;obtain⟨hpure,hr⟩:=hr;cases ak with
     |cl f args=>cases hpure
     |sn neg x=>cases hpure
     |mo x=>cases hpure
     |ap xx=>
      have hkind:xx.kind=2:=by simpa [jq] using hpure
      simp only[gK] at hr;split at hr;rotate_left
      ·exact hr.elim
      rename_i v H1 hrun;obtain⟨q1,u,q2,q3⟩:=tY (qO hk) hkind hE.er h hrun;show fD P .any ops R (gP m σ H w) fl ((2,j,o)::fC ops (pl.map iZ)) a w;unfold fD;rw[if_pos hwant];exact⟨u,q3,ve h htop pl r hl2 hr (hE.put q2 hd) ((jv _ _ _).trans hdf) hQ⟩
    ·exact hr.elim
  ·replace hr:=hr.2 rfl
   obtain⟨hn3,hn0,hr⟩:=hr;have hput:=hE.put (u:=undef) (v:= .tup []) (.tup rfl (λi v h=>by simp at h)) hd
   have next:=ve h htop pl r hl2 hr hput ((jv _ _ _).trans hdf) hQ
   have:k=1\/k=2:=aa;rcases this with rfl|rfl
   ·show fD P .any ops R (gP m σ H w) fl ((1,j,o)::fC ops (pl.map iZ)) a w;unfold fD;rw[hwant,if_neg ae];exact next
   ·show fD P .any ops R (gP m σ H w) fl ((2,j,o)::fC ops (pl.map iZ)) a w;unfold fD;rw[hwant,if_neg ae];exact next
theorem qc{σ0:Sg}{H0:AH}{w0:World}(h0:HR B σ0 H0 w0):∀(T:PT) (T':AT) {σ:Sg} {e:Tr AV} {H:AH} {a:Act} {w:World} {Q':Tr AV->AH->Prop},um P n ops T=some T'->lc P m T' e H Q'->EN n σ e a->a.defers=[]->HR B σ H w->Fr B σ0 σ H0 H w0 w->ov B σ0 σ->(∀c,c<w0.heap.size->(∀b o,σ0 b≠some (c,o))->σ.fz c=σ0.fz c)->
  (∀e' H' a' w' σ',Q' e' H'->EN n σ' e' a'->a'.defers=[]->HR B σ' H' w'->lb kk B σ0 w0 σ' w'->R .normal a' w')->mH P ops R (gP m σ0 H0 w0) T a w
 |.fin,T',σ,e,H,a,w,Q',hT,hr,hE,hdf,h,hF,hzb,hfz,hQ=>by
  simp only[um,apn] at hT;subst hT;exact hQ e H a w σ hr hE hdf h (.of_fr hF hzb hfz)
 |.none,T',σ,e,H,a,w,Q',hT,hr,hE,hdf,h,hF,hzb,hfz,hQ=>trivial
 |.alt j r more,T',σ,e,H,a,w,Q',hT,hr,hE,hdf,h,hF,hzb,hfz,hQ=>by
  simp only[um] at hT;split at hT;rotate_left
  ·cases hT
  rename_i o ho;obtain⟨x,hx,hT⟩:=bM.1 hT;obtain⟨r',hr',hT⟩:=bM.1 hT;obtain⟨m',hm',rfl⟩:=apc.1 hT;unfold qa at hx;split at hx;rotate_left
  ·cases hx
  rename_i hd;obtain⟨g,hg,hx⟩:=bM.1 hx;obtain⟨ak,hk,rfl⟩:=apc.1 hx;obtain⟨hr1,hr2⟩:=hr;refine⟨?_,qc h0 more m' hm' hr2 hE hdf h hF hzb hfz hQ⟩;rw[ho];simp only;split at hr1;rotate_left
  ·exact hr1.elim
  rename_i t hw;have hwant:=iV hE.er hg hw;have hA:lb kk B σ0 w0 σ w:= .of_fr hF hzb hfz;cases t;rotate_left
  ·replace hr1:=hr1.1 rfl
   refine jb hwant (Mz hk hE.er h hr1 λv H1 u w1 σ1 q0 q1 q2 q3 q5 q6 q4=>?_);have hF1:=hF.trans q3 h;refine⟨gP.of_fr hF1 q0.1,qc h0 r r' hr' q0.2 ((hE.mono q3.ext).put q1 hd) ((jv _ _ _).trans hdf) q2 hF1 (hzb.trans q5) (λc hc hn=>?_) hQ⟩;exact(q6 c (ap1 hc hF.bel.size) (hA.un hc hn)).trans (hfz c hc hn)
  ·replace hr1:=hr1.2 rfl
   refine rF hwant ?_;exact⟨gP.of_fr hF hr1.1,qc h0 r r' hr' hr1.2 (hE.put (u:=undef) (.tup rfl (λi v h=>by simp at h)) hd) ((jv _ _ _).trans hdf) h hF hzb hfz hQ⟩
end
section
variable {P:Program} {n:Nat} {kk:Nat->Bool} {hints:gN} {e:Tr AV} {H:AH} {Q:AE->Tr AV->AH->Prop} {E:List PanicEntry->AH->Prop}
theorem GE.frk(hm:P.follows .mixedOrders=true)(m:Nat){l:List (Nat×AO)}{T:AT}(htop:g8 H m (H.next-m))(h:Ac P {H with low:=2^40} m l e (λe'=>lc P m T e' {H with low:=2^40} (λe' H'=>Q .normal e' {H' with low:=min H.low H'.low}))):GE P n kk hints (.frk l T) e H Q E:=λc hc B σ a w R hE hdf hH hs hR hP=>by
 obtain⟨id,ops,fl,pu,pl,T0,rfl,hB,hk,hl,hT⟩:=gJ hc;have hops:ops=ops.toList.toArray:=ae;rw[hops];rw[hops] at hB;have hd:HR B σ {H with low:=2^40} w.drew:=⟨hH.new,hH.newl,hH.old,hH.small,hH.hB,hH.nil,hH.nilp,hH.blk,hH.szs,hH.inj,hH.frz,hH.ob.of_eq rfl⟩;have hunk:pl.map iZ=pl:=by
  have:∀p ∈ pl,iZ p=p:=λp hp=>by
   have:=apr.1 hk p hp;obtain⟨k,j⟩:=p;simp only[ap5,beq_iff_eq] at this;rcases this with rfl|rfl<;>rfl
  rw[List.map_congr_left this,List.map_id']
 refine n9 (gP m σ {H with low:=2^40} w.drew) fl pu pl T0 hm hB (λc a d v w hq=>hs _ _ _ _ _ hq) (gP.refl _ _ _ _) ?_;rw[<-hops,<-hunk];have htop':g8 {H with low:=2^40} m (AH.next {H with low:=2^40}-m):=by
  have key:∀(k m:Nat),g8 H m k->g8 {H with low:=2^40} m k:=by
   intro k;induction k with
   |zero=>intro m _;trivial
   |succ k ih=>intro m h;exact⟨h.1,ih _ h.2⟩
  exact key _ _ htop
 refine ve (R:=Exit.then (mH P ops R (gP m σ {H with low:=2^40} w.drew) T0) R) hd htop' pl l hl h hE hdf (λe' a' q q1 qd=>?_)
 refine qc (kk:=kk) hd T0 T hT q q1 qd hd (Fr.refl hd) (.refl _ _) (λ_ _ _=>rfl) (λe' H' a' w' σ' q q1 qd q2 q3=>?_);exact hR .normal e' _ a' w' σ' q q1 qd (q2.relow _) q3.drew
end
/-! what simp needs-/
def kFl(P:Program)(H:AH)(m:Nat)(l:List (Nat×AO))(e:Tr AV)(d:Option Nat)(Q:Tr AV->Prop)(v:AV)(_:AH):Prop:=Ac P H m l (fQ e d v) Q
theorem LW(P:Program)(H H2:AH)(m:Nat)(l:List (Nat×AO))(e:Tr AV)(d:Option Nat)(Q:Tr AV->Prop)(v:AV):kFl P H m l e d Q v H2=Ac P H m l (fQ e d v) Q:=id rfl
theorem Gz(P:Program)(H:AH)(m:Nat)(e:Tr AV)(Q:Tr AV->Prop):Ac P H m [] e Q=Q e:=id rfl
def gdF(P:Program)(H:AH)(m:Nat)(k:Nat)(d:Option Nat)(a:AK)(l:List (Nat×AO))(e:Tr AV)(Q:Tr AV->Prop):Option Bool->Prop
 |some true=>if k=1 then iz H m true e a/\gK P e H a (kFl P H m l e d Q) else if k=2 then jq a=true/\gK P e H a (kFl P H m l e d Q) else False
 |some false=>k≠3/\k≠0/\Ac P H m l (fQ e d (.tup [])) Q
 |none=>False
theorem Fq(P:Program)(H:AH)(m:Nat)(k:Nat)(d:Option Nat)(a:AK)(l:List (Nat×AO))(e:Tr AV)(Q:Tr AV->Prop):gdF P H m k d a l e Q (some true)=if k=1 then iz H m true e a/\gK P e H a (kFl P H m l e d Q) else if k=2 then jq a=true/\gK P e H a (kFl P H m l e d Q) else False:=id rfl
theorem CL(P:Program)(H:AH)(m:Nat)(k:Nat)(d:Option Nat)(a:AK)(l:List (Nat×AO))(e:Tr AV)(Q:Tr AV->Prop):gdF P H m k d a l e Q (some false)=(k≠3/\k≠0/\Ac P H m l (fQ e d (.tup [])) Q):=id rfl
theorem Dr(P:Program)(H:AH)(m:Nat)(k:Nat)(d:Option Nat)(g:Option (Nat×Bool))(a:AK)(l:List (Nat×AO))(e:Tr AV)(Q:Tr AV->Prop):Ac P H m ((k,⟨d,g,a⟩)::l) e Q=gdF P H m k d a l e Q (gM e g):=by
 show(match gM e g with
  |some t=>(t=true->if k=1 then iz H m true e a/\gK P e H a (kFl P H m l e d Q) else if k=2 then jq a=true/\gK P e H a (kFl P H m l e d Q) else False)/\(t=false->k≠3/\k≠0/\Ac P H m l (fQ e d (.tup [])) Q)
  |none=>False)=_
 cases gM e g with
 |none=>rfl
 |some t=>cases t<;>simp[gdF]
def kTz(P:Program)(m:Nat)(T:AT)(e:Tr AV)(d:Option Nat)(Q:Tr AV->AH->Prop)(v:AV)(H:AH):Prop:=m<=H.low/\lc P m T (fQ e d v) H Q
theorem LS(P:Program)(m:Nat)(T:AT)(e:Tr AV)(d:Option Nat)(Q:Tr AV->AH->Prop)(v:AV)(H:AH):kTz P m T e d Q v H=(m<=H.low/\lc P m T (fQ e d v) H Q):=id rfl
theorem Bw(P:Program)(m:Nat)(e:Tr AV)(H:AH)(Q:Tr AV->AH->Prop):lc P m .fin e H Q=Q e H:=id rfl
theorem yU(P:Program)(m:Nat)(e:Tr AV)(H:AH)(Q:Tr AV->AH->Prop):lc P m .none e H Q=True:=id rfl
def gdZ(P:Program)(m:Nat)(d:Option Nat)(a:AK)(r:AT)(e:Tr AV)(H:AH)(Q:Tr AV->AH->Prop):Option Bool->Prop
 |some true=>zK P e H a (kTz P m r e d Q)
 |some false=>m<=H.low/\lc P m r (fQ e d (.tup [])) H Q
 |none=>False
theorem Fi(P:Program)(m:Nat)(d:Option Nat)(a:AK)(r:AT)(e:Tr AV)(H:AH)(Q:Tr AV->AH->Prop):gdZ P m d a r e H Q (some true)=zK P e H a (kTz P m r e d Q):=id rfl
theorem CE(P:Program)(m:Nat)(d:Option Nat)(a:AK)(r:AT)(e:Tr AV)(H:AH)(Q:Tr AV->AH->Prop):gdZ P m d a r e H Q (some false)=(m<=H.low/\lc P m r (fQ e d (.tup [])) H Q):=id rfl
theorem Bx(P:Program)(m:Nat)(d:Option Nat)(g:Option (Nat×Bool))(a:AK)(r more:AT)(e:Tr AV)(H:AH)(Q:Tr AV->AH->Prop):lc P m (.alt ⟨d,g,a⟩ r more) e H Q=(gdZ P m d a r e H Q (gM e g)/\lc P m more e H Q):=by
 show((match gM e g with
   |some t=>(t=true->zK P e H a (kTz P m r e d Q))/\(t=false->m<=H.low/\lc P m r (fQ e d (.tup [])) H Q)
   |none=>False)/\lc P m more e H Q)=_
 cases gM e g with
 |none=>rfl
 |some t=>cases t<;>simp[gdZ]
theorem GE.frkm{P:Program}{n:Nat}{kk:Nat->Bool}{hints:gN}{e:Tr AV}{H:AH}{Q:AE->Tr AV->AH->Prop}{E:List PanicEntry->AH->Prop}(hm:P.follows .mixedOrders=true)(m:Nat){l:List (Nat×AO)}{T:AT}(htop:g8 H m (H.next-m))(h:Ac P (H.setLow (2^40)) m l e (λe'=>lc P m T e' (H.setLow (2^40)) (λe' H'=>Q .normal e' (H'.setLow (min H.low H'.low))))):GE P n kk hints (.frk l T) e H Q E:=GE.frk hm m htop h
attribute [go_sem] LW Gz Fq CL Dr LS Bw yU Fi CE Bx
section
variable {H:AH}{g:FuncId}{args:List AV}{E:List PanicEntry->AH->Prop}{n:Nat}{kk:Nat->Bool}{P:Program}{e:Tr AV}
theorem Bt{fargs:List AV}{rs:List RT}{Q:AV->AH->Prop}(M:List Nat)(hcv:ja M H args fargs)(h:gw P g fargs rs)(hnx:H.next+9<2^40)(hsc:∀r ∈ rs,gR (λa=>a.sc 3=true) r)
  (hQ:Q (gD (iG H rs).1) (iG H rs).2):u5 P g args H Q:=by
 refine⟨h.1,λB σ w args' hH ha=>?_⟩;obtain⟨σ2,q1,q2,q3,q4,q5,q6,q7⟩:=hH.marks M;have hd:gn (Sg.data σ2.fz) fargs args'.toList:=hcv.ok hH q1 q2 q7 ha;have hin:wv σ2.fz w:=λc fs hf=>by
  obtain⟨cs,t,fr,e1,e2,_⟩:=q6.frz c fs hf;exact aqS
 refine(h.2 σ2.fz w args' hin hd).mono λe w' hp=>?_;cases e with
 |panicked c=>exact hp.elim
 |outgrown=>exact hp.elim
 |returned u=>
  obtain⟨v,Hc,σ',⟨l,rfl,hr⟩,hv,hHc,hbel,hfz⟩:=hp;obtain⟨us,hus,hback⟩:=m9 hv;have hblt:∀b c o,σ b=some (c,o)->H.at b≠none->c<w.heap.size:=λb c o hs hne=>by
   cases hx:H.at b with
   |none=>exact absurd hx hne
   |some x=>
    obtain⟨cs,e1,e2,e3⟩:=hH.blk b x c o hx hs;exact(apo.1 e2).1
  obtain⟨σ3,p1,p2,p3,p4,p5,p6,p7,p8⟩:=rn (σa:=σ) (good:=λa=>a.sc 3=true) (λ{a u σn} _ hs _ hu=>hu.sc 3 hs) hHc (hH.after_call hbel) (λc fs hc hf=>by have:=hH.fzlt hf;omega) hH.hB hblt hnx rs l us hr hsc hus
  refine⟨_,_,σ3,hQ,hback (kS rs l _ hr) p2,p1,⟨λb hb=>p5 b hb,p3,p6,by rw[p7];exact bL _,?_,λc hc=> .inl (hbel.block c hc),λb c o hb hs hc=>?_⟩,.of_eq p4,λc hc hn=>by rw[p4]⟩
  ·exact aqW
  ·exact aqX
theorem nA{fargs:List AV}{rs:List RT}{Q:AV->Tr AV->AH->Prop}(M:List Nat)(hcv:ja M H args fargs)(h:gw P g fargs rs)(hnx:H.next+9<2^40)(hsc:∀r ∈ rs,gR (λa=>a.sc 3=true) r)
  (hQ:Q (gD (iG H rs).1) e (iG H rs).2):jr P n kk g args e H Q E:=Bn (Bt M hcv h hnx hsc hQ)
theorem GE.cut{hints:gN}{Q Q1:AE->Tr AV->AH->Prop}{x y:AC}(e2:Tr AV)(H2:AH)(h:GE P n kk hints x e H (mq (λe' H'=>gA n kk e' H' e2 H2) (λ_ _ _=>False)) E)(h':GE P n kk hints y e2 H2 Q E):GE P n kk hints x e H (mq (λe' H'=>GE P n kk hints y e' H' Q E) Q1) E:=
 h.mono (λa e' H' hq=>by
  cases a with
  |normal=>exact GE.wk hq h'
  |exit i=>exact hq.elim
  |ret=>exact hq.elim) (λ_ _ q=>q)
theorem GE.cutP{hints:gN}{Q Q1:AE->Tr AV->AH->Prop}{x y:AC}(R:Tr AV->AH->Prop)(h:GE P n kk hints x e H (mq (λe' H'=>∃e2 H2,gA n kk e' H' e2 H2/\R e2 H2) (λ_ _ _=>False)) E)(h':∀e2 H2,R e2 H2->GE P n kk hints y e2 H2 Q E):GE P n kk hints x e H (mq (λe' H'=>GE P n kk hints y e' H' Q E) Q1) E:=
 h.mono (λa e' H' hq=>by
  cases a with
  |normal=>
   obtain⟨e2,H2,h1,h2⟩:=hq;exact GE.wk h1 (h' e2 H2 h2)
  |exit i=>exact hq.elim
  |ret=>exact hq.elim) (λ_ _ q=>q)
theorem mj{Q:AV->AH->Prop}{v:AV}{ob:Nat->Option OB}(ρ M:List Nat)(v2:AV)(bl:List AB)(h1:ig (λb2=>ρ.reverse[b2]?) M H ρ bl)(h2:Wv (λb2=>ρ.reverse[b2]?) M H v v2)(h3:bl.length<1000000)(hob:∀r x,ob r=some x->H.ob r=some x)(h4:∀b,kk b=true->ρ.reverse[b]? =some b)(h5:Q v2 (ft ob bl)):Vw kk Q v H:=
 ⟨ob,ρ,M,v2,bl,h1,h2,h3,hob,h4,h5⟩
theorem HR.recellG{B:Nat}{σ:Sg}{w:World}{b i:Nat}{x:AB}{v:AV}(h:HR B σ H w)(hx:H.at b=some x)(hi:i<x.size)(hs:i<999999)(hb:b<1000000)(hl:x.live=true)(hv:∀u,VR σ (x.get i) u->VR σ v u):HR B σ (H.upd b (x.putN i [v])) w:=by
 have hat:∀b' y,(H.upd b (x.putN i [v])).at b'=some y->∃y0,H.at b'=some y0/\y.size=y0.size/\y.esz=y0.esz/\y.ty=y0.ty/\y.opn=y0.opn/\y.fzn=y0.fzn/\∀j u,VR σ (y0.get j) u->VR σ (y.get j) u:=λb' y hy=>by
  rw[zX hb] at hy;by_cases e:b'=b
  ·subst e;rw[if_pos rfl,uM,if_pos hl] at hy;cases hy;refine⟨x,hx,rfl,rfl,rfl,rfl,rfl,λj u hu=>?_⟩;rw[jL arl]
   simp only[List.length_cons,List.length_nil];by_cases hj:i<=j/\j<i+(0+1)
   ·rw[if_pos hj];obtain rfl:j=i:=aa;rw[apt];exact hv u hu
   ·rw[if_neg hj];exact hu
  ·rw[if_neg e] at hy;exact⟨y,hy,rfl,rfl,rfl,rfl,rfl,λ_ _ hu=>hu⟩
 refine⟨h.new,h.newl,λb' hb'=>?_,h.small,h.hB,λb' y hy hs=>?_,h.nilp,λb' y c o hy hs=>?_,λb' y hy=>?_,λb1 b2 y1 y2 c o1 o2 k1 k2 k3 k4=>?_,λc fs hf=>?_,h.ob⟩
 ·cases hy:(H.upd b (x.putN i [v])).at b' with
  |none=>rfl
  |some y=>
   obtain⟨y0,e1,_⟩:=hat b' y hy;rw[h.old b' hb'] at e1;cases e1
 ·obtain⟨y0,e1,e2,e3,e4,e5,e6,e7⟩:=hat b' y hy;obtain⟨p1,p2,p3⟩:=h.nil b' y0 e1 hs;exact⟨aa,by rw[e5];exact p2,p3⟩
 ·obtain⟨y0,e1,e2,e3,e4,e5,e6,e7⟩:=hat b' y hy;obtain⟨cs,p1,p2,p3⟩:=h.blk b' y0 c o e1 hs;refine⟨cs,p1,by rw[e4];exact p2,⟨by rw[e2];exact p3.sz,λe=>by rw[e2];exact p3.ex e,λk hk=>by rw[e3];exact p3.op k hk,by rw[e5];exact p3.ob,λj hj=>e7 j _ (p3.cell j aa)⟩⟩
 ·exact aqP
 ·obtain⟨z1,e1,_⟩:=hat b1 y1 k1;obtain⟨z2,e2,_⟩:=hat b2 y2 k2;exact h.inj b1 b2 z1 z2 c o1 o2 e1 e2 k3 k4
 ·obtain⟨cs,t,fr,p1,p2,p3⟩:=h.frz c fs hf;refine⟨cs,t,fr,p1,p2,λb' y o hy hs=>?_⟩;obtain⟨y0,e1,e2,e3,e4,e5,e6,e7⟩:=hat b' y hy;rw[e6];exact p3 b' y0 o e1 hs
theorem gA.trans{e2 e3:Tr AV}{H2 H3:AH}(h:gA n kk e H e2 H2)(h':gA n kk e2 H2 e3 H3):gA n kk e H e3 H3:=by
 intro B σ a w hE hH;obtain⟨σ2,q1,q2,q3⟩:=h B σ a w hE hH;obtain⟨σ3,r1,r2,r3⟩:=h' B σ2 a w q1 q2;exact⟨σ3,r1,r2,q3.trans r3⟩
theorem gA.nilc{x:AB}(b i esz ty:Nat)(hx:H.at b=some x)(hi:i<x.size)(hs:i<999999)(hb:b<1000000)(hl:x.live=true)(hv:x.get i= .sl0)(hn:H.next<1000000):gA n kk e H e ((H.new (l8 esz ty)).upd b (x.putN i [.os H.next 0])):=by
 intro B σ a w hE hH;have hle:=σ.le_extNil H.next
 have h1:HR B (σ.extNil H.next) (H.new (l8 esz ty)) w:=hH.placeNil rfl (λ_ _ h=>h) aa rfl rfl rfl ⟨rfl,rfl⟩
 have hbn:=AH.at_lt hH hx;have hx1:(H.new (l8 esz ty)).at b=some x:=by
  rw[kG aa,if_neg aa];exact hx
 refine⟨σ.extNil H.next,hE.mono hle,h1.recellG hx1 hi hs hb hl λu hu=>?_,Below.refl _ _,.of_eq rfl,λb c o h=> .inl ⟨b,o,h⟩,λ_ _ _=> .inl rfl,λ_ _ _=>rfl,λb x _ h=>h⟩
 rw[hv] at hu;cases hu with
 |sl0 ad=>exact .os0 (σ:=σ.extNil H.next) (Or.inl rfl) ad
theorem pX{args2:List AV}{Q:AV->Tr AV->AH->Prop}{ob:Nat->Option OB}{L:List (Nat×AV)}{bl:List AB}(ρ M:List Nat)
  (he:iT (λb2=>ρ.reverse[b2]?) M H e L) (hh:ig (λb2=>ρ.reverse[b2]?) M H ρ bl) (hv:Gk (λb2=>ρ.reverse[b2]?) M H args args2) (hob:∀r x,ob r=some x->H.ob r=some x) (hl:bl.length<1000000) (hkk:∀b,kk b=true->ρ.reverse[b]? =some b)
  (h:jr P n kk g args2 (fu L) (ft ob bl) Q E):jr P n kk g args e H Q E:=by
 refine⟨h.1,λB σ a w args' hEn hH ha'=>?_⟩;obtain⟨σ2,q1,q2,q3,q4,q5,q6⟩:=Wk.mkE ρ M he hh hl hob hEn hH;have hA:lb kk B σ w σ2 w:=by
  refine⟨Below.refl _ _,q3,λb c o hs=>?_,λ_ _ _=> .inl rfl,λc _ hn=>q5 c hn,λb x hb hs=>?_⟩
  ·exact arb
  ·rw[q4,hkk b hb];exact hs
 have hargs:gn σ2 args2 args'.toList:=by
  obtain⟨v1,v2⟩:=hv.get;refine⟨v1.symm.trans ha'.1,λi v' hv'=>?_⟩;obtain⟨v,g1,g2⟩:=v2 i v' hv';exact q6 g2 (ha'.2 i v g1)
 refine(h.2 B σ2 a w args' q1 q2 hargs).mono λen w' hp=>?_;cases en with
 |returned u=>
  obtain⟨v,e',H',σ',r0,r1,r2,r3,r4⟩:=hp;exact⟨v,e',H',σ',r0,r1,r2,r3,hA.trans r4⟩
 |panicked c=>
  obtain⟨H',σ',r0,r1,r2⟩:=hp;exact⟨H',σ',r0,r1,hA.no.trans r2⟩
 |outgrown=>exact hp.elim
end
end Go.Proofs.YtdpkgnmmikebdaaGreat