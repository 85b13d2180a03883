/- A part of the proof of CostLimits. No condition. -/
import Derived.Test.YtdpkgnmmikebdaaGreatGi21
set_option linter.unusedSimpArgs false
set_option linter.unusedVariables false
set_option linter.constructorNameAsVariable false
set_option maxRecDepth 100000
set_option maxHeartbeats 4000000
namespace Go.Proofs.YtdpkgnmmikebdaaGreat
open Go.RowKit
def ObS(B:Nat)(H0:AH)(w':World):Prop:=∀r x,H0.ob r=some (.mp x)->MY B w' r (.mp x)
def LO(a b:Nat->Option OB):Prop:=∀r x,a r=some x->b r=some x
theorem EV(a:Nat->Option OB):LO a a=True:=eq_true (λ_ _ h=>h)
theorem ObS.of{B:Nat}{σ:Sg}{H0 H:AH}{w:World}(h:HR B σ H w)(hle:LO H0.ob H.ob):ObS B H0 w:=λr x hx=>h.ob.o r _ (hle r _ hx)
def z9(B m:Nat)(σ0:Sg)(H0:AH)(w0 w':World):Prop:=gP m σ0 H0 w0 w'/\ObS B H0 w'
def lkV(Q:AV->Prop):AV->Prop
 |.n q j=>Q (.n q j)
 |_=>False
def lkO(z:AV)(i:Int)(Q:AV->Prop):Option OB->Prop
 |some (.mp y)=>lkV Q (y.look false z i)
 |_=>False
def lkE(H0:AH)(z:AV)(ok:Bool)(Q:AV->Prop):Option AV->Option AV->Prop
 |some (.cv (.map (some r))),some (.n .i64 i)=>ok=false/\lkO z i Q (H0.ob r)
 |_,_=>False
theorem LM{H0:AH}{z:AV}{ok:Bool}{Q:AV->Prop}{x k:Option AV}(h:lkE H0 z ok Q x k):∃r i y q j,x=some (.cv (.map (some r)))/\k=some (.n .i64 i)/\ok=false/\H0.ob r=some (.mp y)/\y.look false z i= .n q j/\Q (.n q j):=by
 unfold lkE at h;split at h
 ·rename_i r i;obtain⟨h0,h⟩:=h;unfold lkO at h;split at h
  ·rename_i y hy;unfold lkV at h;split at h
   ·rename_i q j hv;exact⟨r,i,y,q,j,rfl,rfl,h0,hy,hv,h⟩
   ·exact h.elim
  ·exact h.elim
 ·exact h.elim
def Cg(H0:AH)(e:Tr AV)(k:AK)(Q:AV->Prop):Prop:=match k with
 |.mo (.lk z ok x k)=>lkE H0 z ok Q (x.ev e) (k.ev e)
 |_=>False
def kb(P:Program)(H0:AH)(m:Nat):Bool->List (Nat×AO)->Tr AV->AH->(Tr AV->AH->Prop)->Prop
 |_,[],e,H,Q=>Q e H
 |nc,(k,o)::l,e,H,Q=>match gM e o.gd with
  |some t=>
   (t=true->if k=1 then iz H0 m nc e o.k/\m<=H.low/\gK P e H o.k (λv H'=>kb P H0 m nc l (fQ e o.dst v) H' Q)
    else if k=2 then jq o.k=true/\gK P e H o.k (λv H'=>kb P H0 m nc l (fQ e o.dst v) H' Q)
    else if k=4 then Cg H0 e o.k (λv=>kb P H0 m nc l (fQ e o.dst v) H Q)
    else gK P e H o.k (λv H'=>(k=3\/(m<=H'.low/\LO H0.ob H'.ob))/\kb P H0 m (nc&& !ly o.k) l (fQ e o.dst v) H' Q))/\
   (t=false->(k=0->m<=H.low/\LO H0.ob H.ob)/\kb P H0 m nc l (fQ e o.dst (.tup [])) H Q)
  |none=>False
section
variable {P:Program} {B n m:Nat} {σ0:Sg} {H0:AH} {w0:World} {ops:Array Oper} {fl:List Nat} {Q:Exit->Act->World->Prop}
theorem Cf{o:Oper}{z:AV}{x' k':AX}(hc:pr P o.op=some (.mo (.lk z false x' k'))){σ:Sg}{e:Tr AV}{a:Act}(hE:ER σ e a){r:Nat}{i:Int}{y:nG}{q:IntKind}{j:Int}
  (h1:x'.ev e=some (.cv (.map (some r)))) (h2:k'.ev e=some (.n .i64 i)) (hv:y.look false z i= .n q j) {w':World} (hw:MY B w' r (.mp y)):(execOp a.eval o).run P w'= .ok (.value (.int q j)) w':=by
 have hm:zv P o.op=some (.lk z false x' k'):=by
  unfold pr at hc;split at hc
  ·rename_i m hm;cases hc;exact hm
  ·unfold t0 at hc;exfalso;split at hc
   ·split at hc
    ·exact asm
    ·exact asm
   ·split at hc
    ·obtain⟨_,_,hc⟩:=bM.1 hc;obtain⟨_,_,hc⟩:=apc.1 hc;cases hc
    ·exact asm
   ·exact asm
 obtain⟨T,x,k,E,ho,hE',hx,hk,hz⟩:∃T x k E,o.op= .lookup T x k false/\r7 P T=some E/\fF x=some x'/\fF k=some k'/\wA P E=some z:=by
  generalize o.op=op at hm;unfold zv at hm;split at hm
  case h_2 t x k ok=>
   obtain⟨E,hE',hm⟩:=bM.1 hm;obtain⟨x1,hx,hm⟩:=bM.1 hm;obtain⟨k1,hk,hm⟩:=bM.1 hm;split at hm
   ·rename_i z1 hz;cases hm;exact⟨t,x,k,E,rfl,hE',hx,hk,hz⟩
   ·obtain⟨_,_,hm⟩:=apc.1 hm;cases hm
  all_goals
   exfalso
   repeat' split at hm
   all_goals first
    |(cases hm;done)
    |(simp only[bM,apc,reduceCtorEq,and_false,exists_false] at hm;done)
 obtain⟨K,hT,hK⟩:=my hE';obtain⟨_,es,c,g1,g2⟩:=hw;have e1:=jX hx hE h1;have e2:=lU hk hE h2;obtain⟨zu,hz1,hz2,hz3⟩:=sV hz w';unfold execOp;rw[ho];unfold nG.look at hv;rcases wZ hT hK g1 g2.int i false hz1 with⟨q1,q2⟩|⟨e0,q1,q2,q3⟩
 ·rw[g2.miss q2] at hv;have hv:z= .n q j:=hv;have hzz:=hz3 σ;rw[hv] at hzz;cases hzz;simp only[e1,e2,q1,Sem.run_bind,Result.andThen_ok,Sem.run_pure,apQ,if_false]
 ·obtain⟨v,p1,p2,p3⟩:=g2.hit q1 q2;rw[p1] at hv;have hv:v= .n q j:=hv;rw[hv] at p3;have hval:e0.val= .int q j:=by
   generalize e0.val=u at p3;cases p3;rfl
  simp only[e1,e2,q3,Sem.run_bind,Result.andThen_ok,Sem.run_pure,hval,apQ,if_false]
theorem lS(h0:HR B σ0 H0 w0)(htop:g8 H0 m (H0.next-m))(hp:∀c a w,¬Q (.panic c) a w):∀(pl:List (Nat×Nat)) (l':List (Nat×AO)) {nc:Bool} {σ:Sg} {e:Tr AV} {H:AH} {a:Act} {w:World} {Q':Tr AV->AH->Prop},rj P n ops fl pl=some l'->kb P H0 m nc l' e H Q'->EN n σ e a->HR B σ H w->
  Fr B σ0 σ H0 H w0 w->(nc=true->σ.fz=σ0.fz)->ov B σ0 σ->
  (∀e' H' a' w' σ',Q' e' H'->EN n σ' e' a'->HR B σ' H' w'->Fr B σ0 σ' H0 H' w0 w'->ov B σ0 σ'->Q .normal a' w')->fD P .any ops Q (z9 B m σ0 H0 w0) fl (fC ops (pl.map iZ)) a w
 |[],l',nc,σ,e,H,a,w,Q',hl,hr,hE,h,hF,hz,hzb,hQ=>by
  simp only[rj,apn] at hl;subst hl;show fD P .any ops Q (z9 B m σ0 H0 w0) fl [] a w;exact lH (hQ e H a w σ hr hE h hF hzb)
 |(k,j)::pl,l',nc,σ,e,H,a,w,Q',hl,hr,hE,h,hF,hz,hzb,hQ=>by
  simp only[rj] at hl;split at hl;rotate_left
  ·cases hl
  rename_i o ho;obtain⟨x,hx,hl⟩:=bM.1 hl;split at hl;rotate_left
  ·cases hl
  rename_i hk3;obtain⟨hk3,hsee⟩:=hk3;obtain⟨r,hl2,rfl⟩:=apc.1 hl;unfold qa at hx;split at hx;rotate_left
  ·cases hx
  rename_i hd;obtain⟨g,hg,hx⟩:=bM.1 hx;obtain⟨ak,hk,rfl⟩:=apc.1 hx;have hgp:fC ops (((k,j)::pl).map iZ)=((iZ (k,j)).1,j,o)::fC ops (pl.map iZ):=by
   have:iZ (k,j)=((iZ (k,j)).1,j):=by unfold iZ;split<;>first|rfl|(rename_i heq;cases heq;rfl)
   rw[List.map_cons,this];simp[fC,ho]
  rw[hgp];simp only[kb] at hr;split at hr;rotate_left
  ·exact hr.elim
  rename_i t hw;cases t;rotate_left
  ·replace hr:=hr.1 rfl
   have hwant:=iV hE.er hg hw;split at hr
   ·
    rename_i hk1;subst hk1;obtain⟨hearly,hlow,hr⟩:=hr;cases ak with
    |cl f args=>exact hearly.elim
    |sn neg x=>exact hearly.elim
    |mo x=>exact hearly.elim
    |ap ap0=>
     cases ap0<;>try exact hearly.elim
     rename_i nn row xx;simp only[gK] at hr;split at hr;rotate_left
     ·exact hr.elim
     rename_i v H1 hrun;obtain⟨q1,_,_,_,c,u,q2,q34,q5,q6⟩:=wa (qO hk) rfl hE.er h hrun;subst q1;cases q2;have hgw:gP m σ0 H0 w0 w:=gP.of_fr hF hlow;have htop':=g8.get _ _ htop;have hclt:(∃(cs:Array Value) (t:TypeId) (fr:Nat×Nat),w0.heap[c]? =some (Obj.cells cs t fr))/\∀b o,m<=b->b<H0.next->σ0 b≠some (c,o):=by
      rcases q34 with⟨b,off,oc,q3,q4⟩|⟨_,_,_,fs,q3,q4,q40⟩
      ·exact dR
      ·simp only[iz,q3] at hearly;rw[hz hearly] at q4;refine⟨by obtain⟨cs',t',fr',m1,_⟩:=h0.frz c fs q4;exact⟨_,_,_,m1⟩,λb' o' h1 h2 h3=>?_⟩
       obtain⟨x',hx',hx0⟩:=htop' b' h1 aa;obtain⟨cs',t',fr',_,_,m3⟩:=h0.frz c fs q4;have:=m3 b' x' o' hx' h3;omega
     have hcell:∀{w':World},gP m σ0 H0 w0 w'->∀i,w'.cell? ⟨c,i,none⟩=w0.cell? ⟨c,i,none⟩:=λhw' i=>by
      have:=hw' c hclt.1 hclt.2;simp only[World.cell?,this]
     show fD P .any ops Q (z9 B m σ0 H0 w0) fl ((1,j,o)::fC ops (pl.map iZ)) a w;unfold fD;rw[if_pos hwant];refine⟨u,λw' hw'=>q6 w' (λi=>(hcell hw'.1 i).trans (hcell hgw i).symm),?_⟩;exact lS h0 htop hp pl r hl2 hr (hE.put q5 hd) h hF hz hzb hQ
   ·split at hr
    ·
     rename_i hk1 hk2;subst hk2;obtain⟨hpure,hr⟩:=hr;cases ak with
     |cl f args=>cases hpure
     |sn neg x=>cases hpure
     |mo x=>cases hpure
     |ap xx=>
      have hkind:xx.kind=2:=by simpa [jq] using hpure
      simp only[gK] at hr;split at hr;rotate_left
      ·exact hr.elim
      rename_i v H1 hrun;obtain⟨q1,u,q2,q3⟩:=tY (qO hk) hkind hE.er h hrun;subst q1;show fD P .any ops Q (z9 B m σ0 H0 w0) fl ((2,j,o)::fC ops (pl.map iZ)) a w;unfold fD;rw[if_pos hwant];exact⟨u,q3,lS h0 htop hp pl r hl2 hr (hE.put q2 hd) h hF hz hzb hQ⟩
    ·rename_i hk1 hk2;split at hr
     ·rename_i hk4;subst hk4;cases ak with
      |cl f args=>exact hr.elim
      |sn neg x=>exact hr.elim
      |ap x=>exact hr.elim
      |mo mo0=>
       cases mo0<;>try exact hr.elim
       rename_i z ok xx kk;simp only[Cg] at hr;obtain⟨r',i,y,q,jj,g1,g2,rfl,g4,g5,hr⟩:=LM hr;show fD P .any ops Q (z9 B m σ0 H0 w0) fl ((1,j,o)::fC ops (pl.map iZ)) a w;unfold fD;rw[if_pos hwant];exact⟨_,λw' hw'=>Cf hk hE.er g1 g2 g5 (hw'.2 r' y g4),lS h0 htop hp pl r hl2 hr (hE.put (.n q jj) hd) h hF hz hzb hQ⟩
     rename_i hk4;have hu0:(iZ (k,j)).1=0:=by
      have:k=0\/k=3:=aa;rcases this with rfl|rfl<;>rfl
     rw[hu0];have hz':∀{σ1:Sg},(ly ak=false->σ1.fz=σ.fz)->(nc&& !ly ak)=true->σ1.fz=σ0.fz:=λh1 h2=>by
      simp only[apq,Bool.not_eq_true'] at h2;rw[h1 h2.2,hz h2.1]
     by_cases hk0:k=3
     ·subst hk0;have s1:=hsee rfl;refine jZ s1 (jb hwant ?_);refine qF hk hE.er h hr λv H1 u w1 σ1 q0 q1 q2 q3 q5 q4=>?_;exact lS h0 htop hp pl r hl2 q0.2 ((hE.mono q3.ext).put q1 hd) q2 (hF.trans q3 h) (hz' q4) (hzb.trans q5) hQ
     ·refine ma (jb hwant ?_);refine qF hk hE.er h hr λv H1 u w1 σ1 q0 q1 q2 q3 q5 q4=>?_;have hlow':=q0.1.resolve_left hk0;have hF1:=hF.trans q3 h;have hg1:z9 B m σ0 H0 w0 w1:=⟨gP.of_fr hF1 hlow'.1,ObS.of q2 hlow'.2⟩;exact⟨hg1,lS h0 htop hp pl r hl2 q0.2 ((hE.mono q3.ext).put q1 hd) q2 hF1 (hz' q4) (hzb.trans q5) hQ⟩
  ·replace hr:=hr.2 rfl
   obtain⟨hlow,hr⟩:=hr;have hwant:=iV hE.er hg hw;have hput:=hE.put (u:=undef) (v:= .tup []) (.tup rfl (λi v h=>by simp at h)) hd
   have next:=lS h0 htop hp pl r hl2 hr hput h hF hz hzb hQ
   have:(iZ (k,j)).1=0\/(iZ (k,j)).1=1\/(iZ (k,j)).1=2:=by
    have:k=0\/k=1\/k=2\/k=3\/k=4:=aa;rcases this with rfl|rfl|rfl|rfl|rfl<;>simp[iZ]
   rcases this with q|q|q<;>rw[q]
   ·have hskip:∀R:Exit->Act->World->Prop,R .normal (a.put o.dst undef) w->wpList P ops R [o] a w:=λR hR=>by
     unfold wpList;rw[hwant,if_neg ae];exact hR
    unfold fD;split
    ·exact hskip _ next
    ·rename_i hs;refine hskip _ ⟨?_,next⟩
     have:k=0\/k=1\/k=2\/k=3\/k=4:=aa;rcases this with rfl|rfl|rfl|rfl|rfl
     ·exact⟨gP.of_fr hF (hlow rfl).1,ObS.of h (hlow rfl).2⟩
     ·simp[iZ] at q
     ·simp[iZ] at q
     ·exact absurd (hsee rfl) hs
     ·simp[iZ] at q
   ·exact dS
   ·exact dS
theorem Lz{hints:gN}{c:Code}{l:List (Nat×AO)}(h:ji P n hints c=some (.mxl l)):∃id ops fl pu pl,c= .region id ops true/\zw .any ops fl pu (pl.map iZ)=true/\rj P n ops fl pl=some l:=by
 cases c with
 |region id ops dr=>
  simp only[ji,apn] at h;cases hc0:xq P n hints id ops dr with
  |none=>rw[hc0] at h;cases h
  |some ac0=>
  rw[hc0] at h;have e0:ac0= .mxl l:=h;subst e0;clear h;have h:=hc0;clear hc0;unfold xq at h;split at h
  ·rename_i hd;subst hd;split at h
   ·rename_i fl pu pl hh;split at h;rotate_left
    ·cases h
    rename_i hB;split at h
    ·rename_i l' hl;cases h
    ·obtain⟨l',hl,h⟩:=apc.1 h;cases h;exact⟨id,ops,fl,pu,pl,rfl,hB,hl⟩
   ·rename_i fl pu pl T hh;split at h;rotate_left
    ·cases h
    obtain⟨l',hl,h⟩:=bM.1 h;obtain⟨T',hT,h⟩:=apc.1 h;cases h
   ·cases h
  ·split at h
   ·cases h
   ·obtain⟨_,hl,h⟩:=apc.1 h;cases h
 |rangeFunc g ps asg body=>
  simp only[ji] at h;obtain⟨g1,h1,h⟩:=bM.1 h;obtain⟨x1,h2,h⟩:=bM.1 h;obtain⟨y1,h3,h⟩:=bM.1 h;unfold rfA at h;split at h
  ·split at h
   ·cases h
   ·cases h
  ·cases h
 |seq a b=>
  simp only[ji] at h;obtain⟨x,h1,h⟩:=bM.1 h;obtain⟨y,h2,h⟩:=apc.1 h;cases h
 |cond o a b=>
  simp only[ji] at h;obtain⟨cc,h0,h⟩:=bM.1 h;obtain⟨x,h1,h⟩:=bM.1 h;obtain⟨y,h2,h⟩:=apc.1 h;cases h
 |block id b=>
  simp only[ji] at h;obtain⟨x,h1,h⟩:=apc.1 h;cases h
 |loop b=>
  simp only[ji] at h;obtain⟨x,h1,h⟩:=apc.1 h;cases h
 |_=>simp[ji] at h
end
section
variable {P:Program} {n:Nat} {hints:gN} {e:Tr AV} {H:AH} {Q:AE->Tr AV->AH->Prop}
theorem GA.mxl(hm:P.follows .mixedOrders=true)(m:Nat){l:List (Nat×AO)}(htop:g8 H m (H.next-m))(h:kb P {H with low:=2^40} m true l e {H with low:=2^40} (λe' H'=>Q .normal e' {H' with low:=min H.low H'.low})):GA P n hints (.mxl l) e H Q:=λc hc B σ a w R hE hH hp hR=>by
 obtain⟨id,ops,fl,pu,pl,rfl,hB,hl⟩:=Lz hc;have hops:ops=ops.toList.toArray:=ae;rw[hops];rw[hops] at hB;have hd:HR B σ {H with low:=2^40} w.drew:=⟨hH.new,hH.newl,hH.old,hH.small,hH.hB,hH.nil,hH.nilp,hH.blk,hH.szs,hH.inj,hH.frz,hH.ob.of_eq rfl⟩;refine mG (z9 B m σ {H with low:=2^40} w.drew) fl pu (pl.map iZ) hm hB (λc a d v w hq=>(hp _ _ _ hq).elim) ⟨gP.refl _ _ _ _,λr x hx=>hd.ob.o r _ hx⟩ ?_;rw[<-hops];have htop':g8 {H with low:=2^40} m (AH.next {H with low:=2^40}-m):=by
  have key:∀(k m:Nat),g8 H m k->g8 {H with low:=2^40} m k:=by
   intro k;induction k with
   |zero=>intro m _;trivial
   |succ k ih=>intro m h;exact⟨h.1,ih _ h.2⟩
  exact key _ _ htop
 refine lS hd htop' hp pl l hl h hE hd (Fr.refl hd) (λ_=>rfl) (.refl _ _) (λe' H' a' w' σ' q q1 q2 q3 q4=>?_);exact hR .normal e' _ a' w' σ' q q1 (q2.relow _) ((Below.refl _ _).drew.trans q3.bel) q4
end
/-! what simp needs-/
def tq(P:Program)(H0:AH)(m:Nat)(nc:Bool)(l:List (Nat×AO))(e:Tr AV)(d:Option Nat)(Q:Tr AV->AH->Prop)(v:AV)(H:AH):Prop:=kb P H0 m nc l (fQ e d v) H Q
theorem Cy(P:Program)(H0:AH)(m:Nat)(nc:Bool)(l:List (Nat×AO))(e:Tr AV)(d:Option Nat)(Q:Tr AV->AH->Prop)(v:AV)(H:AH):tq P H0 m nc l e d Q v H=kb P H0 m nc l (fQ e d v) H Q:=id rfl
def A4(P:Program)(H0:AH)(m:Nat)(nc:Bool)(l:List (Nat×AO))(e:Tr AV)(d:Option Nat)(Q:Tr AV->AH->Prop)(H:AH)(v:AV):Prop:=kb P H0 m nc l (fQ e d v) H Q
theorem Cx(P:Program)(H0:AH)(m:Nat)(nc:Bool)(l:List (Nat×AO))(e:Tr AV)(d:Option Nat)(Q:Tr AV->AH->Prop)(v:AV)(H:AH):A4 P H0 m nc l e d Q H v=kb P H0 m nc l (fQ e d v) H Q:=id rfl
def vO(P:Program)(H0:AH)(m:Nat)(nc:Bool)(k:Nat)(l:List (Nat×AO))(e:Tr AV)(d:Option Nat)(Q:Tr AV->AH->Prop)(v:AV)(H:AH):Prop:=(k=3\/(m<=H.low/\LO H0.ob H.ob))/\kb P H0 m nc l (fQ e d v) H Q
theorem zB(P:Program)(H0:AH)(m:Nat)(nc:Bool)(k:Nat)(l:List (Nat×AO))(e:Tr AV)(d:Option Nat)(Q:Tr AV->AH->Prop)(v:AV)(H:AH):vO P H0 m nc k l e d Q v H=((k=3\/(m<=H.low/\LO H0.ob H.ob))/\kb P H0 m nc l (fQ e d v) H Q):=id rfl
theorem CR(P:Program)(H0:AH)(m:Nat)(nc:Bool)(e:Tr AV)(H:AH)(Q:Tr AV->AH->Prop):kb P H0 m nc [] e H Q=Q e H:=id rfl
def gdL(P:Program)(H0:AH)(m:Nat)(nc:Bool)(k:Nat)(d:Option Nat)(a:AK)(l:List (Nat×AO))(e:Tr AV)(H:AH)(Q:Tr AV->AH->Prop):Option Bool->Prop
 |some true=>if k=1 then iz H0 m nc e a/\m<=H.low/\gK P e H a (tq P H0 m nc l e d Q)
    else if k=2 then jq a=true/\gK P e H a (tq P H0 m nc l e d Q)
    else if k=4 then Cg H0 e a (A4 P H0 m nc l e d Q H)
    else gK P e H a (vO P H0 m (nc&& !ly a) k l e d Q)
 |some false=>(k=0->m<=H.low/\LO H0.ob H.ob)/\kb P H0 m nc l (fQ e d (.tup [])) H Q
 |none=>False
theorem Fp(P:Program)(H0:AH)(m:Nat)(nc:Bool)(k:Nat)(d:Option Nat)(a:AK)(l:List (Nat×AO))(e:Tr AV)(H:AH)(Q:Tr AV->AH->Prop):gdL P H0 m nc k d a l e H Q (some true)=if k=1 then iz H0 m nc e a/\m<=H.low/\gK P e H a (tq P H0 m nc l e d Q)
    else if k=2 then jq a=true/\gK P e H a (tq P H0 m nc l e d Q)
    else if k=4 then Cg H0 e a (A4 P H0 m nc l e d Q H)
    else gK P e H a (vO P H0 m (nc&& !ly a) k l e d Q):=id rfl
theorem CK(P:Program)(H0:AH)(m:Nat)(nc:Bool)(k:Nat)(d:Option Nat)(a:AK)(l:List (Nat×AO))(e:Tr AV)(H:AH)(Q:Tr AV->AH->Prop):gdL P H0 m nc k d a l e H Q (some false)=((k=0->m<=H.low/\LO H0.ob H.ob)/\kb P H0 m nc l (fQ e d (.tup [])) H Q):=id rfl
theorem zL(P:Program)(H0:AH)(m:Nat)(nc:Bool)(k:Nat)(d:Option Nat)(g:Option (Nat×Bool))(a:AK)(l:List (Nat×AO))(e:Tr AV)(H:AH)(Q:Tr AV->AH->Prop):kb P H0 m nc ((k,⟨d,g,a⟩)::l) e H Q=gdL P H0 m nc k d a l e H Q (gM e g):=by
 show(match gM e g with
  |some t=>
   (t=true->if k=1 then iz H0 m nc e a/\m<=H.low/\gK P e H a (tq P H0 m nc l e d Q)
    else if k=2 then jq a=true/\gK P e H a (tq P H0 m nc l e d Q)
    else if k=4 then Cg H0 e a (A4 P H0 m nc l e d Q H)
    else gK P e H a (vO P H0 m (nc&& !ly a) k l e d Q))/\
   (t=false->(k=0->m<=H.low/\LO H0.ob H.ob)/\kb P H0 m nc l (fQ e d (.tup [])) H Q)
  |none=>False)=_
 cases gM e g with
 |none=>rfl
 |some t=>cases t<;>simp[gdL]
theorem LB(H0:AH)(e:Tr AV)(z:AV)(ok:Bool)(x k:AX)(Q:AV->Prop):Cg H0 e (.mo (.lk z ok x k)) Q=lkE H0 z ok Q (x.ev e) (k.ev e):=id rfl
theorem EM(H0:AH)(z:AV)(Q:AV->Prop)(r:Nat)(i:Int):lkE H0 z false Q (some (.cv (.map (some r)))) (some (.n .i64 i))=lkO z i Q (H0.ob r):=by simp[lkE]
theorem aay(z:AV)(i:Int)(Q:AV->Prop)(y:nG):lkO z i Q (some (.mp y))=lkV Q (y.look false z i):=id rfl
theorem anF(Q:AV->Prop)(q:IntKind)(j:Int):lkV Q (.n q j)=Q (.n q j):=id rfl
theorem GA.mxlm{P:Program}{n:Nat}{hints:gN}{e:Tr AV}{H:AH}{Q:AE->Tr AV->AH->Prop}(hm:P.follows .mixedOrders=true)(m:Nat){l:List (Nat×AO)}(htop:g8 H m (H.next-m))(h:kb P (H.setLow (2^40)) m true l e (H.setLow (2^40)) (λe' H'=>Q .normal e' (H'.setLow (min H.low H'.low)))):GA P n hints (.mxl l) e H Q:=GA.mxl hm m htop h
attribute [go_sem] Cy Cx zB CR Fp CK zL LB EM aay anF EV
end Go.Proofs.YtdpkgnmmikebdaaGreat