/- A part of the proof of CostLimits. No condition. -/
import Derived.Test.YtdpkgnmmikebdaaGreatGi21
set_option linter.unusedSimpArgs false
set_option linter.unusedVariables false
set_option linter.constructorNameAsVariable false
set_option maxRecDepth 100000
set_option maxHeartbeats 4000000
namespace Go.Proofs.YtdpkgnmmikebdaaGreat
open Go.RowKit
section
variable {P:Program} {n:Nat} {kk:Nat->Bool} {E:List PanicEntry->AH->Prop}
def atE(Q:AV->Tr AV->AH->Prop)(e:Tr AV)(v:AV)(H:AH):Prop:=Q v e H
theorem Mo(Q:AV->Tr AV->AH->Prop)(e:Tr AV)(v:AV)(H:AH):atE Q e v H=Q v e H:=id rfl
theorem anU(e:Tr AV)(H:AH)(x:AP)(Q:AV->Tr AV->AH->Prop):eK P n kk e H (.ap x) Q E=yu (x.run e H) (atE Q e):=id rfl
theorem anR(e:Tr AV)(H:AH)(neg:Bool)(x:AX)(Q:AV->Tr AV->AH->Prop):eK P n kk e H (.sn neg x) Q E=snA neg H (atE Q e) (x.ev e):=id rfl
theorem anS(e:Tr AV)(H:AH)(x:MO)(Q:AV->Tr AV->AH->Prop):eK P n kk e H (.mo x) Q E=gV e H (atE Q e) x:=id rfl
theorem anT(e:Tr AV)(H:AH)(f:AX)(args:List AX)(Q:AV->Tr AV->AH->Prop):eK P n kk e H (.cl f args) Q E=match f.ev e,yP e args with
  |some (.f g first cap),some vs=>jr P n kk g (first++vs++cap) e H Q E
  |_,_=>False:=id rfl
theorem abo(e:Tr AV)(H:AH)(x:AP)(Q:AV->AH->Prop):zK P e H (.ap x) Q=yu (x.run e H) Q:=id rfl
theorem abl(e:Tr AV)(H:AH)(neg:Bool)(x:AX)(Q:AV->AH->Prop):zK P e H (.sn neg x) Q=snA neg H Q (x.ev e):=id rfl
theorem abm(e:Tr AV)(H:AH)(x:MO)(Q:AV->AH->Prop):zK P e H (.mo x) Q=gV e H Q x:=id rfl
theorem abn(e:Tr AV)(H:AH)(f:AX)(args:List AX)(Q:AV->AH->Prop):zK P e H (.cl f args) Q=match f.ev e,yP e args with
  |some (.f g first cap),some vs=>u5 P g (first++vs++cap) H Q
  |_,_=>False:=id rfl
def E2(P:Program)(n:Nat)(kk:Nat->Bool)(E:List PanicEntry->AH->Prop)(l:List AO)(d:Option Nat)(Q:Tr AV->AH->Prop)(v:AV)(e:Tr AV)(H:AH):Prop:=qJ P n kk E l (fQ e d v) H Q
theorem Cu(l:List AO)(d:Option Nat)(Q:Tr AV->AH->Prop)(v:AV)(e:Tr AV)(H:AH):E2 P n kk E l d Q v e H=qJ P n kk E l (fQ e d v) H Q:=id rfl
theorem FS(e:Tr AV)(H:AH)(Q:Tr AV->AH->Prop):qJ P n kk E [] e H Q=Q e H:=id rfl
def gdE(P:Program)(n:Nat)(kk:Nat->Bool)(E:List PanicEntry->AH->Prop)(d:Option Nat)(k:AK)(l:List AO)(e:Tr AV)(H:AH)(Q:Tr AV->AH->Prop):Option Bool->Prop
 |some true=>eK P n kk e H k (E2 P n kk E l d Q) E
 |some false=>qJ P n kk E l (fQ e d (.tup [])) H Q
 |none=>False
theorem Fs(d:Option Nat)(k:AK)(l:List AO)(e:Tr AV)(H:AH)(Q:Tr AV->AH->Prop):gdE P n kk E d k l e H Q (some true)=eK P n kk e H k (E2 P n kk E l d Q) E:=id rfl
theorem CM(d:Option Nat)(k:AK)(l:List AO)(e:Tr AV)(H:AH)(Q:Tr AV->AH->Prop):gdE P n kk E d k l e H Q (some false)=qJ P n kk E l (fQ e d (.tup [])) H Q:=id rfl
theorem CX(d:Option Nat)(g:Option (Nat×Bool))(k:AK)(l:List AO)(e:Tr AV)(H:AH)(Q:Tr AV->AH->Prop):qJ P n kk E (⟨d,g,k⟩::l) e H Q=gdE P n kk E d k l e H Q (gM e g):=by
 simp only[qJ];cases gM e g with
 |none=>rfl
 |some t=>cases t<;>simp[gdE]<;>rfl
def pV(P:Program)(n:Nat)(kk:Nat->Bool)(E:List PanicEntry->AH->Prop)(l:List (Nat×AO))(d:Option Nat)(Q:Tr AV->AH->Prop)(v:AV)(e:Tr AV)(H:AH):Prop:=ll P n kk E l (fQ e d v) H Q
theorem zA(l:List (Nat×AO))(d:Option Nat)(Q:Tr AV->AH->Prop)(v:AV)(e:Tr AV)(H:AH):pV P n kk E l d Q v e H=ll P n kk E l (fQ e d v) H Q:=id rfl
theorem CW(e:Tr AV)(H:AH)(Q:Tr AV->AH->Prop):ll P n kk E [] e H Q=Q e H:=id rfl
def gdY(P:Program)(n:Nat)(kk:Nat->Bool)(E:List PanicEntry->AH->Prop)(k:Nat)(d:Option Nat)(a:AK)(l:List (Nat×AO))(e:Tr AV)(H:AH)(Q:Tr AV->AH->Prop):Option Bool->Prop
 |some true=>if k=2 then jq a=true/\gK P e H a (atE (pV P n kk E l d Q) e) else eK P n kk e H a (pV P n kk E l d Q) E
 |some false=>ll P n kk E l (fQ e d (.tup [])) H Q
 |none=>False
theorem Fj(k:Nat)(d:Option Nat)(a:AK)(l:List (Nat×AO))(e:Tr AV)(H:AH)(Q:Tr AV->AH->Prop):gdY P n kk E k d a l e H Q (some true)=if k=2 then jq a=true/\gK P e H a (atE (pV P n kk E l d Q) e) else eK P n kk e H a (pV P n kk E l d Q) E:=id rfl
theorem CF(k:Nat)(d:Option Nat)(a:AK)(l:List (Nat×AO))(e:Tr AV)(H:AH)(Q:Tr AV->AH->Prop):gdY P n kk E k d a l e H Q (some false)=ll P n kk E l (fQ e d (.tup [])) H Q:=id rfl
theorem zQ(k:Nat)(d:Option Nat)(g:Option (Nat×Bool))(a:AK)(l:List (Nat×AO))(e:Tr AV)(H:AH)(Q:Tr AV->AH->Prop):ll P n kk E ((k,⟨d,g,a⟩)::l) e H Q=((k=2\/k=3)/\gdY P n kk E k d a l e H Q (gM e g)):=by
 simp only[ll];cases gM e g with
 |none=>rfl
 |some t=>
  cases t
  ·simp only[gdY,apQ,false_implies,true_and,forall_const]
  ·simp only[gdY,forall_const,Bool.true_eq_false,false_implies,and_true];rfl
def xS(P:Program)(n:Nat)(kk:Nat->Bool)(E:List PanicEntry->AH->Prop)(H0:AH)(m:Nat)(nc:Bool)(l:List (Nat×AO))(e:Tr AV)(d:Option Nat)(Q:Tr AV->AH->Prop)(v:AV)(H:AH):Prop:=nV P n kk E H0 m nc l (fQ e d v) H Q
theorem Cz(H0:AH)(m:Nat)(nc:Bool)(l:List (Nat×AO))(e:Tr AV)(d:Option Nat)(Q:Tr AV->AH->Prop)(v:AV)(H:AH):xS P n kk E H0 m nc l e d Q v H=nV P n kk E H0 m nc l (fQ e d v) H Q:=id rfl
def E4(P:Program)(n:Nat)(kk:Nat->Bool)(E:List PanicEntry->AH->Prop)(H0:AH)(m:Nat)(nc:Bool)(l:List (Nat×AO))(e:Tr AV)(d:Option Nat)(Q:Tr AV->AH->Prop)(v:AV)(H:AH):Prop:=m<=H.low/\nV P n kk E H0 m nc l (fQ e d v) H Q
theorem Cw(H0:AH)(m:Nat)(nc:Bool)(l:List (Nat×AO))(e:Tr AV)(d:Option Nat)(Q:Tr AV->AH->Prop)(v:AV)(H:AH):E4 P n kk E H0 m nc l e d Q v H=(m<=H.low/\nV P n kk E H0 m nc l (fQ e d v) H Q):=id rfl
theorem FT(H0:AH)(m:Nat)(nc:Bool)(e:Tr AV)(H:AH)(Q:Tr AV->AH->Prop):nV P n kk E H0 m nc [] e H Q=Q e H:=id rfl
def gdX(P:Program)(n:Nat)(kk:Nat->Bool)(E:List PanicEntry->AH->Prop)(H0:AH)(m:Nat)(nc:Bool)(k:Nat)(d:Option Nat)(a:AK)(l:List (Nat×AO))(e:Tr AV)(H:AH)(Q:Tr AV->AH->Prop):Option Bool->Prop
 |some true=>if k=1 then iz H0 m nc e a/\gK P e H a (xS P n kk E H0 m nc l e d Q)
   else if k=2 then jq a=true/\gK P e H a (xS P n kk E H0 m nc l e d Q)
   else if k=3 then eK P n kk e H a (pV P n kk E l d Q) E
   else zK P e H a (E4 P n kk E H0 m (nc&& !ly a) l e d Q)
 |some false=>if k=3 then ll P n kk E l (fQ e d (.tup [])) H Q else(k=0->m<=H.low)/\nV P n kk E H0 m nc l (fQ e d (.tup [])) H Q
 |none=>False
theorem Fk(H0:AH)(m:Nat)(nc:Bool)(k:Nat)(d:Option Nat)(a:AK)(l:List (Nat×AO))(e:Tr AV)(H:AH)(Q:Tr AV->AH->Prop):gdX P n kk E H0 m nc k d a l e H Q (some true)=if k=1 then iz H0 m nc e a/\gK P e H a (xS P n kk E H0 m nc l e d Q)
   else if k=2 then jq a=true/\gK P e H a (xS P n kk E H0 m nc l e d Q)
   else if k=3 then eK P n kk e H a (pV P n kk E l d Q) E
   else zK P e H a (E4 P n kk E H0 m (nc&& !ly a) l e d Q):=id rfl
theorem CG(H0:AH)(m:Nat)(nc:Bool)(k:Nat)(d:Option Nat)(a:AK)(l:List (Nat×AO))(e:Tr AV)(H:AH)(Q:Tr AV->AH->Prop):gdX P n kk E H0 m nc k d a l e H Q (some false)=if k=3 then ll P n kk E l (fQ e d (.tup [])) H Q else(k=0->m<=H.low)/\nV P n kk E H0 m nc l (fQ e d (.tup [])) H Q:=id rfl
theorem CY(H0:AH)(m:Nat)(nc:Bool)(k:Nat)(d:Option Nat)(g:Option (Nat×Bool))(a:AK)(l:List (Nat×AO))(e:Tr AV)(H:AH)(Q:Tr AV->AH->Prop):nV P n kk E H0 m nc ((k,⟨d,g,a⟩)::l) e H Q=gdX P n kk E H0 m nc k d a l e H Q (gM e g):=by
 simp only[nV];cases gM e g with
 |none=>rfl
 |some t=>
  cases t
  ·simp only[gdX,apQ,false_implies,true_and,forall_const]
  ·simp only[gdX,forall_const,Bool.true_eq_false,false_implies,and_true];rfl
end
def goE:AC->Bool
 |.skip=>true
 |.exit _=>true
 |.ret=>true
 |.seq _ _=>true
 |.cond _ _ _=>true
 |.block _ _=>true
 |.reg _=>true
 |.mix _=>true
 |_=>false
attribute [reducible] goE
def r6(P:Program)(n:Nat)(kk:Nat->Bool)(hints:gN)(ac:AC)(e:Tr AV)(H:AH)(Q:AE->Tr AV->AH->Prop)(E:List PanicEntry->AH->Prop):Prop:=match ac with
 |.skip=>Q .normal e H
 |.exit i=>Q (.exit i) e H
 |.ret=>Q .ret e H
 |.seq x y=>GE P n kk hints x e H (mq (λe' H'=>GE P n kk hints y e' H' Q E) Q) E
 |.cond c x y=>ym P n kk hints c x y e H Q E
 |.block id x=>GE P n kk hints x e H (pZ id Q) E
 |.reg l=>qJ P n kk E l e H (λe' H'=>Q .normal e' H')
 |.mix l=>nV P n kk E (H.setLow (2^40)) H.next true l e (H.setLow (2^40)) (λe' H'=>Q .normal e' (H'.setLow (min H.low H'.low)))
 |_=>False
section
variable {P:Program} {n:Nat} {kk:Nat->Bool} {hints:gN} {e:Tr AV} {H:AH} {Q:AE->Tr AV->AH->Prop} {E:List PanicEntry->AH->Prop}
theorem GE.go{ac:AC}(hm:P.follows .mixedOrders=true)(hg:goE ac=true)(h:r6 P n kk hints ac e H Q E):GE P n kk hints ac e H Q E:=by
 cases ac with
 |skip=>exact GE.skip h
 |exit i=>exact GE.exit h
 |ret=>exact GE.ret h
 |seq x y=>exact GE.seq h
 |cond c x y=>exact GE.cond h
 |block id x=>exact GE.block h
 |reg l=>exact GE.reg h
 |mix l=>exact GE.mix hm H.next (by rw[apt];trivial) h
 |_=>cases hg
theorem r6.skip:r6 P n kk hints .skip e H Q E=Q .normal e H:=id rfl
theorem r6.exit(i:Nat):r6 P n kk hints (.exit i) e H Q E=Q (.exit i) e H:=id rfl
theorem r6.ret:r6 P n kk hints .ret e H Q E=Q .ret e H:=id rfl
theorem r6.seq(x y:AC):r6 P n kk hints (.seq x y) e H Q E=GE P n kk hints x e H (mq (λe' H'=>GE P n kk hints y e' H' Q E) Q) E:=id rfl
theorem r6.cond(c:AX)(x y:AC):r6 P n kk hints (.cond c x y) e H Q E=ym P n kk hints c x y e H Q E:=id rfl
theorem r6.block(id:Nat)(x:AC):r6 P n kk hints (.block id x) e H Q E=GE P n kk hints x e H (pZ id Q) E:=_root_.id rfl
theorem r6.reg(l:List AO):r6 P n kk hints (.reg l) e H Q E=qJ P n kk E l e H (λe' H'=>Q .normal e' H'):=id rfl
theorem r6.mix(l:List (Nat×AO)):r6 P n kk hints (.mix l) e H Q E=nV P n kk E (H.setLow (2^40)) H.next true l e (H.setLow (2^40)) (λe' H'=>Q .normal e' (H'.setLow (min H.low H'.low))):=id rfl
theorem GE.mixm(hm:P.follows .mixedOrders=true)(m:Nat){l:List (Nat×AO)}(htop:g8 H m (H.next-m))(h:nV P n kk E (H.setLow (2^40)) m true l e (H.setLow (2^40)) (λe' H'=>Q .normal e' (H'.setLow (min H.low H'.low)))):GE P n kk hints (.mix l) e H Q E:=GE.mix hm m htop h
end
attribute [go_sem] r6.skip r6.exit r6.ret r6.seq r6.cond r6.block r6.reg r6.mix ym vt Mo anU anR anS anT abo abl abm abn Cu FS Fs CM CX
 zA CW Fj CF zQ Cz Cw FT Fk CG CY
/-! ### a call in another view of the state-/
def rU(p:Nat->Bool)(x:AB):Prop:=∀i,i<x.size->(x.get i).nm p 3=true
def BN(p:Nat->Bool)(l:List AB):Prop:=∀x ∈ l,rU p x
theorem BN.nil{p:Nat->Bool}:BN p []:=λx hx=>by cases hx
theorem BN.cons{p:Nat->Bool}{x:AB}{l:List AB}(h:rU p x)(h':BN p l):BN p (x::l):=λy hy=>by
 rcases apv.1 hy with rfl|hy
 ·exact h
 ·exact h' y hy
theorem rU.row{p:Nat->Bool}{ty esz n z:Nat}{row:Nat->Nat->AV}(h0:0<esz)(h:∀i j,i<n->j<esz->(row i j).nm p 3=true):rU p (fg ty esz n z row):=λi hi=>by
 have hi':i<n*esz:=hi;have hq:i / esz<n:=Nat.div_lt_of_lt_mul (by rw[apT];exact hi')
 exact h _ _ hq (Nat.mod_lt _ h0)
theorem rU.lst{p:Nat->Bool}{esz ty:Nat}{l:List AV}(hl:l.length<1000000)(h:l.all (AV.nm p 3)=true):rU p (eZ esz ty l):=λi hi=>by
 have hi':i<l.length:=hi;rw[qy esz ty l i hl,apk hi'];exact apr.1 h _ (ap2 hi')
theorem nr:∀(l:List AB) (b:Nat) (x:AB),l.length<1000000->(fi l).at b=some x->x ∈ l
 |[],b,x,_,h=>by rw[oV] at h;cases h
 |y::l,b,x,hl,h=>by
  simp only[List.length_cons] at hl;rw[jB aa] at h;by_cases hb:b=l.length
  ·rw[if_pos hb] at h;split at h
   ·cases h;exact aps ..
   ·cases h
  ·rw[if_neg hb] at h;exact apx _ (nr l b x aa h)
theorem lF:∀(l2 l1:List AB) (b:Nat) (x:AB),(l2++l1).length<1000000->l1.length<=b->(fi (l2++l1)).at b=some x->x ∈ l2
 |[],l1,b,x,hl,hb,h=>by
  have h':(fi l1).at b=some x:=h;have hl':l1.length<1000000:=hl;have key:∀(l:List AB) (b:Nat),l.length<1000000->l.length<=b->(fi l).at b=none:=by
   intro l;induction l with
   |nil=>intro b _ _;exact oV b
   |cons x l ih=>
    intro b hl hb;simp only[List.length_cons] at hl hb;rw[jB aa,if_neg aa];exact ih b aa aa
  rw[key l1 b hl' hb] at h';cases h'
 |y::l2,l1,b,x,hl,hb,h=>by
  have hl':(l2++l1).length<1000000:=by simp only[List.cons_append,List.length_cons] at hl;omega
  rw[List.cons_append,jB hl'] at h;by_cases hb':b=(l2++l1).length
  ·rw[if_pos hb'] at h;split at h
   ·cases h;exact aps ..
   ·cases h
  ·rw[if_neg hb'] at h;exact apx _ (lF l2 l1 b x hl' hb h)
def Gk(r:Nat->Option Nat)(M:List Nat)(H:AH):List AV->List AV->Prop
 |[],[]=>True
 |v::l,v2::l2=>Wv r M H v v2/\Gk r M H l l2
 |_,_=>False
theorem Gk.get{r:Nat->Option Nat}{M:List Nat}{H:AH}:∀{l l':List AV},Gk r M H l l'->l.length=l'.length/\∀(i:Nat) (v':AV),l'[i]? =some v'->∃v,l[i]? =some v/\Wv r M H v v'
 |[],[],_=>⟨rfl,λi v h=>by simp at h⟩
 |v::l,v2::l2,h=>by
  obtain⟨h1,h2⟩:=h;obtain⟨q1,q2⟩:=Gk.get h2;refine⟨by simp[q1],λi v' hv=>?_⟩
  cases i with
  |zero=>cases hv;exact⟨v,rfl,h1⟩
  |succ i=>exact q2 i v' hv
theorem jN{P:Program}{n:Nat}{kk:Nat->Bool}{g:FuncId}{args:List AV}{e:Tr AV}{H:AH}{Q':AV->AH->Prop}{E':List PanicEntry->AH->Prop}{Q:AV->Tr AV->AH->Prop}{E:List PanicEntry->AH->Prop}{ob:Nat->Option OB}
  (kk':Nat->Bool) (ρ M:List Nat) (L:List (Nat×AV)) (args2:List AV) (bl2 bl1:List AB)
  (h:PC P kk' g args2 (ft ob bl1) Q' E')
  (he:iT (λb2=>ρ.reverse[b2]?) M H e L) (hh:ig (λb2=>ρ.reverse[b2]?) M H ρ (bl2++bl1)) (hv:Gk (λb2=>ρ.reverse[b2]?) M H args args2) (hob:∀r x,ob r=some x->H.ob r=some x)
  (hl:(bl2++bl1).length<1000000) (hlive:bl1.all (·.live)=true) (hkk':∀b,kk' b=true->b<bl1.length)
  (hsz:∀b x,kk' b=true->(ft ob bl1).at b=some x->0<x.size)
  (ha:args2.all (AV.nm (λb=>decide (b<bl1.length)) 3)=true) (hL:(L.all λp=>decide (p.1<1000000)&&p.2.nm (λb=>kk' b||decide (bl1.length<=b)) 3)=true)
  (h1:BN (λb=>decide (b<bl1.length)) bl1) (h2:BN (λb=>kk' b||decide (bl1.length<=b)) bl2)
  (hQ:∀v H',Q' v H'->∃(ob' ob3:Nat->Option OB) (bl1' bl3:List AB) (ρ2 M2:List Nat) (v2:AV) (L2:List (Nat×AV)),H'=ft ob' bl1'/\bl1'.length=bl1.length/\
   iT (λb2=>ρ2.reverse[b2]?) M2 (ft ob' (bl2++bl1')) (fu L) L2/\ig (λb2=>ρ2.reverse[b2]?) M2 (ft ob' (bl2++bl1')) ρ2 bl3/\Wv (λb2=>ρ2.reverse[b2]?) M2 (ft ob' (bl2++bl1')) v v2/\bl3.length<1000000/\(∀r x,ob3 r=some x->ob' r=some x)/\
   (∀b,kk b=true->∃b',ρ2.reverse[b]? =some b'/\ρ.reverse[b']? =some b/\(kk' b'=true\/bl1.length<=b'))/\Q v2 (fu L2) (ft ob3 bl3))
  (hE:∀c H',E' c H'->E c (fi [])):jr P n kk g args e H Q E:=by
 have hget:∀(L:List (Nat×AV)) (p:AV->Bool),(L.all λq=>decide (q.1<1000000)&&p q.2)=true->∀t v,(fu L).get t=some v->p v=true:=by
  intro L p;induction L with
  |nil=>intro _ t v h;rw[lB] at h;cases h
  |cons x L ih=>
   intro hL t v h;simp only[ap9,apq,decide_eq_true_eq] at hL;rw[kT hL.1.1] at h;by_cases e:t=x.1
   ·exact ard
   ·rw[if_neg e] at h;exact ih hL.2 t v h
 have hlen1:bl1.length<1000000:=by rw[ape] at hl;omega
 have hfr:jr P n (λb=>kk' b||decide (bl1.length<=b)) g args2 (fu L) (ft ob (bl2++bl1)) (λv e' H'=>∃ob' bl1',Q' v (ft ob' bl1')/\bl1'.length=bl1.length/\e'=fu L/\H'=ft ob' (bl2++bl1')) E:=
  oQ (e2:=fu L) h hl (λx hx=>apr.1 hlive x hx) hkk' hsz ha
  (λb x _ hx=>h1 x (nr bl1 b x hlen1 hx)) (λb x hb hx=>h2 x (lF bl2 bl1 b x hl hb hx)) ⟨λt v hv=>hv,hget L _ hL⟩
  (λv H' q=>by
   obtain⟨ob',ob3,bl1',bl3,ρ2,M2,v2,L2,rfl,q2,_⟩:=hQ v H' q;exact⟨ob',bl1',rfl,q2,ob',bl1',q,q2,rfl,rfl⟩) hE
 refine⟨hfr.1,λB σ a w args' hEn hH ha'=>?_⟩;obtain⟨σ2,q1,q2,q3,q4,q5,q6⟩:=Wk.mkE ρ M he hh hl hob hEn hH;have hA:lb (λ_=>false) B σ w σ2 w:=by
  refine⟨Below.refl _ _,q3,λb c o hs=>?_,λ_ _ _=> .inl rfl,λc _ hn=>q5 c hn,λb x hb hs=>by cases hb⟩
  rw[q4] at hs;obtain⟨b0,h1,h2⟩:=bM.1 hs;exact .inl ⟨b0,o,h2⟩
 have hargs:gn σ2 args2 args'.toList:=by
  obtain⟨v1,v2⟩:=hv.get;refine⟨v1.symm.trans ha'.1,λi v' hv'=>?_⟩;obtain⟨v,g1,g2⟩:=v2 i v' hv';exact q6 g2 (ha'.2 i v g1)
 refine(hfr.2 B σ2 a w args' q1 q2 hargs).mono λen w' hp=>?_;cases en with
 |returned u=>
  obtain⟨v,e',H',σ',⟨ob',bl1',r0,r00,rfl,rfl⟩,r1,r2,r3,r4⟩:=hp;obtain⟨ob'',ob3,bl1'',bl3,ρ2,M2,v2,L2,s0,s1,s2,s3,s4,s5,s6,s7,s8⟩:=hQ v _ r0;have hbl:ob''=ob'/\∀bl,ft ob' (bl++bl1'')=ft ob' (bl++bl1'):=by
   have e1:ob''=ob':=by
    have:=congrArg AH.ob s0;rw[ko,ko] at this;exact this.symm
   subst e1;refine⟨rfl,λbl=>?_⟩;have e2:fi bl1'=fi bl1'':=by
    have:=congrArg (λH:AH=>({H with ob:=λ_=>none}:AH)) s0;simp only[ft] at this;have k1:∀l:List AB,({fi l with ob:=λ_=>none}:AH)=fi l:=λl=>fv l;rw[k1,k1] at this;exact this
   have e3:∀bl:List AB,fi (bl++bl1'')=fi (bl++bl1'):=by
    intro bl;induction bl with
    |nil=>exact e2.symm
    |cons x bl ih=>show(fi (bl++bl1'')).new x=(fi (bl++bl1')).new x;rw[ih]
   unfold ft;rw[e3]
  obtain⟨rfl,hbl⟩:=hbl;rw[hbl] at s2 s3 s4;obtain⟨σ3,t1,t2,t3,t4,t5,t6⟩:=Wk.mkE ρ2 M2 s2 s3 s5 s6 r2 r3;have hA3:lb (λ_=>false) B σ' w' σ3 w':=by
   refine⟨Below.refl _ _,t3,λb c o hs=>?_,λ_ _ _=> .inl rfl,λc _ hn=>t5 c hn,λb x hb hs=>by cases hb⟩
   rw[t4] at hs;obtain⟨b0,h1,h2⟩:=bM.1 hs;exact .inl ⟨b0,o,h2⟩
  have hall:=(hA.trans r4.no).trans hA3;refine⟨v2,_,_,σ3,s8,t6 s4 r1,t1,t2,hall.bel,hall.fzb,hall.im,hall.same,hall.fz,λb x hb hs=>?_⟩;obtain⟨b',g1,g2,g3⟩:=s7 b hb;rw[t4,g1];show σ'.nm b'=some x;refine r4.kp b' x ?_ ?_
  ·rcases g3 with g3|g3
   ·simp[g3]
   ·simp[g3]
  ·rw[q4,g2];exact hs
 |panicked c=>
  obtain⟨H',σ',r0,r1,r2⟩:=hp;exact⟨H',σ',r0,r1,hA.trans r2⟩
 |outgrown=>exact hp.elim
def Vw(kk:Nat->Bool)(Q:AV->AH->Prop)(v:AV)(H:AH):Prop:=∃(ob:Nat->Option OB) (ρ M:List Nat) (v2:AV) (bl:List AB),ig (λb2=>ρ.reverse[b2]?) M H ρ bl/\Wv (λb2=>ρ.reverse[b2]?) M H v v2/\bl.length<1000000/\(∀r x,ob r=some x->H.ob r=some x)/\(∀b,kk b=true->ρ.reverse[b]? =some b)/\Q v2 (ft ob bl)
theorem PC.vw{P:Program}{kk:Nat->Bool}{g:FuncId}{args:List AV}{H:AH}{Q:AV->AH->Prop}{E:List PanicEntry->AH->Prop}(h:PC P kk g args H (Vw kk Q) E):PC P kk g args H Q E:=by
 refine⟨h.1,λB σ w args' hH ha=>(h.2 B σ w args' hH ha).mono λen w' hp=>?_⟩;cases en with
 |returned u=>
  obtain⟨v,H',σ',⟨ob,ρ,M,v2,bl,q1,q2,q3,q4,q5,q6⟩,r1,r2,r3⟩:=hp;have hEn:EN 0 σ' (fu []) ({tmps:= #[],defers:=[]}:Act):=⟨⟨λd hd=>(by cases hd),λt v hv=>(by rw[lB] at hv;cases hv)⟩,rfl,ag⟩
  obtain⟨σ3,t1,t2,t3,t4,t5,t6⟩:=Wk.mkE (L:=[]) ρ M trivial q1 q3 q4 hEn r2;refine⟨v2,_,σ3,q6,t6 q2 r1,t2,r3.trans ⟨Below.refl _ _,t3,λb c o hs=>?_,λ_ _ _=> .inl rfl,λc _ hn=>t5 c hn,λb x hb hs=>?_⟩⟩
  ·rw[t4] at hs;obtain⟨b0,h1,h2⟩:=bM.1 hs;exact .inl ⟨b0,o,h2⟩
  ·rw[t4,q5 b hb];exact hs
 |panicked c=>exact hp
 |outgrown=>exact hp.elim
theorem mR{kk:Nat->Bool}{Q:AV->AH->Prop}{v:AV}{H:AH}(ρ M:List Nat)(v2:AV)(bl:List AB)(h1:ig (λb2=>ρ.reverse[b2]?) M H ρ bl)(h2:Wv (λb2=>ρ.reverse[b2]?) M H v v2)(h3:bl.length<1000000)(h4:∀b,kk b=true->ρ.reverse[b]? =some b)(h5:Q v2 (fi bl)):Vw kk Q v H:=
 ⟨λ_=>none,ρ,M,v2,bl,h1,h2,h3,λr x hx=>(by cases hx),h4,by rw[fv];exact h5⟩
theorem PC.o{P:Program}{kk:Nat->Bool}{g:FuncId}{args:List AV}{bl:List AB}{Q:AV->AH->Prop}{E:List PanicEntry->AH->Prop}(h:PC P kk g args (fi bl) Q E):PC P kk g args (ft (λ_=>none) bl) Q E:=by rw[fv];exact h
/-! ### a call in the same view-/
def yQ(e:Tr AV):List (Nat×AV)->Prop
 |[]=>True
 |(t,v)::l=>(t<1000000/\e.get t=some v)/\yQ e l
theorem yQ.get{e:Tr AV}:∀{L:List (Nat×AV)},yQ e L->∀t v,(fu L).get t=some v->e.get t=some v
 |[],_,t,v,h=>by rw[lB] at h;cases h
 |(d,v)::L,⟨⟨hd,h1⟩,hL⟩,t,v2,h=>by
  rw[kT hd] at h;by_cases e1:t=d
  ·rw[if_pos e1] at h;cases h;exact e1 ▸ h1
  ·rw[if_neg e1] at h;exact hL.get t v2 h
theorem yQ.nm{L:List (Nat×AV)}{p:AV->Bool}(hL:(L.all λq=>decide (q.1<1000000)&&p q.2)=true):∀t v,(fu L).get t=some v->p v=true:=by
 induction L with
 |nil=>intro t v h;rw[lB] at h;cases h
 |cons x L ih=>
  intro t v h;simp only[ap9,apq,decide_eq_true_eq] at hL;rw[kT hL.1.1] at h;by_cases e:t=x.1
  ·exact ard
  ·rw[if_neg e] at h;exact ih hL.2 t v h
theorem qI{P:Program}{n:Nat}{kk:Nat->Bool}{g:FuncId}{args:List AV}{e:Tr AV}{H:AH}{Q':AV->AH->Prop}{E':List PanicEntry->AH->Prop}{Q:AV->Tr AV->AH->Prop}{E:List PanicEntry->AH->Prop}
  (kk':Nat->Bool) (L:List (Nat×AV)) (bl2 bl1:List AB) (h:PC P kk' g args (fi bl1) Q' E') (hH:H=fi (bl2++bl1)) (he:yQ e L)
  (hl:(bl2++bl1).length<1000000) (hlive:bl1.all (·.live)=true) (hkk':∀b,kk' b=true->b<bl1.length) (hkk:∀b,kk b=true->(kk' b||decide (bl1.length<=b))=true)
  (hsz:∀b x,kk' b=true->(fi bl1).at b=some x->0<x.size)
  (ha:args.all (AV.nm (λb=>decide (b<bl1.length)) 3)=true) (hL:(L.all λp=>decide (p.1<1000000)&&p.2.nm (λb=>kk' b||decide (bl1.length<=b)) 3)=true)
  (h1:BN (λb=>decide (b<bl1.length)) bl1) (h2:BN (λb=>kk' b||decide (bl1.length<=b)) bl2)
  (hQ:∀v H',Q' v H'->∃bl1':List AB,H'=fi bl1'/\bl1'.length=bl1.length/\Q v (fu L) (fi (bl2++bl1')))
  (hE:∀c H',E' c H'->E c (fi [])):jr P n kk g args e H Q E:=by
 subst hH;have hlen1:bl1.length<1000000:=by rw[ape] at hl;omega
 have hfr:jr P n (λb=>kk' b||decide (bl1.length<=b)) g args e (ft (λ_=>none) (bl2++bl1)) Q E:=
  oQ (e2:=fu L) (h.o) hl (λx hx=>apr.1 hlive x hx) hkk' (λb x hb hx=>hsz b x hb (by rw[fv] at hx;exact hx)) ha
  (λb x _ hx=>h1 x (nr bl1 b x hlen1 hx)) (λb x hb hx=>h2 x (lF bl2 bl1 b x hl hb hx)) ⟨he.get,yQ.nm hL⟩
  (λv H' q=>by
   obtain⟨bl1',rfl,q2,q3⟩:=hQ v H' q;exact⟨λ_=>none,bl1',(fv bl1').symm,q2,by rw[fv];exact q3⟩) hE
 rw[fv] at hfr;refine⟨hfr.1,λB σ a w args' hEn hH ha'=>(hfr.2 B σ a w args' hEn hH ha').mono λen w' hp=>?_⟩;cases en with
 |returned u=>
  obtain⟨v,e',H',σ',r0,r1,r2,r3,r4⟩:=hp;exact⟨v,e',H',σ',r0,r1,r2,r3,r4.sub hkk⟩
 |panicked c=>exact hp
 |outgrown=>exact hp.elim
theorem rU.lq{p:Nat->Bool}{esz ty:Nat}{l:List AV}(hl:l.length<1000000:=by simp)(h:l.all (AV.nm p 3)=true:=by rfl):rU p (eZ esz ty l):= .lst hl h
theorem GE.g{P:Program}{n:Nat}{kk:Nat->Bool}{hints:gN}{ac:AC}{e:Tr AV}{H:AH}{Q:AE->Tr AV->AH->Prop}{E:List PanicEntry->AH->Prop}(h:r6 P n kk hints ac e H Q E)(hm:P.follows .mixedOrders=true:=by exact fx)(hg:goE ac=true:=by rfl):GE P n kk hints ac e H Q E:=GE.go hm hg h
end Go.Proofs.YtdpkgnmmikebdaaGreat