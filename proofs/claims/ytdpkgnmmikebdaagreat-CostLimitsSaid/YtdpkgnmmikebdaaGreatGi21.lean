/- A part of the proof of CostLimits. No condition. -/
import Derived.Test.YtdpkgnmmikebdaaGreatGi17
set_option linter.unusedSimpArgs false
set_option linter.unusedVariables false
set_option linter.constructorNameAsVariable false
set_option maxRecDepth 100000
set_option maxHeartbeats 4000000
namespace Go.Proofs.YtdpkgnmmikebdaaGreat
open Go.RowKit
section
variable (P:Program) (e:Tr AV) (H:AH) (Q:AV->AH->Prop)
theorem fL(x:MO):gK P e H (.mo x) Q=gV e H Q x:=id rfl
theorem aan:gV e H Q .mm=mmP H Q:=id rfl
theorem aas(z:AV)(ok:Bool)(x k:AX):gV e H Q (.lk z ok x k)=yO H Q z ok (x.ev e) (k.ev e):=id rfl
theorem aal(m k v:AX):gV e H Q (.mu m k v)=Dj H Q (m.ev e) (k.ev e) (v.ev e):=id rfl
theorem aap(z:AV)(m k:AX):gV e H Q (.me z m k)=Dk H Q z (m.ev e) (k.ev e):=id rfl
theorem aat(m s v:AX):gV e H Q (.es m s v)=Dl H Q (m.ev e) (s.ev e) (v.ev e):=id rfl
theorem aai(x:AX):gV e H Q (.rg x)=BO H Q (x.ev e):=id rfl
theorem aaj(x:AX):gV e H Q (.nx x)=Di H Q (x.ev e):=id rfl
theorem aau(x:AX):gV e H Q (.en x)=Dm H Q (x.ev e):=id rfl
theorem aar(x:AX):gV e H Q (.ln x)=Cp H Q (x.ev e):=id rfl
theorem aam(neg:Bool)(x:AX):gV e H Q (.mn neg x)=AQ H Q neg (x.ev e):=id rfl
theorem aaw(esz:Nat)(x y:AX):gV e H Q (.cp esz x y)=cpP Q (C1 H esz ((x.ev e).bind vj) ((y.ev e).bind vj)):=id rfl
theorem FW(v:AV)(H':AH):cpP Q (some (v,H'))=Q v H':=id rfl
theorem aak(x y:AX):gV e H Q (.mx x y)=iK H Q (x.ev e) (y.ev e):=id rfl
theorem LL(z:AV)(ok:Bool)(i:Int):yO H Q z ok (some (.cv (.map none))) (some (.n .i64 i))=Q (uc ok z false) H:=id rfl
theorem EL(z:AV)(ok:Bool)(i:Int)(r:Nat):yO H Q z ok (some (.cv (.map (some r)))) (some (.n .i64 i))=AZ H Q z ok i (H.ob r):=id rfl
theorem aaz(z:AV)(ok:Bool)(i:Int)(m:nG):AZ H Q z ok i (some (.mp m))=Q (m.look ok z i) H:=id rfl
theorem Es(r:Nat)(i:Int)(v:AV):Dj H Q (some (.cv (.map (some r)))) (some (.n .i64 i)) (some v)=AN H Q r i v (H.ob r):=id rfl
theorem aah(r:Nat)(i:Int)(v:AV)(x:nG):AN H Q r i v (some (.mp x))=(x.own=true/\v.flat=true/\Q .u (H.clr.setOb r (.mp (x.put i v)))):=id rfl
theorem Ex(z:AV)(r:Nat)(i:Int):Dk H Q z (some (.cv (.map (some r)))) (some (.n .i64 i))=Ce H Q z r i (H.ob r):=id rfl
theorem FI(r:Nat)(s:Int)(v:AV):Dl H Q (some (.cv (.map (some r)))) (some (.n .i64 s)) (some v)=CT H Q r s v (H.ob r):=id rfl
theorem DX(r:Nat):BO H Q (some (.cv (.map (some r))))=BP H Q r (H.ob r):=id rfl
theorem Eh(t:Nat):Di H Q (some (.cv (.pointer (some ⟨t,0,none⟩))))=zp H Q t (H.ob t):=id rfl
theorem Lh:BO H Q (some (.cv (.map none)))=∀t,H.ob t=none->Q (.cv (.pointer (some ⟨t,0,none⟩))) (H.setOb t (.fix (.mapIter none 0 #[] 0))):=id rfl
theorem Lx(t a:Nat)(b:Array Nat)(c:Nat):zp H Q t (some (.fix (.mapIter none a b c)))=Q (.tup [.b false]) H:=id rfl
theorem aag(t:Nat)(y:Dn):zp H Q t (some (.it y))=B9 H Q t y (H.ob y.m):=id rfl
theorem FM(t:Nat):Dm H Q (some (.cv (.pointer (some ⟨t,0,none⟩))))=Bl H Q (H.ob t):=id rfl
theorem aaP(y:Dn):Bl H Q (some (.it y))=Bm H Q y.cur:=id rfl
theorem FN(k:Int)(v:AV):Bm H Q (some (k,v))=Q (.tup [.n .i64 k,v]) H:=id rfl
theorem LK:Cp H Q (some (.cv (.map none)))=Q (.n .i64 0) H:=id rfl
theorem EK(r:Nat):Cp H Q (some (.cv (.map (some r))))=AY H Q (H.ob r):=id rfl
theorem aax(m:nG):AY H Q (some (.mp m))=Q (.n .i64 m.cnt) H:=id rfl
theorem LA(neg:Bool):AQ H Q neg (some (.cv (.map none)))=Q (.b (!neg)) H:=id rfl
theorem Ev(neg:Bool)(r:Nat):AQ H Q neg (some (.cv (.map (some r))))=Q (.b neg) H:=id rfl
theorem fS(i j:Int):iK H Q (some (.n .u32 i)) (some (.n .u32 j))=Q (.n .u32 (if i<j then j else i)) H:=id rfl
theorem Ew(i j:Int):iW H Q (some (.n .i64 i)) (some (.n .i64 j))=Q (.n .i64 (if j<i then j else i)) H:=id rfl
theorem fT(i j:Int):iW H Q (some (.n .u32 i)) (some (.n .u32 j))=Q (.n .u32 (if j<i then j else i)) H:=id rfl
theorem aav(esz:Nat)(x hi mx:AX):gV e H Q (.cu esz x hi mx)=cuP H Q esz (x.ev e) (hi.ev e) (mx.ev e):=id rfl
theorem FV(esz:Nat)(v:AV)(k1 k2:IntKind)(i j:Int):cuP H Q esz (some v) (some (.n k1 i)) (some (.n k2 j))=cpP Q (cuD H esz i j v):=id rfl
theorem aao(x y:AX):gV e H Q (.mi x y)=iW H Q (x.ev e) (y.ev e):=id rfl
theorem Eo(i j:Int):iK H Q (some (.n .i64 i)) (some (.n .i64 j))=Q (.n .i64 (if i<j then j else i)) H:=id rfl
end
/-! the goals at which a step stops-/
theorem vL{H:AH}{Q:AV->AH->Prop}(h:∀r,H.ob r=none->Q (.cv (.map (some r))) (H.setOb r (.mp ⟨true,λ_=>none,0,none⟩))):mmP H Q:=h
/-! objects-/
theorem Gc(H:AH)(r:Nat)(x:OB)(b:Nat):(H.setOb r x).at b=H.at b:=id rfl
theorem zs(H:AH)(r:Nat)(x:OB):(H.setOb r x).next=H.next:=id rfl
theorem Cl(H:AH)(r:Nat)(x:OB):(H.setOb r x).low=H.low:=id rfl
theorem Ef(H:AH)(r:Nat)(x:OB):(H.setOb r x).ob=uC H.ob r x:=id rfl
theorem aa7(H:AH)(b:Nat):H.clr.at b=H.at b:=id rfl
theorem En(H:AH):H.clr.next=H.next:=id rfl
theorem LJ(H:AH):H.clr.low=H.low:=id rfl
theorem aaf(H:AH):H.clr.ob=Mh H.ob:=id rfl
theorem Gh(H:AH)(N:Nat->Option OB)(b:Nat):(H.addOb N).at b=H.at b:=id rfl
theorem zt(H:AH)(N:Nat->Option OB):(H.addOb N).next=H.next:=id rfl
theorem Cn(H:AH)(N:Nat->Option OB):(H.addOb N).low=H.low:=id rfl
theorem z8(H:AH):H.addOb (λ_=>none)=H:=by
 unfold AH.addOb;cases H with
 |mk a b c ob mp=>
  congr 1;funext r;show(match ob r with|some x=>some x|none=>none)=ob r
  cases ob r<;>rfl
def Gj(ob N:Nat->Option OB):Nat->Option OB:=λr=>match ob r with
 |some x=>some x
 |none=>N r
theorem Eg(H:AH)(N:Nat->Option OB):(H.addOb N).ob=Gj H.ob N:=id rfl
theorem t7{ob N:Nat->Option OB}{r:Nat}(h:ob r=none):Gj ob N r=N r:=by unfold Gj;rw[h]
theorem aad(H:AH)(b:Nat)(x:AB):(H.upd b x).ob=H.ob:=id rfl
theorem B8(H:AH)(l:Nat):(H.setLow l).ob=H.ob:=id rfl
theorem zk(ob:Nat->Option OB)(r:Nat)(x:OB):uC ob r x r=some x:=if_pos rfl
theorem Fy(l:List AV):(AV.agg l).flat=l.all AV.flat0:=id rfl
theorem L6(k:IntKind)(x:Int):(AV.n k x).flat0=true:=id rfl
theorem FA:AV.ow.flat0=true:=id rfl
theorem aaL(g:FuncId):(AV.f g [] []).flat=true:=id rfl
theorem aaq(z:AV)(ok:Bool)(x k:AX)(e:Tr AV)(H:AH)(Q:AV->AH->Prop):gV e H Q (.lz z ok x k)=yO H Q z ok (x.ev e) (k.ev e):=id rfl
theorem aaM(x:Bool):(AV.b x).flat=true:=id rfl
theorem aaK(k:IntKind)(x:Int):(AV.n k x).flat=true:=id rfl
theorem L5(v:Value):(AV.cv v).flat=true:=id rfl
theorem ZK(v:AV)(b:Bool):uc true v b= .tup [v,.b b]:=id rfl
theorem ZL(v:AV)(b:Bool):uc false v b=v:=id rfl
theorem Wk.mkS{n:Nat}{e:Tr AV}{H:AH}{L:List (Nat×AV)}{bl:List AB}(ρ M:List Nat)(he:iT (λb2=>ρ.reverse[b2]?) M H e L)(hh:ig (λb2=>ρ.reverse[b2]?) M H ρ bl)(hl:bl.length<1000000):Wk n e H (fu L) (ft H.ob bl):=
 Wk.mkO ρ M he hh hl (λ_ _ h=>h)
theorem sD{P:Program}[IdleOK P](hm:P.follows .mixedOrders=true){f:FuncId}{hints:gN}{F:AF}(hF:fB P hints f=some F){args:List AV}(hlen:args.length<=F.nt/\F.nt<100000){Pr:(Nat->Option OB)->Prop}{mQ:(Nat->Option OB)->List RT->(Nat->Option OB)->Prop}
  (h:∀M,Pr M->GA P F.nt hints F.code (fu (fy 0 args)) (ft (sa M) []) (pq F.res λv H=>∃(rs:List RT) (N:Nat->Option OB) (l:List AV),mQ M rs N/\v=gD l/\qP rs l H/\∀r x,N r=some x->H.ob r=some x/\D9 x=true)):Df P f args Pr mQ:=λM hp=>
 Fc hm hF hlen.1 (GA.wk (Wk.arg _ _ _ aa) (h M hp))
attribute [go_sem] aav FV fS Ew fT aao fL aan aas aal aap aat aai aaj aau aar aam aak aaw FW LL EL aaz Es aah Ex FI DX Lh Eh aag Lx FM aaP FN LK EK aax LA Ev Eo
 Gc zs Cl Ef aa7 En LJ aaf Gh zt Cn Eg aad B8 aae AH.kill_ob AH.mark_ob ti vR qN gG Cm ko aaM aaK L5 Fy L6 FA aaL aaq ap9 List.all_nil z8 ZK ZL zk
structure lb(kk:Nat->Bool)(B:Nat)(σ:Sg)(w:World)(σ':Sg)(w':World):Prop where
 bel:Below B w w'
 fzb:ov B σ σ'
 im:∀b c o,σ' b=some (c,o)->(∃b0 o0,σ b0=some (c,o0))\/w.heap.size<=c
 same:∀c,c<w.heap.size->(∀b o,σ b≠some (c,o))->w'.heap[c]? =w.heap[c]? \/jD w.heap[c]?
 fz:∀c,c<w.heap.size->(∀b o,σ b≠some (c,o))->σ'.fz c=σ.fz c
 kp:∀b x,kk b=true->σ b=some x->σ' b=some x
theorem lb.refl(kk:Nat->Bool)(B:Nat)(σ:Sg)(w:World):lb kk B σ w σ w:=⟨Below.refl _ _,.refl _ _,λb c o h=> .inl ⟨b,o,h⟩,λ_ _ _=> .inl rfl,λ_ _ _=>rfl,λ_ _ _ h=>h⟩
theorem lb.un{kk:Nat->Bool}{B:Nat}{σ σ1:Sg}{w w1:World}(h:lb kk B σ w σ1 w1){c:Nat}(hc:c<w.heap.size)(hn:∀b o,σ b≠some (c,o)):∀b o,σ1 b≠some (c,o):=λb o hs=>by
 rcases h.im b c o hs with⟨b0,o0,h0⟩|hh
 ·exact hn b0 o0 h0
 ·omega
theorem lb.trans{kk:Nat->Bool}{B:Nat}{σ σ1 σ2:Sg}{w w1 w2:World}(h:lb kk B σ w σ1 w1)(h':lb kk B σ1 w1 σ2 w2):lb kk B σ w σ2 w2:=by
 refine⟨h.bel.trans h'.bel,h.fzb.trans h'.fzb,λb c o hs=>?_,λc hc hn=>?_,λc hc hn=>?_,λb x hb hs=>h'.kp b x hb (h.kp b x hb hs)⟩
 ·rcases h'.im b c o hs with⟨b0,o0,h0⟩|hh
  ·exact h.im b0 c o0 h0
  ·exact .inr (apj h.bel.size hh)
 ·rcases h.same c hc hn with e|e
  ·rcases h'.same c (ap1 hc h.bel.size) (h.un hc hn) with e'|e'
   ·exact .inl (e'.trans e)
   ·exact .inr (e ▸ e')
  ·exact .inr e
 ·exact(h'.fz c (ap1 hc h.bel.size) (h.un hc hn)).trans (h.fz c hc hn)
theorem lb.no{kk:Nat->Bool}{B:Nat}{σ σ':Sg}{w w':World}(h:lb kk B σ w σ' w'):lb (λ_=>false) B σ w σ' w':=⟨h.bel,h.fzb,h.im,h.same,h.fz,λb x hb _=>by cases hb⟩
theorem lb.sub{kk kk2:Nat->Bool}{B:Nat}{σ σ':Sg}{w w':World}(h:lb kk B σ w σ' w')(hk:∀b,kk2 b=true->kk b=true):lb kk2 B σ w σ' w':=⟨h.bel,h.fzb,h.im,h.same,h.fz,λb x hb hs=>h.kp b x (hk b hb) hs⟩
theorem lb.of_fr{kk:Nat->Bool}{B:Nat}{σ σ':Sg}{H H':AH}{w w':World}(hF:Fr B σ σ' H H' w w')(hz:ov B σ σ')(hfz:∀c,c<w.heap.size->(∀b o,σ b≠some (c,o))->σ'.fz c=σ.fz c):lb kk B σ w σ' w':=by
 refine⟨hF.bel,hz,λb c o hs=>?_,λc hc hn=>?_,hfz,λb x _ hs=>hF.ext.nm b x hs⟩
 ·by_cases hc:c<w.heap.size
  ·by_cases hb:b<H.next
   ·exact .inl ⟨b,o,by rw[<-hF.dom b hb];exact hs⟩
   ·obtain⟨b0,o0,h1,h2,_⟩:=hF.new b c o aa hs hc;exact .inl ⟨b0,o0,h2⟩
  ·exact .inr aa
 ·rcases hF.old c hc with e|⟨b,o,_,h2,_⟩|hn2
  ·exact .inl e
  ·exact absurd h2 (hn b o)
  ·exact .inr hn2
theorem lb.drew{kk:Nat->Bool}{B:Nat}{σ σ':Sg}{w w':World}(h:lb kk B σ w.drew σ' w'):lb kk B σ w σ' w':=
 ⟨(Below.refl _ _).drew.trans h.bel,h.fzb,h.im,h.same,h.fz,h.kp⟩
def aob(n:Nat)(kk:Nat->Bool)(B:Nat)(σ:Sg)(a:Act)(w:World)(Q:AV->Tr AV->AH->Prop)(E:List PanicEntry->AH->Prop):Ending->World->Prop
 |.returned u,w'=>∃v e' H' σ',Q v e' H'/\VR σ' v u/\EN n σ' e' a/\HR B σ' H' w'/\lb kk B σ w σ' w'
 |.panicked c,w'=>∃H' σ',E c H'/\HR B σ' H' w'/\lb (λ_=>false) B σ w σ' w'
 |.outgrown,_=>False
def jr(P:Program)(n:Nat)(kk:Nat->Bool)(g:FuncId)(args:List AV)(e:Tr AV)(H:AH)(Q:AV->Tr AV->AH->Prop)(E:List PanicEntry->AH->Prop):Prop:=
 ui P g/\∀(B:Nat) (σ:Sg) (a:Act) (w:World) (args':Array Value),EN n σ e a->HR B σ H w->gn σ args args'.toList->Calls P g args' w (aob n kk B σ a w Q E)
def eK(P:Program)(n:Nat)(kk:Nat->Bool)(e:Tr AV)(H:AH)(k:AK)(Q:AV->Tr AV->AH->Prop)(E:List PanicEntry->AH->Prop):Prop:=match k with
 |.cl f args=>match f.ev e,yP e args with
  |some (.f g first cap),some vs=>jr P n kk g (first++vs++cap) e H Q E
  |_,_=>False
 |k=>gK P e H k (λv H'=>Q v e H')
section
variable {P:Program} {B n:Nat} {kk:Nat->Bool} {σ:Sg} {e:Tr AV} {a:Act} {H:AH} {w:World} {o:Oper} {ops:Array Oper} {R:Exit->Act->World->Prop}
theorem FP{k:AK}(hc:pr P o.op=some k)(hE:EN n σ e a)(h:HR B σ H w){Q:AV->Tr AV->AH->Prop}{E:List PanicEntry->AH->Prop}(hr:eK P n kk e H k Q E){next:Act->World->Prop}
  (hn:∀v e' H' u w' σ',Q v e' H'->VR σ' v u->EN n σ' e' a->HR B σ' H' w'->lb kk B σ w σ' w'->next (a.put o.dst u) w')
  (hp:∀c H' w' σ',E c H'->HR B σ' H' w'->lb (λ_=>false) B σ w σ' w'->R (.panic c) a w'):o.wp P a w next R:=by
 by_cases hcl:ly k=true
 ·cases k with
  |cl f args=>
   simp only[eK] at hr;split at hr;rotate_left
   ·exact hr.elim
   rename_i g first cap vs hfe hvs
   obtain⟨⟨fn,k1,k2,k3⟩,hcall⟩:=hr;have nap:∀o:Op,(rB P o).map AK.ap=some (.cl f args)->False:=λo ho=>by
    obtain⟨_,_,h2⟩:=apc.1 ho;cases h2
   unfold pr at hc;split at hc
   ·cases hc
   unfold t0 at hc;split at hc
   ·split at hc
    ·obtain⟨_,_,h2⟩:=apc.1 hc;cases h2
    ·exact ara
   ·rename_i c ho;split at hc
    ·rename_i f0 hf;obtain⟨f',hf',hc⟩:=bM.1 hc;obtain⟨l',hl3,h2⟩:=apc.1 hc;cases h2;obtain⟨c1,c2,hev,g1,g2⟩:=FF hf' hE.er hfe;have hargs:gn σ (first++vs++cap) (c1++c.args.map a.eval++c2).toList:=by
      have:=(g1.app (nf hl3 hE.er hvs)).app g2;simpa using this
     have hcl:=hcall B σ a w _ hE h hargs;unfold Oper.wp execOp;rw[ho];simp only[Sem.run_bind,resolve,hf,hev,Deferred.ofValue,Sem.run_pure,Result.andThen_ok,invoke,mU k1 k2 k3,Oper.upon];refine Calls.mono hcl (λen w' hp'=>?_);cases en with
     |returned u=>
      obtain⟨v,e',H',σ',q0,q1,q2,q3,q4⟩:=hp';exact hn v e' H' u w' σ' q0 q1 q2 q3 q4
     |panicked c=>
      obtain⟨H',σ',q0,q1,q2⟩:=hp';exact hp c H' w' σ' q0 q1 q2
     |outgrown=>exact hp'.elim
    ·exact ara
   ·exact ara
  |ap _=>cases hcl
  |sn _ _=>cases hcl
  |mo _=>cases hcl
 ·have hr':gK P e H k (λv H'=>Q v e H'):=by
   cases k with
   |cl f args=>exact absurd rfl hcl
   |ap _=>exact hr
   |sn _ _=>exact hr
   |mo _=>exact hr
  have hcl':ly k=false:=by simpa using hcl
  refine qF hc hE.er h hr' λv H' u w' σ' q0 q1 q2 q3 q4 q5=>?_;exact hn v e H' u w' σ' q0 q1 (hE.mono q3.ext) q2 (.of_fr q3 q4 (λc _ _=>by rw[q5 hcl']))
end
/-! ### operations in order-/
def qJ(P:Program)(n:Nat)(kk:Nat->Bool)(E:List PanicEntry->AH->Prop):List AO->Tr AV->AH->(Tr AV->AH->Prop)->Prop
 |[],e,H,Q=>Q e H
 |o::l,e,H,Q=>match gM e o.gd with
  |some t=>(t=true->eK P n kk e H o.k (λv e' H'=>qJ P n kk E l (fQ e' o.dst v) H' Q) E)/\(t=false->qJ P n kk E l (fQ e o.dst (.tup [])) H Q)
  |none=>False
section
variable {P:Program} {B n:Nat} {kk:Nat->Bool} {ops:Array Oper} {R:Exit->Act->World->Prop} {E:List PanicEntry->AH->Prop}
theorem jv(a:Act)(d:Option Nat)(u:Value):(a.put d u).defers=a.defers:=by cases d<;>rfl
theorem v5(hst:∀c (a:Act) d v w,R (.panic c) (a.put d v) w->R (.panic c) a w):∀(l:List Oper) (l':List AO) {σ:Sg} {e:Tr AV} {H:AH} {a:Act} {w:World} {Q':Tr AV->AH->Prop},mD P n ops l=some l'->qJ P n kk E l' e H Q'->EN n σ e a->a.defers=[]->HR B σ H w->
  ∀{σb:Sg} {wb:World},lb kk B σb wb σ w->
  (∀e' H' a' w' σ',Q' e' H'->EN n σ' e' a'->a'.defers=[]->HR B σ' H' w'->lb kk B σb wb σ' w'->R .normal a' w')->
  (∀c H' a' w' σ',E c H'->a'.defers=[]->HR B σ' H' w'->lb (λ_=>false) B σb wb σ' w'->R (.panic c) a' w')->wpList P ops R l a w
 |[],l',σ,e,H,a,w,Q',hl,hr,hE,hdf,h,σb,wb,hz,hQ,hP=>by
  simp only[mD,apn] at hl;subst hl;exact hQ e H a w σ hr hE hdf h hz
 |o::l,l',σ,e,H,a,w,Q',hl,hr,hE,hdf,h,σb,wb,hz,hQ,hP=>by
  simp only[mD] at hl;obtain⟨x,hx,hl⟩:=bM.1 hl;obtain⟨r,hl2,rfl⟩:=apc.1 hl;unfold qa at hx;split at hx;rotate_left
  ·cases hx
  rename_i hd;obtain⟨g,hg,hx⟩:=bM.1 hx;obtain⟨k,hk,rfl⟩:=apc.1 hx;simp only[qJ] at hr;unfold wpList;split at hr;rotate_left
  ·exact hr.elim
  rename_i t hw;cases t;rotate_left
  ·replace hr:=hr.1 rfl
   rw[iV hE.er hg hw,if_pos rfl];refine .inl (FP hk hE h hr (λv e' H1 u w1 σ1 q0 q1 q2 q3 q4=>?_) (λc H1 w1 σ1 q0 q1 q2=>hP c H1 a w1 σ1 q0 hdf q1 (hz.no.trans q2)));exact v5 hst l r hl2 q0 (q2.put q1 hd) ((jv _ _ _).trans hdf) q3 (hz.trans q4) hQ hP
  ·replace hr:=hr.2 rfl
   rw[iV hE.er hg hw,if_neg ae];exact v5 hst l r hl2 hr (hE.put (u:=undef) (.tup rfl (λi v h=>by simp at h)) hd) ((jv _ _ _).trans hdf) h hz hQ hP
end
def an5(B:Nat)(σ:Sg)(H:AH)(w:World)(Q:AV->AH->Prop):Ending->World->Prop
 |.returned u,w'=>∃v H' σ',Q v H'/\VR σ' v u/\HR B σ' H' w'/\Fr B σ σ' H H' w w'/\ov B σ σ'/\(∀c,c<w.heap.size->(∀b o,σ b≠some (c,o))->σ'.fz c=σ.fz c)
 |_,_=>False
def u5(P:Program)(g:FuncId)(args:List AV)(H:AH)(Q:AV->AH->Prop):Prop:=
 ui P g/\∀(B:Nat) (σ:Sg) (w:World) (args':Array Value),HR B σ H w->gn σ args args'.toList->Calls P g args' w (an5 B σ H w Q)
def zK(P:Program)(e:Tr AV)(H:AH)(k:AK)(Q:AV->AH->Prop):Prop:=match k with
 |.cl f args=>match f.ev e,yP e args with
  |some (.f g first cap),some vs=>u5 P g (first++vs++cap) H Q
  |_,_=>False
 |k=>gK P e H k Q
section
variable {P:Program} {B n:Nat} {σ:Sg} {e:Tr AV} {a:Act} {H:AH} {w:World} {o:Oper} {R:Exit->Act->World->Prop}
theorem Mz{k:AK}(hc:pr P o.op=some k)(hE:ER σ e a)(h:HR B σ H w){Q:AV->AH->Prop}(hr:zK P e H k Q){next:Act->World->Prop}
  (hn:∀v H' u w' σ',Q v H'->VR σ' v u->HR B σ' H' w'->Fr B σ σ' H H' w w'->ov B σ σ'->(∀c,c<w.heap.size->(∀b o,σ b≠some (c,o))->σ'.fz c=σ.fz c)->(ly k=false->σ'.fz=σ.fz)->next (a.put o.dst u) w'):o.wp P a w next R:=by
 by_cases hcl:ly k=true
 ·cases k with
  |cl f args=>
   simp only[zK] at hr;split at hr;rotate_left
   ·exact hr.elim
   rename_i g first cap vs hfe hvs
   obtain⟨⟨fn,k1,k2,k3⟩,hcall⟩:=hr;have nap:∀o:Op,(rB P o).map AK.ap=some (.cl f args)->False:=λo ho=>by
    obtain⟨_,_,h2⟩:=apc.1 ho;cases h2
   unfold pr at hc;split at hc
   ·cases hc
   unfold t0 at hc;split at hc
   ·split at hc
    ·obtain⟨_,_,h2⟩:=apc.1 hc;cases h2
    ·exact ara
   ·rename_i c ho;split at hc
    ·rename_i f0 hf;obtain⟨f',hf',hc⟩:=bM.1 hc;obtain⟨l',hl3,h2⟩:=apc.1 hc;cases h2;obtain⟨c1,c2,hev,g1,g2⟩:=FF hf' hE hfe;have hargs:gn σ (first++vs++cap) (c1++c.args.map a.eval++c2).toList:=by
      have:=(g1.app (nf hl3 hE hvs)).app g2;simpa using this
     have hcl:=hcall B σ w _ h hargs;unfold Oper.wp execOp;rw[ho];simp only[Sem.run_bind,resolve,hf,hev,Deferred.ofValue,Sem.run_pure,Result.andThen_ok,invoke,mU k1 k2 k3,Oper.upon];refine Calls.mono hcl (λen w' hp'=>?_);cases en with
     |returned u=>
      obtain⟨v,H',σ',q0,q1,q2,q3,q4,q5⟩:=hp';exact hn v H' u w' σ' q0 q1 q2 q3 q4 q5 (λhh=>by cases hh)
     |panicked c=>exact hp'.elim
     |outgrown=>exact hp'.elim
    ·exact ara
   ·exact ara
  |ap _=>cases hcl
  |sn _ _=>cases hcl
  |mo _=>cases hcl
 ·have hr':gK P e H k Q:=by
   cases k with
   |cl f args=>exact absurd rfl hcl
   |ap _=>exact hr
   |sn _ _=>exact hr
   |mo _=>exact hr
  have hcl':ly k=false:=by simpa using hcl
  exact qF hc hE h hr' λv H' u w' σ' q0 q1 q2 q3 q4 q5=>hn v H' u w' σ' q0 q1 q2 q3 q4 (λc _ _=>by rw[q5 hcl']) q5
end
def ll(P:Program)(n:Nat)(kk:Nat->Bool)(E:List PanicEntry->AH->Prop):List (Nat×AO)->Tr AV->AH->(Tr AV->AH->Prop)->Prop
 |[],e,H,Q=>Q e H
 |(k,o)::l,e,H,Q=>(k=2\/k=3)/\match gM e o.gd with
  |some t=>(t=true->if k=2 then jq o.k=true/\gK P e H o.k (λv H'=>ll P n kk E l (fQ e o.dst v) H' Q) else eK P n kk e H o.k (λv e' H'=>ll P n kk E l (fQ e' o.dst v) H' Q) E)/\(t=false->ll P n kk E l (fQ e o.dst (.tup [])) H Q)
  |none=>False
def nV(P:Program)(n:Nat)(kk:Nat->Bool)(E:List PanicEntry->AH->Prop)(H0:AH)(m:Nat):Bool->List (Nat×AO)->Tr AV->AH->(Tr AV->AH->Prop)->Prop
 |_,[],e,H,Q=>Q e H
 |nc,(k,o)::l,e,H,Q=>match gM e o.gd with
  |some t=>
   (t=true->if k=1 then iz H0 m nc e o.k/\gK P e H o.k (λv H'=>nV P n kk E H0 m nc l (fQ e o.dst v) H' Q)
    else if k=2 then jq o.k=true/\gK P e H o.k (λv H'=>nV P n kk E H0 m nc l (fQ e o.dst v) H' Q)
    else if k=3 then eK P n kk e H o.k (λv e' H'=>ll P n kk E l (fQ e' o.dst v) H' Q) E
    else zK P e H o.k (λv H'=>m<=H'.low/\nV P n kk E H0 m (nc&& !ly o.k) l (fQ e o.dst v) H' Q))/\
   (t=false->if k=3 then ll P n kk E l (fQ e o.dst (.tup [])) H Q else(k=0->m<=H.low)/\nV P n kk E H0 m nc l (fQ e o.dst (.tup [])) H Q)
  |none=>False
section
variable {P:Program} {B n m:Nat} {kk:Nat->Bool} {ops:Array Oper} {fl:List Nat} {R:Exit->Act->World->Prop} {E:List PanicEntry->AH->Prop} {S:World->Prop} {σb:Sg} {wb:World}
theorem oO(hst:∀c (a:Act) d v w,R (.panic c) (a.put d v) w->R (.panic c) a w)(hP:∀c H' a' w' σ',E c H'->a'.defers=[]->HR B σ' H' w'->lb (λ_=>false) B σb wb σ' w'->R (.panic c) a' w'):∀(pl:List (Nat×Nat)) (l':List (Nat×AO)) {σ:Sg} {e:Tr AV} {H:AH} {a:Act} {w:World} {Q':Tr AV->AH->Prop},kO P n ops fl pl=some l'->ll P n kk E l' e H Q'->EN n σ e a->a.defers=[]->HR B σ H w->
  lb kk B σb wb σ w->
  (∀e' H' a' w' σ',Q' e' H'->EN n σ' e' a'->a'.defers=[]->HR B σ' H' w'->lb kk B σb wb σ' w'->R .normal a' w')->fD P .any ops R S fl (fC ops (pl.map iZ)) a w
 |[],l',σ,e,H,a,w,Q',hl,hr,hE,hdf,h,hz,hQ=>by
  simp only[kO,apn] at hl;subst hl;show fD P .any ops R S fl [] a w;exact lH (hQ e H a w σ hr hE hdf h hz)
 |(k,j)::pl,l',σ,e,H,a,w,Q',hl,hr,hE,hdf,h,hz,hQ=>by
  simp only[kO] at hl;split at hl;rotate_left
  ·cases hl
  rename_i o ho;obtain⟨x,hx,hl⟩:=bM.1 hl;split at hl;rotate_left
  ·cases hl
  rename_i hk3;obtain⟨hk3,hsee⟩:=hk3;obtain⟨r,hl2,rfl⟩:=apc.1 hl;unfold qa at hx;split at hx;rotate_left
  ·cases hx
  rename_i hd;obtain⟨g,hg,hx⟩:=bM.1 hx;obtain⟨ak,hk,rfl⟩:=apc.1 hx;have hgp:fC ops (((k,j)::pl).map iZ)=((iZ (k,j)).1,j,o)::fC ops (pl.map iZ):=by
   have:iZ (k,j)=((iZ (k,j)).1,j):=by unfold iZ;split<;>first|rfl|(rename_i heq;cases heq;rfl)
   rw[List.map_cons,this];simp[fC,ho]
  rw[hgp];simp only[ll] at hr;obtain⟨hk23,hr⟩:=hr;split at hr;rotate_left
  ·exact hr.elim
  rename_i t hw;have hwant:=iV hE.er hg hw;cases t;rotate_left
  ·replace hr:=hr.1 rfl
   split at hr
   ·rename_i hk2;subst hk2;obtain⟨hpure,hr⟩:=hr;cases ak with
    |cl f args=>cases hpure
    |sn neg x=>cases hpure
    |mo x=>cases hpure
    |ap xx=>
     have hkind:xx.kind=2:=by simpa [jq] using hpure
     simp only[gK] at hr;split at hr;rotate_left
     ·exact hr.elim
     rename_i v H1 hrun;obtain⟨q1,u,q2,q3⟩:=tY (qO hk) hkind hE.er h hrun;subst q1;show fD P .any ops R S fl ((2,j,o)::fC ops (pl.map iZ)) a w;unfold fD;rw[if_pos hwant];exact⟨u,q3,oO hst hP pl r hl2 hr (hE.put q2 hd) ((jv _ _ _).trans hdf) h hz hQ⟩
   ·rename_i hk2;obtain rfl:k=3:=aa;obtain⟨s1,s2⟩:=hsee rfl;show fD P .any ops R S fl ((0,j,o)::fC ops (pl.map iZ)) a w;refine jZ s1 (jb hwant ?_);refine FP hk hE h hr (λv e' H1 u w1 σ1 q0 q1 q2 q3 q4=>?_) (λc H1 w1 σ1 q0 q1 q2=>hP c H1 a w1 σ1 q0 hdf q1 (hz.no.trans q2));exact oO hst hP pl r hl2 q0 (q2.put q1 hd) ((jv _ _ _).trans hdf) q3 (hz.trans q4) hQ
  ·replace hr:=hr.2 rfl
   have hput:=hE.put (u:=undef) (v:= .tup []) (.tup rfl (λi v h=>by simp at h)) hd
   have next:=oO hst hP pl r hl2 hr hput ((jv _ _ _).trans hdf) h hz hQ
   rcases hk23 with rfl|rfl
   ·show fD P .any ops R S fl ((2,j,o)::fC ops (pl.map iZ)) a w;unfold fD;rw[hwant,if_neg ae];exact next
   ·obtain⟨s1,s2⟩:=hsee rfl;show fD P .any ops R S fl ((0,j,o)::fC ops (pl.map iZ)) a w;refine jZ s1 ?_;unfold wpList;rw[hwant,if_neg ae];exact next
theorem qH{σ0:Sg}{H0:AH}{w0:World}(h0:HR B σ0 H0 w0)(htop:g8 H0 m (H0.next-m))(hst:∀c (a:Act) d v w,R (.panic c) (a.put d v) w->R (.panic c) a w)(hP:∀c H' a' w' σ',E c H'->a'.defers=[]->HR B σ' H' w'->lb (λ_=>false) B σ0 w0 σ' w'->R (.panic c) a' w'):∀(pl:List (Nat×Nat)) (l':List (Nat×AO)) {nc:Bool} {σ:Sg} {e:Tr AV} {H:AH} {a:Act} {w:World} {Q':Tr AV->AH->Prop},kO P n ops fl pl=some l'->nV P n kk E H0 m nc l' e H Q'->EN n σ e a->a.defers=[]->HR B σ H w->
  Fr B σ0 σ H0 H w0 w->(gP m σ0 H0 w0 w\/pl.all (·.1 != 1)=true)->(nc=true->σ.fz=σ0.fz)->ov B σ0 σ->(∀c,c<w0.heap.size->(∀b o,σ0 b≠some (c,o))->σ.fz c=σ0.fz c)->
  (∀e' H' a' w' σ',Q' e' H'->EN n σ' e' a'->a'.defers=[]->HR B σ' H' w'->lb kk B σ0 w0 σ' w'->R .normal a' w')->fD P .any ops R (gP m σ0 H0 w0) fl (fC ops (pl.map iZ)) a w
 |[],l',nc,σ,e,H,a,w,Q',hl,hr,hE,hdf,h,hF,hG,hz,hzb,hfz,hQ=>by
  simp only[kO,apn] at hl;subst hl;show fD P .any ops R (gP m σ0 H0 w0) fl [] a w;exact lH (hQ e H a w σ hr hE hdf h (.of_fr hF hzb hfz))
 |(k,j)::pl,l',nc,σ,e,H,a,w,Q',hl,hr,hE,hdf,h,hF,hG,hz,hzb,hfz,hQ=>by
  simp only[kO] at hl;split at hl;rotate_left
  ·cases hl
  rename_i o ho;obtain⟨x,hx,hl⟩:=bM.1 hl;split at hl;rotate_left
  ·cases hl
  rename_i hk3;obtain⟨hk3,hsee⟩:=hk3;obtain⟨r,hl2,rfl⟩:=apc.1 hl;unfold qa at hx;split at hx;rotate_left
  ·cases hx
  rename_i hd;obtain⟨g,hg,hx⟩:=bM.1 hx;obtain⟨ak,hk,rfl⟩:=apc.1 hx;have hgp:fC ops (((k,j)::pl).map iZ)=((iZ (k,j)).1,j,o)::fC ops (pl.map iZ):=by
   have:iZ (k,j)=((iZ (k,j)).1,j):=by unfold iZ;split<;>first|rfl|(rename_i heq;cases heq;rfl)
   rw[List.map_cons,this];simp[fC,ho]
  rw[hgp];have hG':gP m σ0 H0 w0 w\/pl.all (·.1 != 1)=true:=hG.imp id (λq=>by simp only[ap9,apq] at q;exact q.2)
  simp only[nV] at hr;split at hr;rotate_left
  ·exact hr.elim
  rename_i t hw;have hwant:=iV hE.er hg hw;cases t;rotate_left
  ·replace hr:=hr.1 rfl
   split at hr
   ·
    rename_i hk1;subst hk1;obtain⟨hearly,hr⟩:=hr;cases ak with
    |cl f args=>exact hearly.elim
    |sn neg x=>exact hearly.elim
    |mo x=>exact hearly.elim
    |ap ap0=>
     cases ap0<;>try exact hearly.elim
     rename_i nn row xx;simp only[gK] at hr;split at hr;rotate_left
     ·exact hr.elim
     rename_i v H1 hrun;obtain⟨q1,_,_,_,c,u,q2,q34,q5,q6⟩:=wa (qO hk) rfl hE.er h hrun;subst q1;cases q2;have hgw:gP m σ0 H0 w0 w:=by
      rcases hG with q|q
      ·exact q
      ·simp at q
     have htop':=g8.get _ _ htop;have hclt:(∃(cs:Array Value) (t:TypeId) (fr:Nat×Nat),w0.heap[c]? =some (Obj.cells cs t fr))/\∀b o,m<=b->b<H0.next->σ0 b≠some (c,o):=by
      rcases q34 with⟨b,off,oc,q3,q4⟩|⟨_,_,_,fs,q3,q4,q40⟩
      ·exact dR
      ·simp only[iz,q3] at hearly;rw[hz hearly] at q4;refine⟨by obtain⟨cs',t',fr',m1,_⟩:=h0.frz c fs q4;exact⟨_,_,_,m1⟩,λb' o' h1 h2 h3=>?_⟩
       obtain⟨x',hx',hx0⟩:=htop' b' h1 aa;obtain⟨cs',t',fr',_,_,m3⟩:=h0.frz c fs q4;have:=m3 b' x' o' hx' h3;omega
     have hcell:∀{w':World},gP m σ0 H0 w0 w'->∀i,w'.cell? ⟨c,i,none⟩=w0.cell? ⟨c,i,none⟩:=λhw' i=>by
      have:=hw' c hclt.1 hclt.2;simp only[World.cell?,this]
     show fD P .any ops R (gP m σ0 H0 w0) fl ((1,j,o)::fC ops (pl.map iZ)) a w;unfold fD;rw[if_pos hwant];refine⟨u,λw' hw'=>q6 w' (λi=>(hcell hw' i).trans (hcell hgw i).symm),?_⟩;exact qH h0 htop hst hP pl r hl2 hr (hE.put q5 hd) ((jv _ _ _).trans hdf) h hF hG' hz hzb hfz hQ
   ·split at hr
    ·
     rename_i hk1 hk2;subst hk2;obtain⟨hpure,hr⟩:=hr;cases ak with
     |cl f args=>cases hpure
     |sn neg x=>cases hpure
     |mo x=>cases hpure
     |ap xx=>
      have hkind:xx.kind=2:=by simpa [jq] using hpure
      simp only[gK] at hr;split at hr;rotate_left
      ·exact hr.elim
      rename_i v H1 hrun;obtain⟨q1,u,q2,q3⟩:=tY (qO hk) hkind hE.er h hrun;subst q1;show fD P .any ops R (gP m σ0 H0 w0) fl ((2,j,o)::fC ops (pl.map iZ)) a w;unfold fD;rw[if_pos hwant];exact⟨u,q3,qH h0 htop hst hP pl r hl2 hr (hE.put q2 hd) ((jv _ _ _).trans hdf) h hF hG' hz hzb hfz hQ⟩
    ·split at hr
     ·rename_i hk1 hk2 hk0;subst hk0;obtain⟨s1,s2⟩:=hsee rfl;show fD P .any ops R (gP m σ0 H0 w0) fl ((0,j,o)::fC ops (pl.map iZ)) a w;refine jZ s1 (jb hwant ?_);have hA:lb kk B σ0 w0 σ w:= .of_fr hF hzb hfz;refine FP hk hE h hr (λv e' H1 u w1 σ1 q0 q1 q2 q3 q4=>?_) (λc H1 w1 σ1 q0 q1 q2=>hP c H1 a w1 σ1 q0 hdf q1 (hA.no.trans q2));exact oO hst hP pl r hl2 q0 (q2.put q1 hd) ((jv _ _ _).trans hdf) q3 (hA.trans q4) hQ
     ·rename_i hk1 hk2 hk0;obtain rfl:k=0:=aa;have hz':∀{σ1:Sg},(ly ak=false->σ1.fz=σ.fz)->(nc&& !ly ak)=true->σ1.fz=σ0.fz:=λh1 h2=>by
       simp only[apq,Bool.not_eq_true'] at h2;rw[h1 h2.2,hz h2.1]
      show fD P .any ops R (gP m σ0 H0 w0) fl ((0,j,o)::fC ops (pl.map iZ)) a w;refine ma (jb hwant ?_);refine Mz hk hE.er h hr λv H1 u w1 σ1 q0 q1 q2 q3 q5 q6 q4=>?_;have hF1:=hF.trans q3 h;have hg1:=gP.of_fr hF1 q0.1;have hA:lb kk B σ0 w0 σ w:= .of_fr hF hzb hfz;refine⟨hg1,qH h0 htop hst hP pl r hl2 q0.2 ((hE.mono q3.ext).put q1 hd) ((jv _ _ _).trans hdf) q2 hF1 (.inl hg1) (hz' q4) (hzb.trans q5) (λc hc hn=>?_) hQ⟩;exact(q6 c (ap1 hc hF.bel.size) (hA.un hc hn)).trans (hfz c hc hn)
  ·replace hr:=hr.2 rfl
   have hput:=hE.put (u:=undef) (v:= .tup []) (.tup rfl (λi v h=>by simp at h)) hd
   split at hr
   ·rename_i hk0;subst hk0;obtain⟨s1,s2⟩:=hsee rfl;show fD P .any ops R (gP m σ0 H0 w0) fl ((0,j,o)::fC ops (pl.map iZ)) a w;refine jZ s1 ?_;unfold wpList;rw[hwant,if_neg ae];exact oO hst hP pl r hl2 hr hput ((jv _ _ _).trans hdf) h (.of_fr hF hzb hfz) hQ
   ·rename_i hk0;obtain⟨hlow,hr⟩:=hr;have next:=qH h0 htop hst hP pl r hl2 hr hput ((jv _ _ _).trans hdf) h hF hG' hz hzb hfz hQ
    have:k=0\/k=1\/k=2:=aa;rcases this with rfl|rfl|rfl
    ·show fD P .any ops R (gP m σ0 H0 w0) fl ((0,j,o)::fC ops (pl.map iZ)) a w;refine ma ?_;unfold wpList;rw[hwant,if_neg ae];exact⟨gP.of_fr hF (hlow rfl),next⟩
    ·show fD P .any ops R (gP m σ0 H0 w0) fl ((1,j,o)::fC ops (pl.map iZ)) a w;unfold fD;rw[hwant,if_neg ae];exact next
    ·show fD P .any ops R (gP m σ0 H0 w0) fl ((2,j,o)::fC ops (pl.map iZ)) a w;unfold fD;rw[hwant,if_neg ae];exact next
end
section
variable {x:AC}{f:FuncId}{args:List AV}
def GEW(P:Program)(n:Nat)(kk:Nat->Bool)(c:Code)(e:Tr AV)(H:AH)(Q:AE->Tr AV->AH->Prop)(E:List PanicEntry->AH->Prop):Prop:=
 ∀(B:Nat) (σ:Sg) (a:Act) (w:World) (R:Exit->Act->World->Prop),EN n σ e a->a.defers=[]->HR B σ H w->(∀c (a:Act) d v w,R (.panic c) (a.put d v) w->R (.panic c) a w)->
  (∀x e' H' a' w' σ',Q x e' H'->EN n σ' e' a'->a'.defers=[]->HR B σ' H' w'->lb kk B σ w σ' w'->R x.to a' w')->
  (∀c H' a' w' σ',E c H'->a'.defers=[]->HR B σ' H' w'->lb (λ_=>false) B σ w σ' w'->R (.panic c) a' w')->c.wp P R a w
def GE(P:Program)(n:Nat)(kk:Nat->Bool)(hints:gN)(ac:AC)(e:Tr AV)(H:AH)(Q:AE->Tr AV->AH->Prop)(E:List PanicEntry->AH->Prop):Prop:=∀c,ji P n hints c=some ac->GEW P n kk c e H Q E
def gA(n:Nat)(kk:Nat->Bool)(e:Tr AV)(H:AH)(e2:Tr AV)(H2:AH):Prop:=∀(B:Nat) (σ:Sg) (a:Act) (w:World),EN n σ e a->HR B σ H w->∃σ2,EN n σ2 e2 a/\HR B σ2 H2 w/\lb kk B σ w σ2 w
section
variable {P:Program} {n:Nat} {kk:Nat->Bool} {hints:gN} {e:Tr AV} {H:AH} {Q:AE->Tr AV->AH->Prop} {E:List PanicEntry->AH->Prop}
theorem GE.mono{ac:AC}{Q':AE->Tr AV->AH->Prop}{E':List PanicEntry->AH->Prop}(h:GE P n kk hints ac e H Q E)(hq:∀x e H,Q x e H->Q' x e H)(he:∀c H,E c H->E' c H):GE P n kk hints ac e H Q' E':=λc hc B σ a w R hE hd hH hs hR hP=>
 h c hc B σ a w R hE hd hH hs (λx e' H' a' w' σ' q=>hR x e' H' a' w' σ' (hq _ _ _ q)) (λc H' a' w' σ' q=>hP c H' a' w' σ' (he _ _ q))
theorem GE.wk{ac:AC}{e2:Tr AV}{H2:AH}(hw:gA n kk e H e2 H2)(h:GE P n kk hints ac e2 H2 Q E):GE P n kk hints ac e H Q E:=λc hc B σ a w R hE hd hH hs hR hP=>by
 obtain⟨σ2,k1,k2,k3⟩:=hw B σ a w hE hH;exact h c hc B σ2 a w R k1 hd k2 hs (λx e' H' a' w' σ' q m1 m2 m3 m4=>hR x e' H' a' w' σ' q m1 m2 m3 (k3.trans m4)) (λc H' a' w' σ' q m1 m2 m3=>hP c H' a' w' σ' q m1 m2 (k3.no.trans m3))
theorem GE.skip(h:Q .normal e H):GE P n kk hints .skip e H Q E:=λc hc B σ a w R hE hd hH hs hR hP=>by
 obtain rfl:=gJ hc;exact wp_skip (hR .normal e H a w σ h hE hd hH (.refl _ _ _ _))
theorem GE.exit{i:Nat}(h:Q (.exit i) e H):GE P n kk hints (.exit i) e H Q E:=λc hc B σ a w R hE hd hH hs hR hP=>by
 obtain rfl:=gJ hc;exact wp_exit (hR (.exit i) e H a w σ h hE hd hH (.refl _ _ _ _))
theorem GE.ret(h:Q .ret e H):GE P n kk hints .ret e H Q E:=λc hc B σ a w R hE hd hH hs hR hP=>by
 obtain rfl:=gJ hc;exact wp_ret (hR .ret e H a w σ h hE hd hH (.refl _ _ _ _))
theorem GE.seq{y:AC}(h:GE P n kk hints x e H (mq (λe' H'=>GE P n kk hints y e' H' Q E) Q) E):GE P n kk hints (.seq x y) e H Q E:=λc hc B σ a w R hE hd hH hs hR hP=>by
 obtain⟨ca,cb,rfl,h1,h2⟩:=gJ hc;refine wp_seq ?_;refine h ca h1 B σ a w _ hE hd hH (λc a d v w hq=>hs c a d v w hq) (λx' e' H' a' w' σ' q k1 kd k2 k3=>?_) (λc H' a' w' σ' q k1 k2 k3=>hP c H' a' w' σ' q k1 k2 k3);cases x' with
 |normal=>exact q cb h2 B σ' a' w' R k1 kd k2 hs (λx e' H' a'' w'' σ'' q' m1 m2 m3 m4=>hR x e' H' a'' w'' σ'' q' m1 m2 m3 (k3.trans m4)) (λc H' a'' w'' σ'' q' m1 m2 m3=>hP c H' a'' w'' σ'' q' m1 m2 (k3.no.trans m3))
 |exit i=>exact hR (.exit i) e' H' a' w' σ' q k1 kd k2 k3
 |ret=>exact hR .ret e' H' a' w' σ' q k1 kd k2 k3
def ym(P:Program)(n:Nat)(kk:Nat->Bool)(hints:gN)(cc:AX)(x y:AC)(e:Tr AV)(H:AH)(Q:AE->Tr AV->AH->Prop)(E:List PanicEntry->AH->Prop):Prop:=match cc.ev e with
 |some (.b t)=>(t=true->GE P n kk hints x e H Q E)/\(t=false->GE P n kk hints y e H Q E)
 |_=>False
theorem GE.cond{cc:AX}{y:AC}(h:ym P n kk hints cc x y e H Q E):GE P n kk hints (.cond cc x y) e H Q E:=λc hcc B σ a w R hE hd hH hs hR hP=>by
 obtain⟨o,ca,cb,rfl,h0,g1,g2⟩:=gJ hcc;unfold ym at h;split at h
 ·rename_i t ht;cases t with
  |true=>exact wp_cond_true (FG h0 hE.er ht) (h.1 rfl ca g1 B σ a w R hE hd hH hs hR hP)
  |false=>exact wp_cond_false (FG h0 hE.er ht) (h.2 rfl cb g2 B σ a w R hE hd hH hs hR hP)
 ·exact h.elim
theorem GE.block{id:Nat}(h:GE P n kk hints x e H (pZ id Q) E):GE P n kk hints (.block id x) e H Q E:=λc hc B σ a w R hE hd hH hs hR hP=>by
 obtain⟨b,rfl,h1⟩:=gJ hc;refine wp_block ?_;refine h b h1 B σ a w _ hE hd hH (λc a d v w hq=>hs c a d v w hq) (λx' e' H' a' w' σ' q k1 kd k2 k3=>?_) (λc H' a' w' σ' q k1 k2 k3=>hP c H' a' w' σ' q k1 k2 k3);cases x' with
 |normal=>exact hR .normal e' H' a' w' σ' q k1 kd k2 k3
 |exit i=>
  show if i=id then R .normal a' w' else R (.exit i) a' w'
  by_cases hi:i=id
  ·rw[if_pos hi];refine hR .normal e' H' a' w' σ' ?_ k1 kd k2 k3;have q':if i=id then Q .normal e' H' else Q (.exit i) e' H':=q
   rwa [if_pos hi] at q'
  ·rw[if_neg hi];refine hR (.exit i) e' H' a' w' σ' ?_ k1 kd k2 k3;have q':if i=id then Q .normal e' H' else Q (.exit i) e' H':=q
   rwa [if_neg hi] at q'
 |ret=>exact hR .ret e' H' a' w' σ' q k1 kd k2 k3
theorem GE.reg{l:List AO}(h:qJ P n kk E l e H (λe' H'=>Q .normal e' H')):GE P n kk hints (.reg l) e H Q E:=λc hc B σ a w R hE hd hH hs hR hP=>by
 obtain⟨id,ops,rfl,hl⟩:=gJ hc;exact wp_region_list (v5 hs _ _ hl h hE hd hH (.refl _ _ _ _) (λe' H' a' w' σ' q k1 k2 k3 k4=>hR .normal e' H' a' w' σ' q k1 k2 k3 k4) hP)
theorem GE.mix(hm:P.follows .mixedOrders=true)(m:Nat){l:List (Nat×AO)}(htop:g8 H m (H.next-m))(h:nV P n kk E {H with low:=2^40} m true l e {H with low:=2^40} (λe' H'=>Q .normal e' {H' with low:=min H.low H'.low})):GE P n kk hints (.mix l) e H Q E:=λc hc B σ a w R hE hdf hH hs hR hP=>by
 obtain⟨id,ops,fl,pu,pl,rfl,hB,hl⟩:=gJ hc;have hops:ops=ops.toList.toArray:=ae;rw[hops];rw[hops] at hB;have hd:HR B σ {H with low:=2^40} w.drew:=⟨hH.new,hH.newl,hH.old,hH.small,hH.hB,hH.nil,hH.nilp,hH.blk,hH.szs,hH.inj,hH.frz,hH.ob.of_eq rfl⟩;refine mG (gP m σ {H with low:=2^40} w.drew) fl pu (pl.map iZ) hm hB (λc a d v w hq=>hs _ _ _ _ _ hq) (gP.refl _ _ _ _) ?_;rw[<-hops];have htop':g8 {H with low:=2^40} m (AH.next {H with low:=2^40}-m):=by
  have key:∀(k m:Nat),g8 H m k->g8 {H with low:=2^40} m k:=by
   intro k;induction k with
   |zero=>intro m _;trivial
   |succ k ih=>intro m h;exact⟨h.1,ih _ h.2⟩
  exact key _ _ htop
 refine qH hd htop' hs (λc H' a' w' σ' q m1 m2 m3=>hP c H' a' w' σ' q m1 m2 m3.drew) pl l hl h hE hdf hd (Fr.refl hd) (.inl (gP.refl _ _ _ _)) (λ_=>rfl) (.refl _ _) (λ_ _ _=>rfl) (λe' H' a' w' σ' q q1 q2 q3 q4=>?_);exact hR .normal e' _ a' w' σ' q q1 q2 (q3.relow _) q4.drew
def vt(n:Nat)(kk:Nat->Bool)(I:Nat->Tr AV->AH->Prop)(Q:AE->Tr AV->AH->Prop)(m:Nat):AE->Tr AV->AH->Prop
 |.normal,e,H=>∃m' e2 H2,m'<m/\gA n kk e H e2 H2/\I m' e2 H2
 |x,e,H=>Q x e H
theorem GE.loop(I:Nat->Tr AV->AH->Prop){m:Nat}{e0:Tr AV}{H0:AH}(hw:gA n kk e H e0 H0)(hi:I m e0 H0)(h:∀m e H,I m e H->GE P n kk hints x e H (vt n kk I Q m) E):GE P n kk hints (.loop x) e H Q E:=λc hc B σ a w R hE hd hH hs hR hP=>by
 obtain⟨b,rfl,h1⟩:=gJ hc;refine wp_loop_rounds (m+1) ?_;have key:∀(k m:Nat) {e:Tr AV} {H:AH} {e0:Tr AV} {H0:AH} {σ:Sg} {a:Act} {w:World},m<k->gA n kk e H e0 H0->I m e0 H0->EN n σ e a->a.defers=[]->HR B σ H w->
   (∀x e' H' a' w' σ',Q x e' H'->EN n σ' e' a'->a'.defers=[]->HR B σ' H' w'->lb kk B σ w σ' w'->R x.to a' w')->
   (∀c H' a' w' σ',E c H'->a'.defers=[]->HR B σ' H' w'->lb (λ_=>false) B σ w σ' w'->R (.panic c) a' w')->Code.rounds P b R k a w:=by
  intro k;induction k with
  |zero=>intro m e H e0 H0 σ a w hlt;omega
  |succ k ih=>
   intro m e H e0 H0 σ a w hlt hw hi hE hd hH hR hP;rw[rounds_succ];obtain⟨σ2,k1,k2,k3⟩:=hw B σ a w hE hH;refine h m e0 H0 hi b h1 B σ2 a w _ k1 hd k2 (λc a d v w hq=>hs c a d v w hq) (λx' e' H' a' w' σ' q m1 md m2 m3=>?_) (λc H' a' w' σ' q m1 m2 m3=>hP c H' a' w' σ' q m1 m2 (k3.no.trans m3));cases x' with
   |normal=>
    obtain⟨m',e2,H2,hlt2,hw2,hi2⟩:=q;exact ih m' aa hw2 hi2 m1 md m2 (λx e' H' a'' w'' σ'' q' p1 p2 p3 p4=>hR x e' H' a'' w'' σ'' q' p1 p2 p3 ((k3.trans m3).trans p4)) (λc H' a'' w'' σ'' q' p1 p2 p3=>hP c H' a'' w'' σ'' q' p1 p2 ((k3.trans m3).no.trans p3))
   |exit i=>exact hR (.exit i) e' H' a' w' σ' q m1 md m2 (k3.trans m3)
   |ret=>exact hR .ret e' H' a' w' σ' q m1 md m2 (k3.trans m3)
 exact key (m+1) m aa hw hi hE hd hH hR hP
end
/-! ### functions-/
def Bq(kk:Nat->Bool)(B:Nat)(σ:Sg)(w:World)(Q:AV->AH->Prop)(E:List PanicEntry->AH->Prop):Ending->World->Prop
 |.returned u,w'=>∃v H' σ',Q v H'/\VR σ' v u/\HR B σ' H' w'/\lb kk B σ w σ' w'
 |.panicked c,w'=>∃H' σ',E c H'/\HR B σ' H' w'/\lb (λ_=>false) B σ w σ' w'
 |.outgrown,_=>False
def PC(P:Program)(kk:Nat->Bool)(g:FuncId)(args:List AV)(H:AH)(Q:AV->AH->Prop)(E:List PanicEntry->AH->Prop):Prop:=
 ui P g/\∀(B:Nat) (σ:Sg) (w:World) (args':Array Value),HR B σ H w->gn σ args args'.toList->Calls P g args' w (Bq kk B σ w Q E)
theorem PC.mono{P:Program}{kk:Nat->Bool}{g:FuncId}{H:AH}{Q Q':AV->AH->Prop}{E E':List PanicEntry->AH->Prop}(h:PC P kk g args H Q E)(hq:∀v H,Q v H->Q' v H)(he:∀c H,E c H->E' c H):PC P kk g args H Q' E':=
 ⟨h.1,λB σ w args' hH ha=>(h.2 B σ w args' hH ha).mono λen w' hp=>by
  cases en with
  |returned u=>obtain⟨v,H',σ',q,r⟩:=hp;exact⟨v,H',σ',hq _ _ q,r⟩
  |panicked c=>obtain⟨H',σ',q,r⟩:=hp;exact⟨H',σ',he _ _ q,r⟩
  |outgrown=>exact hp⟩
theorem ZT{P:Program}{kk:Nat->Bool}{hints:gN}{F:AF}(hF:fB P hints f=some F)(hlen:args.length<=F.nt){H:AH}{Q:AV->AH->Prop}{E:List PanicEntry->AH->Prop}
  (h:GE P F.nt kk hints F.code (oh args) H (pq F.res Q) E):PC P kk f args H Q E:=by
 unfold fB at hF;obtain⟨fn,h1,hF⟩:=bM.1 hF;obtain⟨c,h3,hF⟩:=bM.1 hF;obtain⟨ac,h5,hF⟩:=bM.1 hF;obtain⟨r,h6,hF⟩:=bM.1 hF;split at hF;rotate_left
 ·cases hF
 rename_i hq;cases hF;refine⟨⟨fn,h1,hq.1,by rw[h3];rfl⟩,λB σ w args' hH ha=>?_⟩
 refine calls_of_wp h1 h3 ?_;refine h c h5 B σ _ w _ (sw ha hlen hq.2) rfl hH (λc a d v w hq=>⟨(jv a d v).symm.trans hq.1,hq.2⟩) (λx e' H' a' w' σ' q q1 qd q2 q3=>?_) (λc H' a' w' σ' q qd q2 q3=>⟨qd,H',σ',q,q2,q3⟩);have key:∀l,lK e' H' r=some l->Q (gD l) H'->a'.defers=[]/\∃v,(results fn a'.tmps).run P w'= .ok v w'/\Bq kk B σ w Q E (.returned v) w':=by
  intro l hl hQ;obtain⟨us,g1,g2⟩:=ra q1.er q2 _ _ _ h6 hl;have hres:∃u,(results fn a'.tmps).run P w'= .ok u w'/\VR σ' (gD l) u:=by
   have hsem:results fn a'.tmps=(do let vs<-fn.results.mapM (lN a');pure (if h:vs.size=1 then vs[0] else .tuple vs)):=by
    unfold results;rfl
   have hrun:(fn.results.mapM (lN a')).run P w'= .ok us.toArray w':=by
    simp[Array.mapM_eq_mapM_toList,g1]
   rw[hsem];simp only[Sem.run_bind,hrun,Result.andThen_ok,Sem.run_pure];refine⟨_,rfl,?_⟩;have hn:=g2.1
   match l,us,g2,hn with
   |[v],[u],g2,_=>exact g2.2 0 v rfl
   |[],[],_,_=>exact gn.nil.tup
   |v1::v2::l,u1::u2::us,g2,_=>exact g2.tup
  obtain⟨u,k1,k2⟩:=hres;exact⟨qd,u,k1,gD l,H',σ',hQ,k2,q2,q3⟩
 have q':∃l,lK e' H' r=some l/\Q (gD l) H':=by
  cases x with
  |exit i=>exact q.elim
  |normal=>
   simp only[pq] at q;split at q
   ·exact aqR
   ·exact q.elim
  |ret=>
   simp only[pq] at q;split at q
   ·exact aqR
   ·exact q.elim
 obtain⟨l,hl,hQ⟩:=q';have post:=key l hl hQ;cases x with
 |exit i=>exact q.elim
 |normal=>exact post
 |ret=>exact post
theorem gA.arg(n:Nat)(kk:Nat->Bool)(args:List AV)(H:AH)(h:args.length<100000):gA n kk (oh args) H (fu (fy 0 args)) H:=by
 intro B σ a w hE hH;refine⟨σ,⟨⟨hE.er.df,λt v hv=>hE.er.get t v ?_⟩,hE.sz,hE.sm⟩,hH,.refl _ _ _ _⟩;rw[tW _ _ _ aa] at hv;rw[mT _ _ aa];split at hv
 ·simpa using hv
 ·cases hv
theorem gX{P:Program}{kk:Nat->Bool}{hints:gN}{F:AF}(hF:fB P hints f=some F)(hlen:args.length<=F.nt/\F.nt<100000){H:AH}{Q:AV->AH->Prop}{E:List PanicEntry->AH->Prop}
  (h:GE P F.nt kk hints F.code (fu (fy 0 args)) H (pq F.res Q) E):PC P kk f args H Q E:=
 ZT hF hlen.1 (GE.wk (gA.arg _ _ _ _ aa) h)
def Pan(P:Program)(f:FuncId)(args:List AV)(c:List PanicEntry):Prop:=
 ui P f/\∀(φ:Fz) (w:World) (args':Array Value),wv φ w->gn (Sg.data φ) args args'.toList->Calls P f args' w λen w'=>en= .panicked c/\Below w.heap.size w w'
theorem D8{P:Program}{c:List PanicEntry}(h:PC P (λ_=>false) f args (fi []) (λ_ _=>False) (λc' _=>c'=c)):Pan P f args c:=by
 refine⟨h.1,λφ w args' hφ ha=>(h.2 w.heap.size (Sg.data φ) w args' (HR.empty w hφ) ha).mono λen w' hp=>?_⟩;cases en with
 |returned u=>obtain⟨v,H',σ',q,_⟩:=hp;exact q.elim
 |panicked c'=>obtain⟨H',σ',q,_,q2⟩:=hp;exact⟨by rw[q],q2.bel⟩
 |outgrown=>exact hp.elim
theorem lA{P:Program}{Q:AV->AH->Prop}(h:PC P (λ_=>false) f args (fi []) Q (λ_ _=>False)):yI P f args Q:=by
 refine⟨h.1,λφ w args' hφ ha=>(h.2 w.heap.size (Sg.data φ) w args' (HR.empty w hφ) ha).mono λen w' hp=>?_⟩;cases en with
 |returned u=>
  obtain⟨v,H',σ',q,q1,q2,q3⟩:=hp;exact⟨v,H',σ',q,q1,q2,q3.bel,λc hc=>q3.fzb.eq c hc⟩
 |panicked c'=>obtain⟨H',σ',q,_⟩:=hp;exact q.elim
 |outgrown=>exact hp.elim
end
section
variable {H:AH}{Q:AV->Tr AV->AH->Prop}{g:FuncId}{args fargs:List AV}{E:List PanicEntry->AH->Prop}{rs:List RT}{n:Nat}{kk:Nat->Bool}{P:Program}{e:Tr AV}
theorem gA.mkO{L:List (Nat×AV)}{bl:List AB}{ob:Nat->Option OB}(ρ M:List Nat)(he:iT (λb2=>ρ.reverse[b2]?) M H e L)(hh:ig (λb2=>ρ.reverse[b2]?) M H ρ bl)(hl:bl.length<1000000)(hob:∀r x,ob r=some x->H.ob r=some x)(hk:∀b,kk b=true->ρ.reverse[b]? =some b):gA n kk e H (fu L) (ft ob bl):=by
 intro B σ a w hE hH;obtain⟨σ2,q1,q2,q3,q4,q5,_⟩:=Wk.mkE ρ M he hh hl hob hE hH;refine⟨σ2,q1,q2,Below.refl _ _,q3,λb c o hs=>?_,λ_ _ _=> .inl rfl,λc _ hn=>q5 c hn,λb x hb hs=>?_⟩
 ·exact arb
 ·rw[q4,hk b hb];exact hs
theorem lR{ρ:List Nat}:∀b,(λ_:Nat=>false) b=true->ρ.reverse[b]? =some b:=λb h=>by cases h
theorem gA.mk{L:List (Nat×AV)}{bl:List AB}(ρ M:List Nat)(he:iT (λb2=>ρ.reverse[b2]?) M H e L)(hh:ig (λb2=>ρ.reverse[b2]?) M H ρ bl)(hl:bl.length<1000000)(hk:∀b,kk b=true->ρ.reverse[b]? =some b):gA n kk e H (fu L) (fi bl):=
 fv bl ▸ gA.mkO ρ M he hh hl (λr x hx=>by cases hx) hk
theorem gA.nil(t esz ty:Nat)(ht:e.get t=some .sl0)(hs:t<1000000)(hn:H.next<1000000):gA n kk e H (fQ e (some t) (.os H.next 0)) (H.new (l8 esz ty)):=by
 intro B σ a w hE hH;have hle:=σ.le_extNil H.next
 refine⟨σ.extNil H.next,⟨⟨hE.er.df,λt' v hv=>?_⟩,hE.sz,hE.sm⟩,hH.placeNil rfl (λ_ _ h=>h) aa rfl rfl rfl ⟨rfl,rfl⟩,Below.refl _ _,.of_eq rfl,λb c o h=> .inl ⟨b,o,h⟩,λ_ _ _=> .inl rfl,λ_ _ _=>rfl,λb x _ h=>h⟩
 simp only[fQ] at hv;rw[Tr.get_set 48 e t _ t' aa] at hv;split at hv
 ·rename_i ht';cases hv;subst ht';have:=hE.er.get t' .sl0 ht;generalize hu:a.tmps.getD t' undef=u at this;cases this with
  |sl0 ad=>exact .os0 (σ:=σ.extNil H.next) (Or.inl rfl) ad
 ·exact(hE.er.get t' v hv).mono hle
theorem qV{Q:AV->AH->Prop}(M:List Nat)(hcv:ja M H args fargs)(h:gw P g fargs rs)(hnx:H.next+9<2^40)
  (hQ:Q (gD (iG (gF H M) rs).1) (iG (gF H M) rs).2):u5 P g args H Q:=by
 refine⟨h.1,λB σ w args' hH ha=>?_⟩;obtain⟨σ2,q0,q1,q2,q3,q4,q5,q6,q7⟩:=hH.marksE M;have hd:gn (Sg.data σ2.fz) fargs args'.toList:=hcv.ok hH q1 q2 q7 ha;have hin:wv σ2.fz w:=λc fs hf=>by
  obtain⟨cs,t,fr,e1,e2,_⟩:=q6.frz c fs hf;exact aqS
 refine(h.2 σ2.fz w args' hin hd).mono λe w' hp=>?_;cases e with
 |panicked c=>exact hp.elim
 |outgrown=>exact hp.elim
 |returned u=>
  obtain⟨v,Hc,σ',⟨l,rfl,hr⟩,hv,hHc,hbel,hfz⟩:=hp;obtain⟨us,hus,hback⟩:=m9 hv;let σa:Sg:=⟨σ2.nm,σ2.nl,σ'.fz⟩;have hle:σ2.le σa:=⟨λ_ _ hh=>hh,λ_ hh=>hh,λc fs hf=>⟨fs,by show σ'.fz c=_;rw[hfz c (q6.fzlt hf)];exact hf,oq.refl _⟩⟩
  have hblt:∀b c o,σa b=some (c,o)->(gF H M).at b≠none->c<w.heap.size:=λb c o hs hne=>by
   cases hx:(gF H M).at b with
   |none=>exact absurd hx hne
   |some x=>
    obtain⟨cs,e1,e2,e3⟩:=q6.blk b x c o hx hs;exact(apo.1 e2).1
  have hHa:HR B σa (gF H M) w':=by
   refine⟨q6.new,q6.newl,q6.old,q6.small,apj q6.hB hbel.size,q6.nil,q6.nilp,λb x c o hx hs=>?_,q6.szs,q6.inj,λc fs hf=>?_,(q6.ob.mono hle).keep λr hr _=>hbel.block r hr⟩
   ·exact aqT
   ·by_cases hc:c<w.heap.size
    ·exact aqU
    ·obtain⟨cs,t,fr,e1,e2,_⟩:=hHc.frz c fs hf;refine⟨cs,t,fr,e1,e2,λb x o hx hs=>?_⟩;have:=hblt b c o hs (by rw[hx];simp)
     omega
  have hnx':(gF H M).next+9<2^40:=by rw[jU];exact hnx
  have hmm:∀{a:AV} {u:Value} {σn:Sg},a.pu 3=true->True->σa.le σn->VR σ' a u->VR σn a u:=λhp _ hle' hu=>by
   have e1:=hu.pure 3 hp;have e2:σ'.bare.le _:=⟨λb x hx=>(by cases hx),λb hb=>False.elim hb,λc' fs hf=>hle'.fz c' fs hf⟩
   exact e1.mono e2
  obtain⟨σ3,p1,p2,p3,p4,p5,p6,p7,p8⟩:=rn (σa:=σa) (good:=λ_=>True) hmm hHc hHa (λc fs _ hf=>hf) hH.hB hblt hnx' rs l us hr (λr _=>vX r) hus;rw[jU] at p5 p6 p8;rw[pd] at p7;refine⟨_,_,σ3,hQ,hback (kS rs l _ hr) p2,p1,⟨λb hb=>?_,(q1.trans hle).trans p3,p6,by rw[p7];exact bL _,?_,λc hc=> .inl (hbel.block c hc),λb c o hb hs hc=>?_⟩,⟨λc hc=>?_,((q1.trans hle).trans p3).fz⟩,λc hc hn=>?_⟩
  ·exact aqV
  ·exact aqW
  ·exact aqX
  ·exact aqY
  ·rw[p4];show σ'.fz c=σ.fz c;rw[hfz c hc,q0 c hn]
theorem Bn(h:u5 P g args H (λv H'=>Q v e H')):jr P n kk g args e H Q E:=
 ⟨h.1,λB σ a w args' hE hH ha=>(h.2 B σ w args' hH ha).mono λen w' hp=>by
  cases en with
  |returned u=>
   obtain⟨v,H',σ',q0,q1,q2,q3,q4,q5⟩:=hp;exact⟨v,e,H',σ',q0,q1,hE.mono q3.ext,q2,.of_fr q3 q4 q5⟩
  |panicked c=>exact hp.elim
  |outgrown=>exact hp.elim⟩
theorem pj(M:List Nat)(hcv:ja M H args fargs)(h:gw P g fargs rs)(hnx:H.next+9<2^40)
  (hQ:Q (gD (iG (gF H M) rs).1) e (iG (gF H M) rs).2):jr P n kk g args e H Q E:=Bn (qV M hcv h hnx hQ)
theorem fP{c:List PanicEntry}(M:List Nat)(hcv:ja M H args fargs)(h:Pan P g fargs c)(hP:E c H):jr P n kk g args e H Q E:=by
 refine⟨h.1,λB σ a w args' hE hH ha=>?_⟩;obtain⟨σ2,q0,q1,q2,q3,q4,q5,q6,q7⟩:=hH.marksE M;have hd:gn (Sg.data σ2.fz) fargs args'.toList:=hcv.ok hH q1 q2 q7 ha;have hin:wv σ2.fz w:=λc fs hf=>by
  obtain⟨cs,t,fr,e1,e2,_⟩:=q6.frz c fs hf;exact aqS
 refine(h.2 σ2.fz w args' hin hd).mono λen w' hp=>?_;obtain⟨rfl,hb⟩:=hp;exact⟨H,σ,hP,hH.after_call hb,⟨⟨hb.os,hb.tape,hb.output,hb.size,λk hk=>hb.block k (by have:=hH.hB;omega)⟩,.refl _ _,λb c o h=> .inl ⟨b,o,h⟩,λc hc _=> .inl (hb.block c hc),λ_ _ _=>rfl,λb x _ h=>h⟩⟩
/-! ### a call on a part of the memory-/
def AV.nm(pp:Nat->Bool):Nat->AV->Bool
 |_,.b _|_,.n _ _|_,.s _|_,.p0|_,.sl0|_,.f0|_,.cv _|_,.fs _ _ _|_,.fp _ _ _|_,.bx _ _|_,.fw _ _ _|_,.ow|_,.u=>true
 |_,.p bl _|_,.sl bl _ _ _|_,.os bl _|_,.mh bl=>pp bl
 |k+1,.f _ l1 l2=>l1.all (AV.nm pp k)&&l2.all (AV.nm pp k)
 |k+1,.agg l=>l.all (AV.nm pp k)
 |k+1,.tup l=>l.all (AV.nm pp k)
 |_,_=>false
def Sg.only(σ:Sg)(p:Nat->Bool):Sg:=⟨λb=>if p b=true then σ.nm b else none,λb=>p b=true/\σ.nl b,σ.fz⟩
theorem VR.only{σ:Sg}{p:Nat->Bool}:∀(k:Nat) {v:AV} {x:Value},v.nm p k=true->VR σ v x->VR (σ.only p) v x
 |k,v,x,hp,h=>by
  have hb:∀{b:Nat} {y:Nat×Option Nat},p b=true->σ.nm b=some y->(σ.only p).nm b=some y:=λhb hs=>by show(if _ then _ else _)=_;rw[if_pos hb];exact hs
  have hle:σ.bare.le (σ.only p):=⟨λb x hx=>(by cases hx),λb hb=>False.elim hb,λc fs hf=>⟨fs,hf,oq.refl _⟩⟩
  cases h with
  |u _=>exact .u _
  |b x=>exact .b x
  |n k x=>exact .n k x
  |s x=>exact .s x
  |p0=>exact .p0
  |p h=>exact .p (hb (by cases k<;>exact hp) h)
  |sl0 a=>exact .sl0 a
  |sl h=>exact .sl (hb (by cases k<;>exact hp) h)
  |slo h hc h0=>exact .slo (hb (by cases k<;>exact hp) h) hc h0
  |f0=>exact .f0
  |f n1 h1 n2 h2=>
   cases k with
   |zero=>simp[AV.nm] at hp
   |succ k=>
    simp only[AV.nm,apq,apr] at hp;exact .f n1 (λi v hv=>VR.only k (hp.1 v (apB hv)) (h1 i v hv)) n2 (λi v hv=>VR.only k (hp.2 v (apB hv)) (h2 i v hv))
  |agg hl hh=>
   cases k with
   |zero=>simp[AV.nm] at hp
   |succ k=>
    simp only[AV.nm,apr] at hp;exact .agg hl (λi v hv=>VR.only k (hp v (apB hv)) (hh i v hv))
  |cv _ hv=>exact .cv _ hv
  |tup hl hh=>
   cases k with
   |zero=>simp[AV.nm] at hp
   |succ k=>
    simp only[AV.nm,apr] at hp;exact .tup hl (λi v hv=>VR.only k (hp v (apB hv)) (hh i v hv))
  |fs0 esz row a cap=>exact .fs0 _ _ _ _
  |fs hz hb h1 h2 cap hcap=>exact .fs (σ:=σ.only p) hz hb h1 h2 cap hcap
  |fp hz hb h1 h2 j=>exact .fp (σ:=σ.only p) hz hb h1 h2 j
  |bx hz hb h1 h2=>exact .bx (σ:=σ.only p) hz hb h1 h2
  |ow h=>exact .ow h
  |fw0 esz row a cap=>exact .fw0 _ _ _ _
  |fw hz hb h1 h2 cap=>exact .fw (σ:=σ.only p) hz hb h1 h2 cap
  |mh h=>exact .mh (hb (by cases k<;>exact hp) h)
  |os0 h a=>exact .os0 (σ:=σ.only p) ⟨by cases k<;>exact hp,h⟩ a
  |os h hl=>exact .os (hb (by cases k<;>exact hp) h) hl
theorem oM:∀(bl2 bl1:List AB) (b:Nat),b<bl1.length->(bl2++bl1).length<1000000->(fi (bl2++bl1)).at b=(fi bl1).at b
 |[],bl1,b,h,_=>rfl
 |x::bl2,bl1,b,h,hl=>by
  have hl':(bl2++bl1).length<1000000:=by simp only[List.cons_append,List.length_cons] at hl;omega
  rw[List.cons_append,jB hl',if_neg (by rw[ape];omega)]
  exact oM bl2 bl1 b h hl'
theorem rq:∀(bl2 bl1 bl1':List AB) (b:Nat),bl1.length<=b->bl1'.length=bl1.length->(bl2++bl1).length<1000000->(fi (bl2++bl1')).at b=(fi (bl2++bl1)).at b
 |[],bl1,bl1',b,h,he,hl=>by
  have key:∀(l:List AB) (b:Nat),l.length<1000000->l.length<=b->(fi l).at b=none:=by
   intro l;induction l with
   |nil=>intro b _ _;exact oV b
   |cons x l ih=>
    intro b hl hb;simp only[List.length_cons] at hl hb;rw[jB aa,if_neg aa];exact ih b aa aa
  have hl':bl1.length<1000000:=hl;rw[List.nil_append,List.nil_append,key bl1 b hl' h,key bl1' b aa aa]
 |x::bl2,bl1,bl1',b,h,he,hl=>by
  have hl':(bl2++bl1).length<1000000:=by simp only[List.cons_append,List.length_cons] at hl;omega
  have hl2:(bl2++bl1').length=(bl2++bl1).length:=by rw[ape,ape,he]
  rw[List.cons_append,List.cons_append,jB hl',jB aa,hl2];by_cases hb:b=(bl2++bl1).length
  ·rw[if_pos hb,if_pos hb]
  ·rw[if_neg hb,if_neg hb];exact rq bl2 bl1 bl1' b h he hl'
theorem rp:∀(l:List AB) (b:Nat),l.length<1000000->(∀x ∈ l,x.live=true)->b<l.length->∃x,(fi l).at b=some x
 |[],b,_,_,h=>absurd h (apg b)
 |x::l,b,hl,hv,h=>by
  simp only[List.length_cons] at hl h;rw[jB aa];by_cases hb:b=l.length
  ·rw[if_pos hb,if_pos (hv x (aps ..))];exact⟨x,rfl⟩
  ·rw[if_neg hb];exact rp l b aa (λy hy=>hv y (apx _ hy)) aa
def Fb(H:AH)(q:Nat->Prop)(p:Nat->Bool):Prop:=∀b x,q b->H.at b=some x->∀i,i<x.size->(x.get i).nm p 3=true
theorem BR.of{σ σ':Sg}{x:AB}{o:Option Nat}{cs:Array Value}(h:BR σ x o cs)(hc:∀i,i<x.size->VR σ (x.get i) (cs.getD i undef)->VR σ' (x.get i) (cs.getD i undef)):BR σ' x o cs:=
 ⟨h.sz,h.ex,h.op,h.ob,λi hi=>hc i hi (h.cell i hi)⟩
theorem oQ{kk':Nat->Bool}{e2:Tr AV}{ob:Nat->Option OB}{bl1 bl2:List AB}{Q':AV->AH->Prop}{E':List PanicEntry->AH->Prop}
  (h:PC P kk' g args (ft ob bl1) Q' E') (hlen:(bl2++bl1).length<1000000) (hlive:∀x ∈ bl1,x.live=true) (hkk':∀b,kk' b=true->b<bl1.length) (hsz:∀b x,kk' b=true->(ft ob bl1).at b=some x->0<x.size)
  (ha:args.all (AV.nm (λb=>decide (b<bl1.length)) 3)=true)
  (h1:Fb (ft ob bl1) (λ_=>True) (λb=>decide (b<bl1.length)))
  (h2:Fb (ft ob (bl2++bl1)) (λb=>bl1.length<=b) (λb=>kk' b||decide (bl1.length<=b)))
  (hs:(∀t v,e2.get t=some v->e.get t=some v)/\∀t v,e2.get t=some v->v.nm (λb=>kk' b||decide (bl1.length<=b)) 3=true)
  (hQ:∀v H',Q' v H'->∃ob' bl1',H'=ft ob' bl1'/\bl1'.length=bl1.length/\Q v e2 (ft ob' (bl2++bl1')))
  (hE:∀c H',E' c H'->E c (fi [])):jr P n (λb=>kk' b||decide (bl1.length<=b)) g args e (ft ob (bl2++bl1)) Q E:=by
 refine⟨h.1,λB σ a w args' hEn hH ha'=>?_⟩;let k:=bl1.length;have hkd:bl1.length=k:=rfl;let σ1:Sg:=σ.only (λb=>decide (b<k));have s1:∀b,b<k->σ1 b=σ b:=λb hb=>by show(if decide (b<k)=true then _ else _)=_;rw[if_pos (decide_eq_true hb)]
 have s1n:∀b,¬b<k->σ1 b=none:=λb hb=>by show(if decide (b<k)=true then _ else _)=_;rw[if_neg (by simpa using hb)]
 have hlen1:bl1.length<1000000:=by rw[ape] at hlen;omega
 have at1:∀b x,(ft ob bl1).at b=some x->b<k/\(ft ob (bl2++bl1)).at b=some x:=λb x hx=>by
  have hb:b<k:=by
   by_cases hb:b<k
   ·exact hb
   ·have:=rq [] [] bl1 b (apf _);exfalso;have hn:(fi bl1).at b=none:=by
     have key:∀(l:List AB) (b:Nat),l.length<1000000->l.length<=b->(fi l).at b=none:=by
      intro l;induction l with
      |nil=>intro b _ _;exact oV b
      |cons x l ih=>
       intro b hl hb;simp only[List.length_cons] at hl hb;rw[jB aa,if_neg aa];exact ih b aa aa
     exact key bl1 b hlen1 aa
    have hx':(fi bl1).at b=some x:=hx;rw[hn] at hx';cases hx'
  exact⟨hb,by show(fi (bl2++bl1)).at b=_;rw[oM bl2 bl1 b hb hlen];exact hx⟩
 have hargs:gn σ1 args args'.toList:=⟨ha'.1,λi v hv=>VR.only 3 (apr.1 ha v (apB hv)) (ha'.2 i v hv)⟩;have hH1:HR B σ1 (ft ob bl1) w:=by
  refine⟨λb hb=>?_,λb hb=>?_,λb hb=>?_,?_,hH.hB,λb x hx hs=>?_,λb hb=>?_,λb x c o hx hs=>?_,λb x hx=>hH.szs b x (at1 b x hx).2,λb b' x x' c o o' k1 k2 k3 k4=>?_,λc fs hf=>?_,?_⟩
  ·rw[gG] at hb;exact s1n b aa
  ·rw[gG] at hb;exact λq=>by have:=of_decide_eq_true q.1;omega
  ·rw[gG] at hb;cases hx:(ft ob bl1).at b with
   |none=>rfl
   |some x=>have:=(at1 b x hx).1;omega
  ·rw[gG];omega
  ·obtain⟨hb,hx'⟩:=at1 b x hx;rw[s1 b hb] at hs;obtain⟨p1,p2,p3⟩:=hH.nil b x hx' hs;exact⟨p1,p2,decide_eq_true hb,p3⟩
  ·have hb':b<k:=of_decide_eq_true hb.1;rw[s1 b hb'];exact hH.nilp b hb.2
  ·obtain⟨hb,hx'⟩:=at1 b x hx;rw[s1 b hb] at hs;obtain⟨cs,p1,p2,p3⟩:=hH.blk b x c o hx' hs;exact⟨cs,p1,p2,p3.of λi hi hv=>VR.only 3 (h1 b x trivial hx i hi) hv⟩
  ·obtain⟨hb,hx⟩:=at1 b x k1;obtain⟨hb',hx'⟩:=at1 b' x' k2;rw[s1 b hb] at k3;rw[s1 b' hb'] at k4;exact hH.inj b b' x x' c o o' hx hx' k3 k4
  ·obtain⟨cs,t,fr,p1,p2,p3⟩:=hH.frz c fs hf;refine⟨cs,t,fr,p1,p2,λb x o hx hs=>?_⟩;obtain⟨hb,hx'⟩:=at1 b x hx;rw[s1 b hb] at hs;exact p3 b x o hx' hs
  ·rw[qu,ko];have:=hH.ob.o;rw[ko] at this;exact .none this
 have hnxt:(ft ob (bl2++bl1)).next=bl2.length+k:=by rw[gG,ape]
 have fin:∀(ob':Nat->Option OB) (bl1':List AB) (σ':Sg) (w':World),bl1'.length=k->HR B σ' (ft ob' bl1') w'->lb kk' B σ1 w σ' w'->
   ∃σf:Sg,σ'.le σf/\EN n σf e2 a/\HR B σf (ft ob' (bl2++bl1')) w'/\lb (λb=>kk' b||decide (bl1.length<=b)) B σ w σf w':=by
  intro ob' bl1' σ' w' hl1' hH' hA;let σf:Sg:=⟨λb=>if b<k then σ'.nm b else σ.nm b,λb=>if b<k then σ'.nl b else σ.nl b,σ'.fz⟩
  have f1:∀b,b<k->σf b=σ' b:=λb hb=>if_pos hb;have f2:∀b,¬b<k->σf b=σ b:=λb hb=>if_neg hb;have hlen':(bl2++bl1').length<1000000:=by rw[ape,hl1',<-hkd,<-ape];exact hlen
  have hle:σ'.le σf:=by
   refine⟨λb x hx=>?_,λb hb=>?_,λc fs hf=>⟨fs,hf,oq.refl _⟩⟩
   ·by_cases hb:b<k
    ·rw[f1 b hb];exact hx
    ·have:=hH'.new b (by rw[gG,hl1'];omega)
     rw[this] at hx;cases hx
   ·by_cases hb':b<k
    ·show if b<k then _ else _
     rw[if_pos hb'];exact hb
    ·exact absurd hb (hH'.newl b (by rw[gG,hl1'];omega))
  have val:∀{v:AV} {u:Value},v.nm (λb=>kk' b||decide (bl1.length<=b)) 3=true->VR σ v u->VR σf v u:=λ{v u} hv hu=>by
   have hle2:(σ.only (λb=>kk' b||decide (bl1.length<=b))).le σf:=by
    refine⟨λb x hx=>?_,λb hb=>?_,λc fs hf=>hA.fzb.le c fs hf⟩
    ·have hx':(if(kk' b||decide (bl1.length<=b))=true then σ.nm b else none)=some x:=hx
     split at hx'
     ·rename_i hb;simp only[ap5,decide_eq_true_eq] at hb;by_cases hbk:b<k
      ·rw[f1 b hbk];exact hA.kp b x (hb.resolve_right aa) (by rw[s1 b hbk];exact hx')
      ·rw[f2 b hbk];exact hx'
     ·cases hx'
    ·obtain⟨q1,q2⟩:=hb;simp only[ap5,decide_eq_true_eq] at q1;have hz:=hH.nilp b q2;show if b<k then σ'.nl b else σ.nl b
     by_cases hbk:b<k
     ·exfalso;obtain⟨y,hy⟩:=rp bl1 b hlen1 hlive aa;have h0:=hsz b y (q1.resolve_right aa) hy;have hy':(ft ob (bl2++bl1)).at b=some y:=by show(fi (bl2++bl1)).at b=_;rw[oM bl2 bl1 b aa hlen];exact hy
      have:=(hH.nil b y hy' hz).1;omega
     ·rw[if_neg hbk];exact q2
   exact(VR.only 3 hv hu).mono hle2
  have un:∀b x c o,k<=b->(ft ob (bl2++bl1)).at b=some x->σ b=some (c,o)->c<w.heap.size/\∀b0 o0,σ1 b0≠some (c,o0):=λb x c o hb hx hs=>by
   obtain⟨cs,p1,p2,p3⟩:=hH.blk b x c o hx hs;refine⟨(apo.1 p2).1,λb0 o0 h0=>?_⟩;by_cases hb0:b0<k
   ·rw[s1 b0 hb0] at h0;obtain⟨y,hy⟩:=rp bl1 b0 hlen1 hlive aa;have hy':(ft ob (bl2++bl1)).at b0=some y:=by show(fi (bl2++bl1)).at b0=_;rw[oM bl2 bl1 b0 aa hlen];exact hy
    have:=hH.inj b b0 x y c o o0 hx hy' hs h0;omega
   ·rw[s1n b0 hb0] at h0;cases h0
  have cl:∀b x c o,k<=b->(ft ob (bl2++bl1)).at b=some x->σ b=some (c,o)->w'.heap[c]? =w.heap[c]? :=λb x c o hb hx hs=>by
   obtain⟨hc,hu⟩:=un b x c o hb hx hs;obtain⟨cs,p1,p2,p3⟩:=hH.blk b x c o hx hs;rcases hA.same c hc hu with e|e
   ·exact e
   ·exact absurd p2 (e _ _ _)
  have atf:∀b x,(ft ob' (bl2++bl1')).at b=some x->(b<k/\(ft ob' bl1').at b=some x)\/(k<=b/\(ft ob (bl2++bl1)).at b=some x):=λb x hx=>by
   have hx':(fi (bl2++bl1')).at b=some x:=hx;by_cases hb:b<k
   ·exact .inl ⟨hb,by rw[oM bl2 bl1' b aa hlen'] at hx';exact hx'⟩
   ·exact .inr ⟨aa,by rw[rq bl2 bl1 bl1' b aa aa hlen] at hx';exact hx'⟩
  have old:∀b x c o,b<k->(ft ob' bl1').at b=some x->σ' b=some (c,o)->∀b' x' o',k<=b'->(ft ob (bl2++bl1)).at b'=some x'->σ b'=some (c,o')->False:=λb x c o hb hx hs b' x' o' hb' hx' hs'=>by
   obtain⟨hc,hu⟩:=un b' x' c o' hb' hx' hs';rcases hA.im b c o hs with⟨b0,o0,h0⟩|hh
   ·exact hu b0 o0 h0
   ·omega
  refine⟨σf,hle,⟨⟨hEn.er.df,λt v hv=>val (hs.2 t v hv) (hEn.er.get t v (hs.1 t v hv))⟩,hEn.sz,hEn.sm⟩,?_,?_⟩
  ·refine⟨λb hb=>?_,λb hb=>?_,λb hb=>?_,?_,apj hH.hB hA.bel.size,λb x hx hs=>?_,λb hb=>?_,λb x c o hx hs=>?_,λb x hx=>?_,λb b' x x' c o o' k1 k2 k3 k4=>?_,λc fs hf=>?_,?_⟩
   ·rw[gG,ape,hl1'] at hb;rw[f2 b aa];exact hH.new b (by rw[hnxt];exact hb)
   ·rw[gG,ape,hl1'] at hb;show ¬if b<k then _ else _
    rw[if_neg aa];exact hH.newl b (by rw[hnxt];exact hb)
   ·rw[gG,ape,hl1'] at hb;cases hx:(ft ob' (bl2++bl1')).at b with
    |none=>rfl
    |some x=>
     rcases atf b x hx with⟨h1,_⟩|⟨_,h2⟩
     ·omega
     ·rw[hH.old b (by rw[hnxt];exact hb)] at h2;cases h2
   ·rw[gG];omega
   ·rcases atf b x hx with⟨hb,hx'⟩|⟨hb,hx'⟩
    ·rw[f1 b hb] at hs;obtain⟨p1,p2,p3⟩:=hH'.nil b x hx' hs;exact⟨p1,p2,by show if b<k then _ else _;rw[if_pos hb];exact p3⟩
    ·rw[f2 b aa] at hs;obtain⟨p1,p2,p3⟩:=hH.nil b x hx' hs;exact⟨p1,p2,by show if b<k then _ else _;rw[if_neg aa];exact p3⟩
   ·have hb':if b<k then σ'.nl b else σ.nl b:=hb
    by_cases h:b<k
    ·rw[if_pos h] at hb';rw[f1 b h];exact hH'.nilp b hb'
    ·rw[if_neg h] at hb';rw[f2 b h];exact hH.nilp b hb'
   ·rcases atf b x hx with⟨hb,hx'⟩|⟨hb,hx'⟩
    ·rw[f1 b hb] at hs;obtain⟨cs,p1,p2,p3⟩:=hH'.blk b x c o hx' hs;exact⟨cs,p1,p2,p3.mono hle⟩
    ·rw[f2 b aa] at hs;obtain⟨cs,p1,p2,p3⟩:=hH.blk b x c o hx' hs;exact⟨cs,p1,by rw[cl b x c o hb hx' hs];exact p2,p3.of λi hi hv=>val (h2 b x hb hx' i hi) hv⟩
   ·rcases atf b x hx with⟨hb,hx'⟩|⟨hb,hx'⟩
    ·exact hH'.szs b x hx'
    ·exact hH.szs b x hx'
   ·rcases atf b x k1 with⟨hb,hx⟩|⟨hb,hx⟩<;>rcases atf b' x' k2 with⟨hb',hx'⟩|⟨hb',hx'⟩
    ·rw[f1 b hb] at k3;rw[f1 b' hb'] at k4;exact hH'.inj b b' x x' c o o' hx hx' k3 k4
    ·rw[f1 b hb] at k3;rw[f2 b' aa] at k4;exact(old b x c o hb hx k3 b' x' o' hb' hx' k4).elim
    ·rw[f2 b aa] at k3;rw[f1 b' hb'] at k4;exact(old b' x' c o' hb' hx' k4 b x o hb hx k3).elim
    ·rw[f2 b aa] at k3;rw[f2 b' aa] at k4;exact hH.inj b b' x x' c o o' hx hx' k3 k4
   ·obtain⟨cs,t,fr,p1,p2,p3⟩:=hH'.frz c fs hf;refine⟨cs,t,fr,p1,p2,λb x o hx hs=>?_⟩;rcases atf b x hx with⟨hb,hx'⟩|⟨hb,hx'⟩
    ·rw[f1 b hb] at hs;exact p3 b x o hx' hs
    ·rw[f2 b aa] at hs;obtain⟨hc,hu⟩:=un b x c o hb hx' hs;have hf':σ'.fz c=some fs:=hf;rw[hA.fz c hc hu] at hf';obtain⟨_,_,_,_,_,m3⟩:=hH.frz c fs hf';exact m3 b x o hx' hs
   ·rw[qu,ko];have:=hH'.ob.o;rw[ko] at this;exact .none this
  ·refine⟨hA.bel,⟨hA.fzb.eq,hA.fzb.le⟩,λb c o hs=>?_,λc hc hn=>?_,λc hc hn=>?_,λb x hb hs=>?_⟩
   ·by_cases hb:b<k
    ·rw[f1 b hb] at hs;rcases hA.im b c o hs with⟨b0,o0,h0⟩|hh
     ·by_cases hb0:b0<k
      ·rw[s1 b0 hb0] at h0;exact .inl ⟨b0,o0,h0⟩
      ·rw[s1n b0 hb0] at h0;cases h0
     ·exact .inr hh
    ·rw[f2 b hb] at hs;exact .inl ⟨b,o,hs⟩
   ·exact hA.same c hc (λb o hs=>by
     by_cases hb:b<k
     ·exact arc
     ·rw[s1n b hb] at hs;cases hs)
   ·exact hA.fz c hc (λb o hs=>by
     by_cases hb:b<k
     ·exact arc
     ·rw[s1n b hb] at hs;cases hs)
   ·simp only[ap5,decide_eq_true_eq] at hb;by_cases hbk:b<k
    ·rw[f1 b hbk];exact hA.kp b x (hb.resolve_right aa) (by rw[s1 b hbk];exact hs)
    ·rw[f2 b hbk];exact hs
 refine(h.2 B σ1 w args' hH1 hargs).mono λen w' hp=>?_;cases en with
 |returned u=>
  obtain⟨v,H',σ',q,q1,q2,q3⟩:=hp;obtain⟨ob',bl1',rfl,hl,hQ'⟩:=hQ v H' q;obtain⟨σf,m1,m2,m3,m4⟩:=fin ob' bl1' σ' w' hl q2 q3;exact⟨v,e2,_,σf,hQ',q1.mono m1,m2,m3,m4⟩
 |panicked c=>
  obtain⟨H',σ',q,q2,q3⟩:=hp;refine⟨fi [],⟨λ_=>none,λ_=>False,σ'.fz⟩,hE c H' q,HR.emptyAt w' (apj hH.hB q3.bel.size) (λc fs hf=>?_),q3.bel,⟨q3.fzb.eq,q3.fzb.le⟩,λb c o h=>(by cases h),λc hc hn=>?_,λc hc hn=>?_,λb x hb _=>(by cases hb)⟩
  ·obtain⟨cs,t,fr,p1,p2,_⟩:=q2.frz c fs hf;exact⟨cs,t,fr,p1,p2⟩
  ·exact q3.same c hc (λb o hs=>by
    by_cases hb:b<k
    ·exact arc
    ·rw[s1n b hb] at hs;cases hs)
  ·exact q3.fz c hc (λb o hs=>by
    by_cases hb:b<k
    ·exact arc
    ·rw[s1n b hb] at hs;cases hs)
 |outgrown=>exact hp.elim
theorem Dp{Q:AV->AH->Prop}{F:List AV}(h:gw P g F rs)(hQ:Q (gD (iG (gF H []) rs).1) (iG (gF H []) rs).2)(hcv:ja [] H args F:=by exact ja.same rfl)(hnx:H.next+9<2^40:=by simp only[go_sem,simprocAttr]):u5 P g args H Q:=qV [] hcv h hnx hQ
theorem iR{F:List AV}(h:gw P g F rs)(hQ:Q (gD (iG (gF H []) rs).1) e (iG (gF H []) rs).2)(hcv:ja [] H args F:=by exact ja.same rfl)(hnx:H.next+9<2^40:=by simp only[go_sem,simprocAttr]):jr P n kk g args e H Q E:=pj [] hcv h hnx hQ
end
def Aa(B:Nat)(σ:Sg)(w:World)(Q:AV->AH->Prop):Ending->World->Prop
 |.returned u,w'=>∃v H' σ',Q v H'/\VR σ' v u/\HR B σ' H' w'/\Below B w w'/\ov B σ σ'
 |_,_=>False
def u6(P:Program)(g:FuncId)(args:List AV)(H:AH)(Q:AV->AH->Prop):Prop:=
 ui P g/\∀(B:Nat) (σ:Sg) (w:World) (args':Array Value),HR B σ H w->gn σ args args'.toList->Calls P g args' w (Aa B σ w Q)
theorem u6.mono{P:Program}{g:FuncId}{args:List AV}{H:AH}{Q Q':AV->AH->Prop}(h:u6 P g args H Q)(hq:∀v H',Q v H'->Q' v H'):u6 P g args H Q':=
 ⟨h.1,λB σ w args' hH ha=>(h.2 B σ w args' hH ha).mono λe w' hp=>by
  cases e with
  |returned u=>obtain⟨v,H',σ',q,r⟩:=hp;exact⟨v,H',σ',hq _ _ q,r⟩
  |panicked c=>exact hp
  |outgrown=>exact hp⟩
theorem D5{P:Program}[IdleOK P](hm:P.follows .mixedOrders=true){f:FuncId}{hints:gN}{F:AF}(hF:fB P hints f=some F){args:List AV}(hlen:args.length<=F.nt){H:AH}{Q:AV->AH->Prop}
  (h:GA P F.nt hints F.code (oh args) H (pq F.res Q)):u6 P f args H Q:=by
 unfold fB at hF;obtain⟨fn,h1,hF⟩:=bM.1 hF;obtain⟨c,h3,hF⟩:=bM.1 hF;obtain⟨ac,h5,hF⟩:=bM.1 hF;obtain⟨r,h6,hF⟩:=bM.1 hF;split at hF;rotate_left
 ·cases hF
 rename_i hq;cases hF;refine⟨⟨fn,h1,hq.1,by rw[h3];rfl⟩,λB σ w args' hH ha=>?_⟩
 refine lW h1 h3 ?_;refine h c h5 B σ _ w _ (sw ha hlen hq.2) hH (λc a w hq=>hq.elim) (λx e' H' a' w' σ' q q1 q2 q3 q4=>?_);have key:∀l,lK e' H' r=some l->Q (gD l) H'->(∀d ∈ a'.defers,u7 d)/\∃v,(results fn a'.tmps).run P w'= .ok v w'/\Aa B σ w Q (.returned v) w':=by
  intro l hl hQ;obtain⟨us,g1,g2⟩:=ra q1.er q2 _ _ _ h6 hl;have hres:∃u,(results fn a'.tmps).run P w'= .ok u w'/\VR σ' (gD l) u:=by
   have hsem:results fn a'.tmps=(do let vs<-fn.results.mapM (lN a');pure (if h:vs.size=1 then vs[0] else .tuple vs)):=by
    unfold results;rfl
   have hrun:(fn.results.mapM (lN a')).run P w'= .ok us.toArray w':=by
    simp[Array.mapM_eq_mapM_toList,g1]
   rw[hsem];simp only[Sem.run_bind,hrun,Result.andThen_ok,Sem.run_pure];refine⟨_,rfl,?_⟩;have hn:=g2.1
   match l,us,g2,hn with
   |[v],[u],g2,_=>exact g2.2 0 v rfl
   |[],[],_,_=>exact gn.nil.tup
   |v1::v2::l,u1::u2::us,g2,_=>exact g2.tup
  obtain⟨u,k1,k2⟩:=hres;exact⟨q1.er.df,u,k1,gD l,H',σ',hQ,k2,q2,q3,q4⟩
 have q':∃l,lK e' H' r=some l/\Q (gD l) H':=by
  cases x with
  |exit i=>exact q.elim
  |normal=>
   simp only[pq] at q;split at q
   ·exact aqR
   ·exact q.elim
  |ret=>
   simp only[pq] at q;split at q
   ·exact aqR
   ·exact q.elim
 obtain⟨l,hl,hQ⟩:=q';obtain⟨k1,v,k2,k3⟩:=key l hl hQ;have post:Leaves P fn a'.tmps (Aa B σ w Q) a'.defers .returning w':=mz k2 k3 _ k1;cases x with
 |exit i=>exact q.elim
 |normal=>exact post
 |ret=>exact post
section
variable {P:Program} {n:Nat} {hints:gN} {B:Nat} {ops:Array Oper} {Q:Exit->Act->World->Prop}
end
def PEk(e e2:Tr AV):Prop:=∀t v,e2.get t=some v->e.get t=some v/\v.pu 3=true
def am9(P:Program)(f:AX)(args:List AX)(dst:Option Nat)(Q':Tr AV->AH->Prop)(e1:Tr AV)(H1:AH):Prop:=
 ∃e2,PEk e1 e2/\∃g first cap vs,f.ev e1=some (.f g first cap)/\yP e1 args=some vs/\u6 P g (first++vs++cap) H1 (λv H'=>Q' (fQ e2 dst v) H')
section
variable {P:Program} {n:Nat} {hints:gN} {B:Nat} {ops:Array Oper} {Q:Exit->Act->World->Prop}
theorem tD:∀(l:List Oper) (l1 l2:List AO) {f:AX} {args:List AX} {dst:Option Nat} {σ:Sg} {e:Tr AV} {H:AH} {a:Act} {w:World} {Q':Tr AV->AH->Prop},mD P n ops l=some (l1++⟨dst,none,.cl f args⟩::l2)->nT P l1 e H (am9 P f args dst (λe' H'=>nT P l2 e' H' Q'))->EN n σ e a->HR B σ H w->∀{σb:Sg} {wb:World},ov B σb σ->Below B wb w->
  (∀e' H' a' w' σ',Q' e' H'->EN n σ' e' a'->HR B σ' H' w'->Below B wb w'->ov B σb σ'->Q .normal a' w')->wpList P ops Q l a w
 |[],l1,l2,f,args,dst,σ,e,H,a,w,Q',hl,hr,hE,h,σb,wb,hz,hb,hQ=>by
  simp only[mD,apn] at hl;exact absurd hl.symm ae
 |o::l,[],l2,f,args,dst,σ,e,H,a,w,Q',hl,hr,hE,h,σb,wb,hz,hb,hQ=>by
  simp only[mD,List.nil_append] at hl;obtain⟨x,hx,hl⟩:=bM.1 hl;obtain⟨r,hl2,hr2⟩:=apc.1 hl;cases hr2;unfold qa at hx;split at hx;rotate_left
  ·cases hx
  rename_i hd;obtain⟨g,hg,hx⟩:=bM.1 hx;obtain⟨k,hk,hx⟩:=apc.1 hx;cases hx;obtain⟨e2,hpe,g,first,cap,vs,hfe,hvs,⟨⟨fn,k1,k2,k3⟩,hcall⟩⟩:=hr
  unfold wpList;rw[iV hE.er hg (b:=true) rfl,if_pos rfl];refine .inl ?_;unfold pr at hk;split at hk
  ·cases hk
  unfold t0 at hk;have nap:∀o:Op,(rB P o).map AK.ap=some (.cl f args)->False:=λo ho=>by
   obtain⟨_,_,h2⟩:=apc.1 ho;cases h2
  split at hk
  ·split at hk
   ·obtain⟨_,_,h2⟩:=apc.1 hk;cases h2
   ·exact(nap _ hk).elim
  ·rename_i c ho;split at hk
   ·rename_i f0 hf;obtain⟨f',hf',hc⟩:=bM.1 hk;obtain⟨l',hl3,h2⟩:=apc.1 hc;cases h2;obtain⟨c1,c2,hev,g1,g2⟩:=FF hf' hE.er hfe;have hargs:gn σ (first++vs++cap) (c1++c.args.map a.eval++c2).toList:=by
     have:=(g1.app (nf hl3 hE.er hvs)).app g2;simpa using this
    have hcl:=hcall B σ w _ h hargs;unfold Oper.wp execOp;rw[ho];simp only[Sem.run_bind,resolve,hf,hev,Deferred.ofValue,Sem.run_pure,Result.andThen_ok,invoke,mU k1 k2 k3,Oper.upon];refine Calls.mono hcl (λen w' hp=>?_);cases en with
    |returned u=>
     obtain⟨v,H',σ',q0,q1,q2,q3,q4⟩:=hp;have hle:σ.bare.le σ':=⟨λb x hx=>(by cases hx),λb hb=>False.elim hb,λc fs hf=>q4.le c fs hf⟩
     have hE2:EN n σ' e2 a:=⟨⟨hE.er.df,λt v hv=>((hE.er.get t v (hpe t v hv).1).pure 3 (hpe t v hv).2).mono hle⟩,hE.sz,hE.sm⟩;exact sE l l2 hl2 q0 (hE2.put q1 hd) q2 (hz.trans q4) (λe' H'' a' w'' σ'' p0 p1 p2 p3 p4=>hQ e' H'' a' w'' σ'' p0 p1 p2 ((hb.trans q3).trans p3.bel) p4)
    |panicked c=>exact hp.elim
    |outgrown=>exact hp.elim
   ·exact(nap _ hk).elim
  ·exact(nap _ hk).elim
 |o::l,y::l1,l2,f,args,dst,σ,e,H,a,w,Q',hl,hr,hE,h,σb,wb,hz,hb,hQ=>by
  simp only[mD,List.cons_append] at hl;obtain⟨x,hx,hl⟩:=bM.1 hl;obtain⟨r,hl2,hr2⟩:=apc.1 hl;cases hr2;unfold qa at hx;split at hx;rotate_left
  ·cases hx
  rename_i hd;obtain⟨g,hg,hx⟩:=bM.1 hx;obtain⟨k,hk,rfl⟩:=apc.1 hx;simp only[nT] at hr;unfold wpList;split at hr;rotate_left
  ·exact hr.elim
  rename_i t hw;cases t;rotate_left
  ·replace hr:=hr.1 rfl
   rw[iV hE.er hg hw,if_pos rfl];refine .inl (qF hk hE.er h hr λv H1 u w1 σ1 q0 q1 q2 q3 q4 _=>?_);exact tD l l1 l2 hl2 q0 ((hE.mono q3.ext).put q1 hd) q2 (hz.trans q4) (hb.trans q3.bel) hQ
  ·replace hr:=hr.2 rfl
   rw[iV hE.er hg hw,if_neg ae];exact tD l l1 l2 hl2 hr (hE.put (u:=undef) (.tup rfl (λi v h=>by simp at h)) hd) h hz hb hQ
end
theorem GA.regx{P:Program}{n:Nat}{hints:gN}{e:Tr AV}{H:AH}{Q:AE->Tr AV->AH->Prop}{l0 l1 l2:List AO}{f:AX}{args:List AX}{dst:Option Nat}(hl0:l0=l1++⟨dst,none,.cl f args⟩::l2)(h:nT P l1 e H (am9 P f args dst (λe' H'=>nT P l2 e' H' (λe' H'=>Q .normal e' H')))):GA P n hints (.reg l0) e H Q:=λc hc B σ a w R hE hH hp hR=>by
 subst hl0;obtain⟨id,ops,rfl,hl⟩:=gJ hc;exact wp_region_list (tD _ _ _ hl h hE hH (.refl _ σ) (Below.refl _ _) (λe' H' a' w' σ' q k1 k2 k3 k4=>hR .normal e' H' a' w' σ' q k1 k2 k3 k4))
theorem PEk.of{e:Tr AV}:∀{L:List (Nat×AV)},(∀p ∈ L,p.1<1000000/\e.get p.1=some p.2/\p.2.pu 3=true)->PEk e (fu L)
 |[],_,t,v,h=>by rw[lB] at h;cases h
 |(d,x)::L,hL,t,v,h=>by
  obtain⟨h1,h2,h3⟩:=hL (d,x) (aps ..);rw[kT h1] at h;by_cases e:t=d
  ·rw[if_pos e] at h;cases h;subst e;exact⟨h2,h3⟩
  ·rw[if_neg e] at h;exact PEk.of (λp hp=>hL p (apx _ hp)) t v h
end Go.Proofs.YtdpkgnmmikebdaaGreat