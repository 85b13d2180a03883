/- A part of the proof of CostGrows: EvS Tab EvMh EvZ SnA EvX. No condition. -/
import Derived.Test.YtdpkgnmmikebdaaGreatGf14
set_option linter.unusedSimpArgs false
set_option linter.unusedVariables false
set_option linter.constructorNameAsVariable false
set_option maxRecDepth 100000
set_option maxHeartbeats 4000000
namespace Go.Proofs.YtdpkgnmmikebdaaGreat
open Go.RowKit
/-! what follows an operation,closed till its value is there-/
def Ci(P:Program)(l:List AO)(e:Tr AV)(d:Option Nat)(Q:Tr AV->AH->Prop)(v:AV)(H:AH):Prop:=gw P l (aK e d v) H Q
theorem za(P:Program)(l:List AO)(e:Tr AV)(d:Option Nat)(Q:Tr AV->AH->Prop)(v:AV)(H:AH):Ci P l e d Q v H=gw P l (aK e d v) H Q:=id rfl
theorem zA(P:Program)(e:Tr AV)(H:AH)(Q:Tr AV->AH->Prop):gw P [] e H Q=Q e H:=id rfl
def W6(P:Program)(d:Option Nat)(k:AK)(l:List AO)(e:Tr AV)(H:AH)(Q:Tr AV->AH->Prop):Option Bool->Prop
 |some true=>gK P e H k (Ci P l e d Q)
 |some false=>gw P l (aK e d (.tup [])) H Q
 |none=>False
theorem zv(P:Program)(d:Option Nat)(k:AK)(l:List AO)(e:Tr AV)(H:AH)(Q:Tr AV->AH->Prop):W6 P d k l e H Q (some true)=gK P e H k (Ci P l e d Q):=id rfl
theorem wc(P:Program)(d:Option Nat)(k:AK)(l:List AO)(e:Tr AV)(H:AH)(Q:Tr AV->AH->Prop):W6 P d k l e H Q (some false)=gw P l (aK e d (.tup [])) H Q:=id rfl
theorem wv(P:Program)(d:Option Nat)(g:Option (Nat×Bool))(k:AK)(l:List AO)(e:Tr AV)(H:AH)(Q:Tr AV->AH->Prop):gw P (⟨d,g,k⟩::l) e H Q=W6 P d k l e H Q (bn e g):=by
 show(match bn e g with
  |some t=>(t=true->gK P e H k (Ci P l e d Q))/\(t=false->gw P l (aK e d (.tup [])) H Q)
  |none=>False)=_
 cases bn e g with
 |none=>rfl
 |some t=>cases t<;>simp[W6]
def rK(r:Option (AV×AH))(Q:AV->AH->Prop):Prop:=match r with
  |some (v,H')=>Q v H'
  |none=>False
theorem tv(v:AV)(H:AH)(Q:AV->AH->Prop):rK (some (v,H)) Q=Q v H:=id rfl
theorem tw(Q:AV->AH->Prop):rK none Q=False:=id rfl
theorem Wu(P:Program)(e:Tr AV)(H:AH)(x:AP)(Q:AV->AH->Prop):gK P e H (.ap x) Q=rK (x.run e H) Q:=id rfl
def VH(neg:Bool)(H:AH)(Q:AV->AH->Prop):Option AV->Prop
 |some (.fs _ n _)=>∀t,(t=(!neg)->n=0)->Q (.b t) H
 |some .sl0=>∀t,Q (.b t) H
 |_=>False
theorem Ws(P:Program)(e:Tr AV)(H:AH)(neg:Bool)(x:AX)(Q:AV->AH->Prop):gK P e H (.sn neg x) Q=VH neg H Q (x.ev e):=id rfl
theorem Ip(neg:Bool)(H:AH)(Q:AV->AH->Prop)(esz n:Nat)(row:Nat->Nat->AV):VH neg H Q (some (.fs esz n row))=∀t,(t=(!neg)->n=0)->Q (.b t) H:=rfl
theorem Bw(neg:Bool)(H:AH)(Q:AV->AH->Prop):VH neg H Q (some .sl0)=∀t,Q (.b t) H:=id rfl
theorem Wt(P:Program)(e:Tr AV)(H:AH)(f:AX)(args:List AX)(Q:AV->AH->Prop):gK P e H (.cl f args) Q=match f.ev e,sf e args with
  |some (.f g first cap),some vs=>ks P g (first++vs++cap) H Q
  |_,_=>False:=id rfl
def sU(P:Program)(H0:AH)(m:Nat)(nc:Bool)(l:List (Nat×AO))(e:Tr AV)(d:Option Nat)(Q:Tr AV->AH->Prop)(v:AV)(H:AH):Prop:=ff P H0 m nc l (aK e d v) H Q
theorem zc(P:Program)(H0:AH)(m:Nat)(nc:Bool)(l:List (Nat×AO))(e:Tr AV)(d:Option Nat)(Q:Tr AV->AH->Prop)(v:AV)(H:AH):sU P H0 m nc l e d Q v H=ff P H0 m nc l (aK e d v) H Q:=id rfl
def uq(P:Program)(H0:AH)(m:Nat)(nc:Bool)(k:Nat)(l:List (Nat×AO))(e:Tr AV)(d:Option Nat)(Q:Tr AV->AH->Prop)(v:AV)(H:AH):Prop:=(k=3\/m<=H.low)/\ff P H0 m nc l (aK e d v) H Q
theorem v4(P:Program)(H0:AH)(m:Nat)(nc:Bool)(k:Nat)(l:List (Nat×AO))(e:Tr AV)(d:Option Nat)(Q:Tr AV->AH->Prop)(v:AV)(H:AH):uq P H0 m nc k l e d Q v H=((k=3\/m<=H.low)/\ff P H0 m nc l (aK e d v) H Q):=id rfl
theorem zB(P:Program)(H0:AH)(m:Nat)(nc:Bool)(e:Tr AV)(H:AH)(Q:Tr AV->AH->Prop):ff P H0 m nc [] e H Q=Q e H:=id rfl
def W7(P:Program)(H0:AH)(m:Nat)(nc:Bool)(k:Nat)(d:Option Nat)(a:AK)(l:List (Nat×AO))(e:Tr AV)(H:AH)(Q:Tr AV->AH->Prop):Option Bool->Prop
 |some true=>if k=1 then bP H0 m nc e a/\gK P e H a (sU P H0 m nc l e d Q)
    else if k=2 then cD a=true/\gK P e H a (sU P H0 m nc l e d Q)
    else gK P e H a (uq P H0 m (nc&& !eH a) k l e d Q)
 |some false=>(k=0->m<=H.low)/\ff P H0 m nc l (aK e d (.tup [])) H Q
 |none=>False
theorem zw(P:Program)(H0:AH)(m:Nat)(nc:Bool)(k:Nat)(d:Option Nat)(a:AK)(l:List (Nat×AO))(e:Tr AV)(H:AH)(Q:Tr AV->AH->Prop):W7 P H0 m nc k d a l e H Q (some true)=if k=1 then bP H0 m nc e a/\gK P e H a (sU P H0 m nc l e d Q)
    else if k=2 then cD a=true/\gK P e H a (sU P H0 m nc l e d Q)
    else gK P e H a (uq P H0 m (nc&& !eH a) k l e d Q):=id rfl
theorem wg(P:Program)(H0:AH)(m:Nat)(nc:Bool)(k:Nat)(d:Option Nat)(a:AK)(l:List (Nat×AO))(e:Tr AV)(H:AH)(Q:Tr AV->AH->Prop):W7 P H0 m nc k d a l e H Q (some false)=((k=0->m<=H.low)/\ff P H0 m nc l (aK e d (.tup [])) H Q):=id rfl
theorem ww(P:Program)(H0:AH)(m:Nat)(nc:Bool)(k:Nat)(d:Option Nat)(g:Option (Nat×Bool))(a:AK)(l:List (Nat×AO))(e:Tr AV)(H:AH)(Q:Tr AV->AH->Prop):ff P H0 m nc ((k,⟨d,g,a⟩)::l) e H Q=W7 P H0 m nc k d a l e H Q (bn e g):=by
 show(match bn e g with
  |some t=>
   (t=true->if k=1 then bP H0 m nc e a/\gK P e H a (sU P H0 m nc l e d Q)
    else if k=2 then cD a=true/\gK P e H a (sU P H0 m nc l e d Q)
    else gK P e H a (uq P H0 m (nc&& !eH a) k l e d Q))/\
   (t=false->(k=0->m<=H.low)/\ff P H0 m nc l (aK e d (.tup [])) H Q)
  |none=>False)=_
 cases bn e g with
 |none=>rfl
 |some t=>cases t<;>simp[W7]
def um(P:Program)(m:Nat)(T:AT)(e:Tr AV)(d:Option Nat)(Q:Tr AV->AH->Prop)(v:AV)(H:AH):Prop:=m<=H.low/\eD P m T (aK e d v) H Q
theorem vU(P:Program)(m:Nat)(T:AT)(e:Tr AV)(d:Option Nat)(Q:Tr AV->AH->Prop)(v:AV)(H:AH):um P m T e d Q v H=(m<=H.low/\eD P m T (aK e d v) H Q):=id rfl
theorem ws(P:Program)(m:Nat)(e:Tr AV)(H:AH)(Q:Tr AV->AH->Prop):eD P m .fin e H Q=Q e H:=id rfl
theorem sY(P:Program)(m:Nat)(e:Tr AV)(H:AH)(Q:Tr AV->AH->Prop):eD P m .none e H Q=True:=id rfl
def W5(P:Program)(m:Nat)(d:Option Nat)(a:AK)(r:AT)(e:Tr AV)(H:AH)(Q:Tr AV->AH->Prop):Option Bool->Prop
 |some true=>gK P e H a (um P m r e d Q)
 |some false=>m<=H.low/\eD P m r (aK e d (.tup [])) H Q
 |none=>False
theorem zt(P:Program)(m:Nat)(d:Option Nat)(a:AK)(r:AT)(e:Tr AV)(H:AH)(Q:Tr AV->AH->Prop):W5 P m d a r e H Q (some true)=gK P e H a (um P m r e d Q):=id rfl
theorem wa(P:Program)(m:Nat)(d:Option Nat)(a:AK)(r:AT)(e:Tr AV)(H:AH)(Q:Tr AV->AH->Prop):W5 P m d a r e H Q (some false)=(m<=H.low/\eD P m r (aK e d (.tup [])) H Q):=id rfl
theorem wt(P:Program)(m:Nat)(d:Option Nat)(g:Option (Nat×Bool))(a:AK)(r more:AT)(e:Tr AV)(H:AH)(Q:Tr AV->AH->Prop):eD P m (.alt ⟨d,g,a⟩ r more) e H Q=(W5 P m d a r e H Q (bn e g)/\eD P m more e H Q):=by
 show((match bn e g with
   |some t=>(t=true->gK P e H a (um P m r e d Q))/\(t=false->m<=H.low/\eD P m r (aK e d (.tup [])) H Q)
   |none=>False)/\eD P m more e H Q)=_
 cases bn e g with
 |none=>rfl
 |some t=>cases t<;>simp[W5]
theorem zY(H0:AH)(m:Nat)(nc:Bool)(e:Tr AV)(n:Nat)(row:Bool)(x:AX):bP H0 m nc e (.ap (.ld n row x))=match x.ev e with
  |some (.p b _)=>b<m/\(H0.at b).isSome=true
  |some (.fp _ _ _)=>nc=true
  |_=>False:=id rfl
theorem IA(k:IntKind)(a b:Int):dF (binOp .lss 0 (.int k a) (.int k b))=some (.b (decide (a<b))):=by cases k<;>rfl
theorem IB(k:IntKind)(a b:Int):dF (binOp .leq 0 (.int k a) (.int k b))=some (.b (decide (a<=b))):=by cases k<;>rfl
theorem IC(k:IntKind)(a b:Int):dF (binOp .gtr 0 (.int k a) (.int k b))=some (.b (decide (b<a))):=by cases k<;>rfl
theorem IE(k:IntKind)(a b:Int):dF (binOp .geq 0 (.int k a) (.int k b))=some (.b (decide (b<=a))):=by cases k<;>rfl
theorem IG(k:IntKind)(a b:Int):dF (binOp .eql 0 (.int k a) (.int k b))=some (.b (decide (a=b))):=by
 cases k<;>(show some (AV.b (a==b))=_;congr)
theorem Iy(k:IntKind)(a b:Int):dF (binOp .neq 0 (.int k a) (.int k b))=some (.b (!decide (a=b))):=by
 cases k<;>(show some (AV.b (a != b))=_;congr)
theorem II(k:IntKind)(a b:Int):dF (binOp .add 0 (.int k a) (.int k b))=some (.n k (k.wrap (a+b))):=by cases k<;>rfl
theorem It(k:IntKind)(a b:Int):dF (binOp .sub 0 (.int k a) (.int k b))=some (.n k (k.wrap (a-b))):=by cases k<;>rfl
theorem Iz(k:IntKind)(a b:Int):dF (binOp .mul 0 (.int k a) (.int k b))=some (.n k (k.wrap (a*b))):=by cases k<;>rfl
theorem Ix(b:Bool):dF (Op.unary .not (.bool b))=some (.b (!b)):=rfl
theorem aj{x:Int}(h: -9223372036854775808<=x/\x<=9223372036854775807):IntKind.wrap .i64 x=x:=by
 rw[IntKind.wrap_i64];omega
theorem Bc{x:Int}(h:0<=x/\x<=4294967295):IntKind.wrap .u32 x=x:=by
 rw[IntKind.wrap_u32];omega
theorem uV(e:Tr AV):bn e none=some true:=rfl
theorem Wk.arg(n:Nat)(args:List AV)(H:AH)(h:args.length<100000):Wk n (fJ args) H (az (aE 0 args)) H:=by
 intro B σ a w hE hH
 refine⟨σ,⟨⟨hE.er.df,λt v hv=>hE.er.get t v ?_⟩,hE.sz,hE.sm⟩,hH,.refl _ _⟩
 rw[ni _ _ _ (by omega)] at hv
 rw[fI _ _ (by omega)]
 split at hv
 ·simpa using hv
 ·cases hv
theorem o7{x:AB}{i:Nat}(h:i<1000000)(v:AV)(j:Nat):(x.set i v).get j=if j=i then v else x.get j:=AB.get_set x i j v (by omega)
theorem zk(n esz ty:Nat)(d:Nat->AV)(l:List AV)(o lv:Bool)(z i:Nat)(h:l.length<1000000):AB.get ⟨n,esz,ty,d,fJ l,o,lv,z⟩ i=l[i]?.getD (d i):=by
 simp only[AB.get]
 rw[fI l i (by omega)]
theorem get_nil(n esz ty:Nat)(d:Nat->AV)(o lv:Bool)(z i:Nat):AB.get ⟨n,esz,ty,d,.nil,o,lv,z⟩ i=d i:=id rfl
theorem Wk.nil{n:Nat}{e:Tr AV}{H:AH}(t esz ty:Nat)(ht:e.get t=some .sl0)(hs:t<1000000)(hn:H.next<1000000):Wk n e H (aK e (some t) (.os H.next 0)) (H.new (gp esz ty)):=by
 intro B σ a w hE hH
 have hle:=σ.le_extNil H.next
 refine⟨σ.extNil H.next,⟨⟨hE.er.df,λt' v hv=>?_⟩,hE.sz,hE.sm⟩,hH.placeNil rfl (λ_ _ h=>h) (by omega) rfl rfl rfl ⟨rfl,rfl⟩,.of_eq rfl⟩
 simp only[aK] at hv
 rw[Tr.get_set 48 e t _ t' (by omega)] at hv
 by_cases h:t'=t
 ·subst h
  rw[if_pos rfl] at hv
  cases hv
  have:=hE.er.get t' _ ht
  generalize a.tmps.getD t' undef=u at this
  cases this
  exact .os0 (σ:=σ.extNil H.next) (Or.inl rfl) _
 ·rw[if_neg h] at hv
  exact(hE.er.get t' v hv).mono hle
theorem u7(ty esz n z:Nat)(row:Nat->Nat->AV):(ai ty esz n z row).size=n*esz:=id rfl
theorem xN(ty esz n z:Nat)(row:Nat->Nat->AV):(ai ty esz n z row).esz=esz:=id rfl
theorem BF(ty esz n z:Nat)(row:Nat->Nat->AV):(ai ty esz n z row).ty=ty:=id rfl
theorem xL(ty esz n z:Nat)(row:Nat->Nat->AV):(ai ty esz n z row).opn=true:=id rfl
theorem u9(ty esz n z:Nat)(row:Nat->Nat->AV):(ai ty esz n z row).live=true:=id rfl
theorem xM(ty esz n z:Nat)(row:Nat->Nat->AV):(ai ty esz n z row).fzn=z:=id rfl
theorem vy(esz ty:Nat):(gp esz ty).size=0:=id rfl
theorem yk(esz ty:Nat):(gp esz ty).esz=esz:=id rfl
theorem BU(esz ty:Nat):(gp esz ty).ty=ty:=id rfl
theorem yi(esz ty:Nat):(gp esz ty).opn=true:=id rfl
theorem vz(esz ty:Nat):(gp esz ty).live=true:=id rfl
theorem yj(esz ty:Nat):(gp esz ty).fzn=0:=id rfl
theorem cL{l:List AB}(h:l.length<1000000)(x:AB)(b:Nat):(ah (x::l)).at b=if b=l.length then(if x.live then some x else none) else(ah l).at b:=by
 rw[cP,dX (by rw[aV];exact h),aV]
theorem qU:∀l:List AB,(ah l).low=2^40
 |[]=>rfl
 |x::l=>qU l
theorem vM(esz ty:Nat)(l:List AV):(ae esz ty l).size=l.length:=id rfl
theorem yJ(esz ty:Nat)(l:List AV):(ae esz ty l).esz=esz:=id rfl
theorem B5(esz ty:Nat)(l:List AV):(ae esz ty l).ty=ty:=id rfl
theorem yH(esz ty:Nat)(l:List AV):(ae esz ty l).opn=false:=id rfl
theorem vN(esz ty:Nat)(l:List AV):(ae esz ty l).live=true:=id rfl
theorem yI(esz ty:Nat)(l:List AV):(ae esz ty l).fzn=0:=id rfl
theorem We(x:Bool):AV.one (.b x)=true:=id rfl
theorem CN(x:Bool):AV.cells (.b x)=[.b x]:=id rfl
theorem Wc(k:IntKind)(x:Int):AV.one (.n k x)=true:=id rfl
theorem CL(k:IntKind)(x:Int):AV.cells (.n k x)=[.n k x]:=id rfl
theorem Wa(x:ByteArray):AV.one (.s x)=true:=id rfl
theorem CJ(x:ByteArray):AV.cells (.s x)=[.s x]:=id rfl
theorem Jl:AV.one (.p0)=true:=id rfl
theorem Ac:AV.cells (.p0)=[.p0]:=id rfl
theorem Wb(b o:Nat):AV.one (.p b o)=true:=id rfl
theorem CK(b o:Nat):AV.cells (.p b o)=[.p b o]:=id rfl
theorem BP:AV.one (.sl0)=true:=id rfl
theorem wP:AV.cells (.sl0)=[.sl0]:=id rfl
theorem Jk(b o l c:Nat):AV.one (.sl b o l c)=true:=id rfl
theorem Ab(b o l c:Nat):AV.cells (.sl b o l c)=[.sl b o l c]:=id rfl
theorem Jp:AV.one (.f0)=true:=id rfl
theorem Ag:AV.cells (.f0)=[.f0]:=id rfl
theorem Wd(g:FuncId)(l1 l2:List AV):AV.one (.f g l1 l2)=true:=id rfl
theorem CM(g:FuncId)(l1 l2:List AV):AV.cells (.f g l1 l2)=[.f g l1 l2]:=id rfl
theorem Jq(v:Value):AV.one (.cv v)=true:=id rfl
theorem Ah(v:Value):AV.cells (.cv v)=[.cv v]:=id rfl
theorem Jn(z n:Nat)(r:Nat->Nat->AV):AV.one (.fs z n r)=true:=id rfl
theorem Ae(z n:Nat)(r:Nat->Nat->AV):AV.cells (.fs z n r)=[.fs z n r]:=id rfl
theorem Jo(z:Nat)(r:Nat->AV)(j:Nat):AV.one (.fp z r j)=true:=id rfl
theorem Af(z:Nat)(r:Nat->AV)(j:Nat):AV.cells (.fp z r j)=[.fp z r j]:=id rfl
theorem Jm(b n:Nat):AV.one (.os b n)=true:=id rfl
theorem Ad(b n:Nat):AV.cells (.os b n)=[.os b n]:=id rfl
theorem wQ(l:List AV):AV.cells (.agg l)=l:=id rfl
def AB.fr(x:AB):AB:={x with fzn:=max x.size x.fzn}
theorem An{H:AH}{b:Nat}(h:b<1000000)(b':Nat):(H.mark b).at b'=if b'=b then(H.at b).map AB.fr else H.at b':=Ao h b'
theorem JW(x:AB)(i:Nat):x.fr.get i=x.get i:=id rfl
theorem Cq(x:AB):x.fr.size=x.size:=id rfl
theorem JY(x:AB):x.fr.esz=x.esz:=id rfl
theorem Wx(x:AB):x.fr.ty=x.ty:=id rfl
theorem JV(x:AB):x.fr.opn=x.opn:=id rfl
theorem Cr(x:AB):x.fr.live=x.live:=id rfl
theorem JX(x:AB):x.fr.fzn=max x.size x.fzn:=id rfl
def sP(esz ty:Nat)(l:List AV):AB:=⟨l.length,esz,ty,λ_=> .u,fJ l,false,true,l.length⟩
theorem vJ(esz ty:Nat)(l:List AV):(sP esz ty l).size=l.length:=id rfl
theorem yG(esz ty:Nat)(l:List AV):(sP esz ty l).esz=esz:=id rfl
theorem B4(esz ty:Nat)(l:List AV):(sP esz ty l).ty=ty:=id rfl
theorem yD(esz ty:Nat)(l:List AV):(sP esz ty l).opn=false:=id rfl
theorem vL(esz ty:Nat)(l:List AV):(sP esz ty l).live=true:=id rfl
theorem yF(esz ty:Nat)(l:List AV):(sP esz ty l).fzn=l.length:=id rfl
theorem yE(esz ty:Nat)(l:List AV)(i:Nat)(h:l.length<1000000):(sP esz ty l).get i=l[i]?.getD .u:=jU esz ty l i h
theorem ck.get{M:List Nat}{H:AH}:∀{l l':List AV},ck M H l l'->l.length=l'.length/\∀(i:Nat) (v v':AV),l[i]? =some v->l'[i]? =some v'->Cv M H v v'
 |[],[],_=>⟨rfl,λi v v' h=>by simp at h⟩
 |[],_::_,h=>h.elim
 |_::_,[],h=>h.elim
 |x::l,x'::l',h=>by
  obtain⟨h1,h2⟩:=h
  obtain⟨e1,e2⟩:=h2.get
  refine⟨by simp[e1],λi v v' hv hv'=>?_⟩
  cases i with
  |zero=>simp at hv hv';subst hv;subst hv';exact h1
  |succ i=>exact e2 i v v' (by simpa using hv) (by simpa using hv')
theorem Cv.fn{M:List Nat}{H:AH}{g:FuncId}{l1 l2 l1' l2':List AV}(h1:ck M H l1 l1')(h2:ck M H l2 l2'):Cv M H (.f g l1 l2) (.f g l1' l2'):= .f h1.get.1 h2.get.1 h1.get.2 h2.get.2
theorem Cv.box{M:List Nat}{H:AH}{b:Nat}{x:AB}{l:List AV}(hm:M.contains b=true)(hx:H.at b=some x)(hs:x.size=l.length)(h0:0<l.length)(hg:∀j,j<l.length->x.get j=l[j]?.getD .u)(hc:l.all AV.cell=true):Cv M H (.p b 0) (.fp l.length (λj=>l[j]?.getD .u) 0):=
 .p (o:=0) (j:=0) (by simpa using hm) hx (by omega) (by omega) (λq hq=>by rw[Nat.zero_add];exact hg q hq) (λq hq=>by
  rw[List.getElem?_eq_getElem hq]
  exact List.all_eq_true.1 hc _ (List.getElem_mem hq))
theorem app_size(x:AB)(o:Nat)(s:dZ):(x.app o s).size=o+s.len:=AB.app_size x o s
theorem CT(x:AB)(o:Nat)(s:dZ):(x.app o s).esz=x.esz:=(AB.app_rest x o s).1
theorem Km(x:AB)(o:Nat)(s:dZ):(x.app o s).ty=x.ty:=(AB.app_rest x o s).2.1
theorem CR(x:AB)(o:Nat)(s:dZ):(x.app o s).opn=true:=(AB.app_rest x o s).2.2.1
theorem Ar(x:AB)(o:Nat)(s:dZ):(x.app o s).live=true:=(AB.app_rest x o s).2.2.2.1
theorem CS(x:AB)(o:Nat)(s:dZ):(x.app o s).fzn=x.fzn:=(AB.app_rest x o s).2.2.2.2
theorem rR(x:AB)(n esz:Nat)(l:List AV)(hl:l.length=esz)(hlim:(n+1)*esz<2^40)(i j:Nat)(hi:i<n+1)(hj:j<esz):(x.app (n*esz) (.li l)).get (i*esz+j)=if i<n then x.get (i*esz+j) else l[j]?.getD .u:=by
 have h1:=fD hi hj
 rw[Nat.add_mul] at hlim h1
 rw[AB.app_get _ _ _ _ (by simp only[dZ.len,hl];omega) (by simp only[dZ.len,hl];omega)]
 by_cases h:i<n
 ·have:=fD h hj
  rw[if_neg (by omega),if_pos h]
 ·have:i=n:=by omega
  subst this
  rw[if_pos (by omega),if_neg (by omega)]
  simp only[dZ.at]
  congr 2
  omega
theorem ma{ty esz n z:Nat}{row row2:Nat->Nat->AV}{l:List AV}(hl:l.length=esz)(hlim:(n+1)*esz<2^40)(h1:∀i j,i<n->j<esz->row2 i j=row i j)(h2:∀j,j<esz->row2 n j=l[j]?.getD .u):
  ∀i j,i<n+1->j<esz->((ai ty esz n z row).app (n*esz) (.li l)).get (i*esz+j)=row2 i j:=by
 intro i j hi hj
 rw[rR _ n esz l hl hlim i j hi hj]
 by_cases h:i<n
 ·rw[if_pos h,aJ i j hj,h1 i j h hj]
 ·have:i=n:=by omega
  subst this
  rw[if_neg h,h2 j hj]
theorem dh.rows{r:Nat->Option Nat}{M:List Nat}{H:AH}{b ty esz n z:Nat}{row:Nat->Nat->AV}{x:AB}(hx:H.at b=some x)(h1:x.ty=ty)(h2:x.esz=esz)(h3:x.opn=true)(h4:n*esz<=x.size)(h5:(if b ∈ M then max x.size x.fzn else x.fzn)<=z)(h0:0<esz)
  (hr:∀i j,i<n->j<esz->x.get (i*esz+j)=row i j) (hc:∀i j,i<n->j<esz->(row i j).pu 3=true):dh r M H b (ai ty esz n z row):=by
 refine⟨x,hx,h1.symm,h2.symm,h3.symm,rfl,.inr ⟨h3,h4⟩,h5,λi hi=>?_⟩
 have hi':i<n*esz:=hi
 have hq:i / esz<n:=Nat.div_lt_of_lt_mul (by rw[Nat.mul_comm];exact hi')
 have hm:i%esz<esz:=Nat.mod_lt _ h0
 have hdm:i / esz*esz+i%esz=i:=by
  have:=Nat.div_add_mod i esz
  rw[Nat.mul_comm] at this
  exact this
 have e1:(ai ty esz n z row).get i=row (i / esz) (i%esz):=rfl
 have e2:=hr _ _ hq hm
 rw[hdm] at e2
 rw[e1,e2]
 exact .cv (.rfl (hc _ _ hq hm))
theorem vq(v:AV):a9 [v]=v:=id rfl
theorem vp(v v':AV)(l:List AV):a9 (v::v'::l)= .tup (v::v'::l):=id rfl
theorem WY:∀(k:Nat) (v:AV),v.pu k=true->v.pu (k+1)=true:=by
 intro k
 induction k with
 |zero=>intro v h;cases v<;>simp_all [AV.pu]
 |succ k ih=>
  intro v h
  cases v with
  |f g l1 l2=>
   simp only[AV.pu,Bool.and_eq_true,List.all_eq_true] at h ⊢
   exact⟨λx hx=>ih x (h.1 x hx),λx hx=>ih x (h.2 x hx)⟩
  |agg l=>simp only[AV.pu,List.all_eq_true] at h ⊢;exact λx hx=>ih x (h x hx)
  |tup l=>simp only[AV.pu,List.all_eq_true] at h ⊢;exact λx hx=>ih x (h x hx)
  |_=>simp_all [AV.pu]
theorem ku.nil{H:AH}:ku [] [] H:=trivial
theorem ku.v{H:AH}{x v:AV}{rs:List RT}{l:List AV}(h:v=x)(hp:x.pu 3=true)(h':ku rs l H):ku (.v x::rs) (v::l) H:=⟨⟨h,hp⟩,h'⟩
theorem ku.o0{H:AH}{ty esz z:Nat}{row:Nat->Nat->AV}{rs:List RT}{l:List AV}(ha:qa rs=true)(h':ku rs l H):ku (.o ty esz 0 z row::rs) (.sl0::l) H:=⟨.inl ⟨rfl,rfl⟩,ha,h'⟩
theorem ku.o{H:AH}{ty esz n z b:Nat}{x:AB}{row:Nat->Nat->AV}{rs:List RT}{l:List AV}(hx:H.at b=some x)(h1:x.ty=ty)(h2:x.esz=esz)(h3:x.opn=true)(h0:0<esz)(h4:n*esz<=x.size)(h5:x.fzn<=z)
  (hr:∀i j,i<n->j<esz->x.get (i*esz+j)=row i j) (hc:∀i j,i<n->j<esz->(row i j).cell=true) (ha:qa rs=true) (h':ku rs l H):ku (.o ty esz n z row::rs) (.os b n::l) H:=
 ⟨.inr ⟨b,rfl,by simp,x,hx,h1,h2,h0,h3,h4,h5,hr,hc⟩,ha,h'⟩
theorem ku.a{H:AH}{c:List gI}{vs:List AV}{rs:List RT}{l:List AV}(h0:c.length<=8)(h:sg H [] c vs)(ha:qa rs=true)(h':ku rs l H):ku (.a c::rs) (.agg vs::l) H:=⟨⟨h0,vs,rfl,h⟩,ha,h'⟩
theorem sg.nil{H:AH}{u:List Nat}:sg H u [] []:=trivial
theorem sg.v{H:AH}{u:List Nat}{x v:AV}{rs:List gI}{l:List AV}(h:v=x)(hp:x.pu 3=true)(h':sg H u rs l):sg H u (.v x::rs) (v::l):=⟨⟨h,hp⟩,h'⟩
theorem sg.o0{H:AH}{u:List Nat}{ty esz z:Nat}{row:Nat->Nat->AV}{rs:List gI}{l:List AV}(h':sg H u rs l):sg H u (.o ty esz 0 z row::rs) (.sl0::l):=⟨.inl ⟨rfl,rfl⟩,h'⟩
theorem sg.o{H:AH}{u:List Nat}{ty esz n z b:Nat}{x:AB}{row:Nat->Nat->AV}{rs:List gI}{l:List AV}(hx:H.at b=some x)(hu:u.contains b=false)(h1:x.ty=ty)(h2:x.esz=esz)(h3:x.opn=true)(h0:0<esz)(h4:n*esz<=x.size)(h5:x.fzn<=z)
  (hr:∀i j,i<n->j<esz->x.get (i*esz+j)=row i j) (hc:∀i j,i<n->j<esz->(row i j).cell=true) (h':sg H (b::u) rs l):sg H u (.o ty esz n z row::rs) (.os b n::l):=
 ⟨.inr ⟨b,rfl,by simpa using hu,x,hx,h1,h2,h0,h3,h4,h5,hr,hc⟩,h'⟩
theorem ck.nil{M:List Nat}{H:AH}:ck M H [] []:=trivial
theorem ck.cons{M:List Nat}{H:AH}{v v2:AV}{l l2:List AV}(h:Cv M H v v2)(h':ck M H l l2):ck M H (v::l) (v2::l2):=⟨h,h'⟩
theorem ck.same{M:List Nat}{H:AH}:∀{l:List AV},l.all (AV.pu 3)=true->ck M H l l
 |[],_=>trivial
 |v::l,h=>by
  simp only[List.all_cons,Bool.and_eq_true] at h
  exact⟨.rfl h.1,ck.same h.2⟩
theorem aa{v x:AV}{H:AH}(h:v=x)(hp:x.pu 3=true):∃l1,v=a9 l1/\ku [.v x] l1 H:=⟨[v],rfl,⟨h,hp⟩,trivial⟩
def AV.sc:Nat->AV->Bool
 |_,.b _|_,.n _ _|_,.s _|_,.p0|_,.sl0|_,.f0|_,.cv _=>true
 |k+1,.agg l=>l.all (AV.sc k)
 |k+1,.tup l=>l.all (AV.sc k)
 |_,_=>false
theorem VR.sc{σ σ2:Sg}:∀(k:Nat) {v:AV} {x:Value},v.sc k=true->VR σ v x->VR σ2 v x
 |k,v,x,hp,h=>by
  cases h with
  |b x=>exact .b x
  |n k x=>exact .n k x
  |s x=>exact .s x
  |p0=>exact .p0
  |sl0 a=>exact .sl0 a
  |f0=>exact .f0
  |cv _ hv=>exact .cv _ hv
  |agg hl hh=>
   cases k with
   |zero=>simp[AV.sc] at hp
   |succ k=>
    simp only[AV.sc,List.all_eq_true] at hp
    exact .agg hl (λi v hv=>VR.sc k (hp v (List.mem_of_getElem? hv)) (hh i v hv))
  |tup hl hh=>
   cases k with
   |zero=>simp[AV.sc] at hp
   |succ k=>
    simp only[AV.sc,List.all_eq_true] at hp
    exact .tup hl (λi v hv=>VR.sc k (hp v (List.mem_of_getElem? hv)) (hh i v hv))
  |_=>cases k<;>simp[AV.sc] at hp
theorem VI:∀(k:Nat) (v:AV),v.sc k=true->v.pu k=true:=by
 intro k
 induction k with
 |zero=>intro v h;cases v<;>simp_all [AV.sc,AV.pu]
 |succ k ih=>
  intro v h
  cases v with
  |agg l=>simp only[AV.pu,AV.sc,List.all_eq_true] at h ⊢;exact λx hx=>ih x (h x hx)
  |tup l=>simp only[AV.pu,AV.sc,List.all_eq_true] at h ⊢;exact λx hx=>ih x (h x hx)
  |_=>simp_all [AV.pu,AV.sc]
theorem HR.after_call{B:Nat}{σ:Sg}{H:AH}{w w':World}(h:HR B σ H w)(hb:Below w.heap.size w w'):HR B σ H w':=by
 refine⟨h.new,h.newl,h.old,h.small,Nat.le_trans h.hB hb.size,h.nil,h.nilp,λb x c o hx hs=>?_,h.szs,h.inj,λc fs hf=>?_,h.ob.keep λr hr _=>hb.block r hr⟩
 ·obtain⟨cs,e1,e2,e3⟩:=h.blk b x c o hx hs
  exact⟨cs,e1,by rw[hb.block c ((Array.getElem?_eq_some_iff.1 e2).1)];exact e2,e3⟩
 ·obtain⟨cs,t,fr,e1,e2,e3⟩:=h.frz c fs hf
  exact⟨cs,t,fr,by rw[hb.block c (h.fzlt hf)];exact e1,e2,e3⟩
theorem oA{P:Program}{g:FuncId}{args fargs:List AV}{H:AH}{rs:List RT}{Q:AV->AH->Prop}(M:List Nat)(hcv:ck M H args fargs)(h:bM P g fargs rs)(hnx:H.next+9<2^40)(hsc:∀r ∈ rs,gR (λa=>a.sc 3=true) r)
  (hQ:Q (a9 (bT H rs).1) (bT H rs).2):ks P g args H Q:=by
 refine⟨h.1,λB σ w args' hH ha=>?_⟩
 obtain⟨σ2,q1,q2,q3,q4,q5,q6,q7⟩:=hH.marks M
 have hd:aX (Sg.data σ2.fz) fargs args'.toList:=hcv.ok hH q1 q2 q7 ha
 have hin:pE σ2.fz w:=λc fs hf=>by
  obtain⟨cs,t,fr,e1,e2,_⟩:=q6.frz c fs hf
  exact⟨cs,t,fr,e1,e2⟩
 refine(h.2 σ2.fz w args' hin hd).mono λe w' hp=>?_
 cases e with
 |panicked c=>exact hp.elim
 |outgrown=>exact hp.elim
 |returned u=>
  obtain⟨v,Hc,σ',⟨l,rfl,hr⟩,hv,hHc,hbel,hfz⟩:=hp
  obtain⟨us,hus,hback⟩:=fO hv
  have hblt:∀b c o,σ b=some (c,o)->H.at b≠none->c<w.heap.size:=λb c o hs hne=>by
   cases hx:H.at b with
   |none=>exact absurd hx hne
   |some x=>
    obtain⟨cs,e1,e2,e3⟩:=hH.blk b x c o hx hs
    exact(Array.getElem?_eq_some_iff.1 e2).1
  obtain⟨σ3,p1,p2,p3,p4,p5,p6,p7,p8⟩:=kJ (σa:=σ) (good:=λa=>a.sc 3=true) (λ{a u σn} _ hs _ hu=>hu.sc 3 hs) hHc (hH.after_call hbel) (λc fs hc hf=>by have:=hH.fzlt hf;omega) hH.hB hblt hnx rs l us hr hsc hus
  refine⟨_,_,σ3,hQ,hback (ef rs l _ hr) p2,p1,⟨λb hb=>p5 b hb,p3,p6,by rw[p7];exact Nat.le_refl _,?_,λc hc=> .inl (hbel.block c hc),λb c o hb hs hc=>?_⟩,.of_eq p4⟩
  ·exact⟨hbel.os,hbel.tape,hbel.output,hbel.size,λk hk=>hbel.block k (by have:=hH.hB;omega)⟩
  ·have:=p8 b c o hb hs
   omega
theorem Cm{P:Program}{call:dE}(hC:∀B,dD P B call){f:FuncId}{args:List AV}{v:AV}{H':AH}(hr:call f args ⟨.nil,0,2^40,λ_=>none,[]⟩=some (v,H'))(hv:v.sc 3=true):bM P f args [.v v]:=by
 refine⟨(hC 0).fn hr,λφ w args' hφ ha=>?_⟩
 refine Calls.mono ((hC w.heap.size).run hr _ w args' (HR.empty w hφ) ha) (λe w' hp=>?_)
 cases e with
 |panicked c=>exact hp.elim
 |outgrown=>exact hp.elim
 |returned u=>
  obtain⟨σ',q1,q2,q3⟩:=hp
  have hw:pE φ w':=λc fs hf=>by
   obtain⟨cs,t,fr,h1,h2⟩:=hφ c fs hf
   exact⟨cs,t,fr,by rw[q3.bel.block c (Array.getElem?_eq_some_iff.1 h1).1];exact h1,h2⟩
  refine⟨v,⟨.nil,0,2^40,λ_=>none,[]⟩,Sg.data φ,⟨[v],rfl,⟨rfl,VI 3 v hv⟩,trivial⟩,q1.sc 3 hv,?_,q3.bel,λ_ _=>rfl⟩
  exact HR.emptyAt w' q3.bel.size hw
def AH.setLow(H:AH)(l:Nat):AH:={H with low:=l}
theorem wT(H:AH)(l b:Nat):(H.setLow l).at b=H.at b:=id rfl
theorem qN(H:AH)(l:Nat):(H.setLow l).next=H.next:=id rfl
theorem sQ(H:AH)(l:Nat):(H.setLow l).low=l:=id rfl
theorem nz(H:AH)(l l':Nat):(H.setLow l).setLow l'=H.setLow l':=id rfl
theorem yK(H:AH)(b:Nat):(H.mark b).low=H.low:=AH.mark_low H b
theorem GA.mix1{P:Program}{n:Nat}{hints:bp}{e:Tr AV}{H:AH}{Q:AE->Tr AV->AH->Prop}(hm:P.follows .mixedOrders=true){l:List (Nat×AO)}(h:ff P (H.setLow (2^40)) H.next true l e (H.setLow (2^40)) (λe' H'=>Q .normal e' (H'.setLow (min H.low H'.low)))):GA P n hints (.mix l) e H Q:=
 GA.mix hm H.next (by rw[Nat.sub_self];trivial) h
theorem GA.mixm{P:Program}{n:Nat}{hints:bp}{e:Tr AV}{H:AH}{Q:AE->Tr AV->AH->Prop}(hm:P.follows .mixedOrders=true)(m:Nat){l:List (Nat×AO)}(htop:bH H m (H.next-m))(h:ff P (H.setLow (2^40)) m true l e (H.setLow (2^40)) (λe' H'=>Q .normal e' (H'.setLow (min H.low H'.low)))):GA P n hints (.mix l) e H Q:=
 GA.mix hm m htop h
theorem GA.frkm{P:Program}{n:Nat}{hints:bp}{e:Tr AV}{H:AH}{Q:AE->Tr AV->AH->Prop}(hm:P.follows .mixedOrders=true)(m:Nat){l:List (Nat×AO)}{T:AT}(htop:bH H m (H.next-m))(h:ff P (H.setLow (2^40)) m true l e (H.setLow (2^40)) (λe' H'=>eD P m T e' H' (λe' H'=>Q .normal e' (H'.setLow (min H.low H'.low))))):GA P n hints (.frk l T) e H Q:=
 GA.frk hm m htop h
theorem GA.cut{P:Program}{n:Nat}{hints:bp}{e:Tr AV}{H:AH}{Q:AE->Tr AV->AH->Prop}{x y:AC}(e2:Tr AV)(H2:AH)(h:GA P n hints x e H (gF (λe' H'=>Wk n e' H' e2 H2) (λ_ _ _=>False)))(h':GA P n hints y e2 H2 Q):GA P n hints (.seq x y) e H Q:=
 GA.seq (h.mono λa e' H' hq=>by
  cases a with
  |normal=>exact GA.wk hq h'
  |exit i=>exact hq.elim
  |ret=>exact hq.elim)
theorem dh.lst{r:Nat->Option Nat}{M:List Nat}{H:AH}{b esz ty:Nat}{l:List AV}(hx:H.at b=some (ae esz ty l))(hM:M.contains b=false)(hl:l.length<1000000)(hp:l.all (AV.pu 3)=true):dh r M H b (ae esz ty l):=by
 refine⟨ae esz ty l,hx,rfl,rfl,rfl,rfl,.inl rfl,by rw[if_neg (by simpa using hM)];exact Nat.le_refl _,λi hi=>?_⟩
 have hi':i<l.length:=hi
 rw[jU esz ty l i hl,List.getElem?_eq_getElem hi']
 exact .cv (.rfl (List.all_eq_true.1 hp _ (List.getElem_mem hi')))
theorem dh.keep{r:Nat->Option Nat}{M:List Nat}{H:AH}{b ty esz n z:Nat}{row:Nat->Nat->AV}(hx:H.at b=some (ai ty esz n z row))(hM:M.contains b=false)(h0:0<esz)(hc:∀i j,i<n->j<esz->(row i j).pu 3=true):dh r M H b (ai ty esz n z row):=
 dh.rows hx rfl rfl rfl (Nat.le_refl _) (by rw[if_neg (by simpa using hM)];exact Nat.le_refl _) h0 (λi j _ hj=>aJ i j hj) hc
theorem cQ.nil{r:Nat->Option Nat}{M:List Nat}{H:AH}:cQ r M H [] []:=trivial
theorem cQ.cons{r:Nat->Option Nat}{M:List Nat}{H:AH}{b:Nat}{ρ:List Nat}{x:AB}{bl:List AB}(h1:ρ.contains b=false)(h2:dh r M H b x)(h3:cQ r M H ρ bl):cQ r M H (b::ρ) (x::bl):=⟨by simpa using h1,h2,h3⟩
def rH(P:Program)(n:Nat)(hints:bp)(cc:AX)(x y:AC)(e:Tr AV)(H:AH)(Q:AE->Tr AV->AH->Prop):Prop:=match cc.ev e with
 |some (.b t)=>(t=true->GA P n hints x e H Q)/\(t=false->GA P n hints y e H Q)
 |_=>False
theorem GA.cond'{P:Program}{n:Nat}{hints:bp}{e:Tr AV}{H:AH}{Q:AE->Tr AV->AH->Prop}{cc:AX}{x y:AC}(h:rH P n hints cc x y e H Q):GA P n hints (.cond cc x y) e H Q:=by
 unfold rH at h
 split at h
 ·rename_i t ht
  exact GA.cond ht h.1 h.2
 ·exact h.elim
theorem Wv.n{r:Nat->Option Nat}{M:List Nat}{H:AH}{k:IntKind}{a b:Int}(h:a=b):Wv r M H (.n k a) (.n k b):=by subst h;exact .cv (.rfl rfl)
theorem Wv.same{r:Nat->Option Nat}{M:List Nat}{H:AH}{v:AV}(h:v.pu 3=true):Wv r M H v v:= .cv (.rfl h)
theorem aY{a b:Prop}(h1:a)(h2:b):a/\b:=⟨h1,h2⟩
theorem ag{P:Program}[IdleOK P](hm:P.follows .mixedOrders=true){f:FuncId}{hints:bp}{F:AF}(hF:aF P hints f=some F){args:List AV}(hlen:args.length<=F.nt/\F.nt<100000){Q:AV->AH->Prop}
  (h:GA P F.nt hints F.code (az (aE 0 args)) (ah []) (jb F.res Q)):rY P f args Q:=
 Cn hm hF hlen.1 (GA.wk (Wk.arg _ _ _ (by omega)) h)
theorem VK(x:Bool):dF (pure (.bool x))=some (.b x):=id rfl
theorem VJ(k:IntKind)(x:Int):dF (pure (.int k x))=some (.n k x):=id rfl
theorem Ck(a b:Int):(a==b)=decide (a=b):=by rw[Bool.eq_iff_iff];simp
theorem aab(a b:Int):(a != b)= !decide (a=b):=by rw[bne,Ck]
def goB:AC->Bool
 |.loop _=>false
 |.frk _ _=>false
 |.dfr _ _ _=>false
 |.mxl _=>false
 |.rf _ _ _ _ _=>false
 |_=>true
attribute [reducible] goB
def GS(P:Program)(n:Nat)(hints:bp)(ac:AC)(e:Tr AV)(H:AH)(Q:AE->Tr AV->AH->Prop):Prop:=match ac with
 |.skip=>Q .normal e H
 |.exit i=>Q (.exit i) e H
 |.ret=>Q .ret e H
 |.seq x y=>GA P n hints x e H (gF (λe' H'=>GA P n hints y e' H' Q) Q)
 |.cond c x y=>rH P n hints c x y e H Q
 |.block id x=>GA P n hints x e H (jx id Q)
 |.reg l=>gw P l e H (λe' H'=>Q .normal e' H')
 |.mix l=>ff P (H.setLow (2^40)) H.next true l e (H.setLow (2^40)) (λe' H'=>Q .normal e' (H'.setLow (min H.low H'.low)))
 |.loop _=>False
 |.frk _ _=>False
 |.dfr _ _ _=>False
 |.mxl _=>False
 |.rf _ _ _ _ _=>False
 |.die=>False
theorem GA.go{P:Program}{n:Nat}{hints:bp}{ac:AC}{e:Tr AV}{H:AH}{Q:AE->Tr AV->AH->Prop}(hm:P.follows .mixedOrders=true)(hg:goB ac=true)(h:GS P n hints ac e H Q):GA P n hints ac e H Q:=by
 cases ac with
 |skip=>exact GA.skip h
 |exit i=>exact GA.exit h
 |ret=>exact GA.ret h
 |seq x y=>exact GA.seq h
 |cond c x y=>exact GA.cond' h
 |block id x=>exact GA.block h
 |reg l=>exact GA.reg h
 |mix l=>exact GA.mix1 hm h
 |loop x=>cases hg
 |frk l T=>cases hg
 |dfr _ _ _=>cases hg
 |mxl _=>cases hg
 |rf _ _ _ _ _=>cases hg
 |die=>exact(show False from h).elim
section
variable {P:Program} {n:Nat} {hints:bp} {e:Tr AV} {H:AH} {Q:AE->Tr AV->AH->Prop}
theorem GS.skip:GS P n hints .skip e H Q=Q .normal e H:=id rfl
theorem GS.exit(i:Nat):GS P n hints (.exit i) e H Q=Q (.exit i) e H:=id rfl
theorem GS.ret:GS P n hints .ret e H Q=Q .ret e H:=id rfl
theorem GS.seq(x y:AC):GS P n hints (.seq x y) e H Q=GA P n hints x e H (gF (λe' H'=>GA P n hints y e' H' Q) Q):=id rfl
theorem GS.cond(c:AX)(x y:AC):GS P n hints (.cond c x y) e H Q=rH P n hints c x y e H Q:=id rfl
theorem GS.block(id:Nat)(x:AC):GS P n hints (.block id x) e H Q=GA P n hints x e H (jx id Q):=_root_.id rfl
theorem GS.reg(l:List AO):GS P n hints (.reg l) e H Q=gw P l e H (λe' H'=>Q .normal e' H'):=id rfl
theorem GS.mix(l:List (Nat×AO)):GS P n hints (.mix l) e H Q=ff P (H.setLow (2^40)) H.next true l e (H.setLow (2^40)) (λe' H'=>Q .normal e' (H'.setLow (min H.low H'.low))):=id rfl
end
/-! what every step uses-/
attribute [go_sem] GS.skip GS.exit GS.ret GS.seq GS.cond GS.block GS.reg GS.mix VK VJ Ck aab gF jx xO jb rH zA wv zv wc zw wg zt wa beq_false beq_true Wu
 Wt Ws Ip Bw za zB ww zc v4 zY cD eH AP.kind ws sY wt vU bH ea
 AX.ev sf AP.run AP.r_mv AP.r_pick AP.r_ld AP.r_st AP.r_nc AP.r_bin AP.r_un AP.r_cvi AP.r_fa AP.r_fd AP.r_ia AP.r_iaa AP.r_ext AP.r_len AP.r_cpc AP.r_clr AP.r_mf AP.r_al AP.r_bx AP.r_bd AP.r_bs AP.r_ms AP.r_sl AP.r_se AP.r_eq AP.r_lns AP.r_sx AP.r_ix AP.r_app AP.r_apm aL uV bn kf zQ eg eJ iH wQ We CN Wc CL Wa CJ Jl Ac Wb
 CK BP wP Jk Ab Jp Ag Wd CM Jq Ah Jn Ae Jo Af Jm Ad
 List.cons_append List.nil_append List.append_nil Option.map_some Option.map_none List.all_cons List.all_nil List.length_cons List.length_nil
 Bool.and_true Bool.true_and Bool.and_self IA IB IC IE IG Iy II It Iz Ix jl sA dw
 uZ zD ou zM Bq x6 tQ AH.load AH.loadN dX ip tA yl Ap vA cL aV
 qU iI B8 B6 B7 ym Kk xE Cp yS CA Im BM if_true if_false ite_true ite_false true_and
 and_true forall_const false_implies implies_true Bool.true_eq_false Bool.false_eq_true Option.some.injEq AV.b.injEq exists_eq_left' exists_eq_left
 decide_eq_true_eq decide_eq_false_iff_not Bool.not_eq_true' Bool.not_eq_false' Option.isSome_some not_true_eq_false not_false_eq_true Int.not_lt
 Int.not_le o7 zk get_nil BE List.getElem?_cons_zero List.getElem?_cons_succ Option.getD_some Int.toNat_natCast Nat.zero_add Nat.add_zero
 Nat.mul_one Nat.zero_le beq_iff_eq beq_eq_false_iff_ne ne_eq u7 xN BF xL u9 xM app_size CT Km CR
 Ar CS AH.append dZ.len i6 vq vp bT jZ bg An JW Cq JY Wx JV Cr JX
 AH.mark_next AH.mark_low true_or or_true Bool.not_false Bool.not_true Bool.and_false Nat.le_refl Nat.min_self beq_self_eq_true lF maxLen
 Bool.and_eq_true wT qN sQ nz yK tv tw false_and and_false mP List.isEmpty_cons
 List.isEmpty_nil List.take_zero List.take_succ_cons List.drop_zero List.drop_succ_cons List.take_nil List.drop_nil vy yk BU
 yi vz yj List.length_append vM yJ B5 yH vN yI jU vJ yG B4 yD
 vL yF yE
/-! arguments that are found-/
theorem i8{P:Prop}(h:P:=by first|trivial|exact Wv.same rfl|exact Wv.p rfl|exact Wv.os rfl|exact Wv.sl rfl|exact Wv.n (by omega)|exact Wv.n (aj (by omega))|exact Wv.n (by rw[aj (by omega)];omega)):P:=h
theorem wku{P:Prop}(h:P:=by first|exact True.intro|exact Wv.same rfl|exact Wv.p rfl|exact Wv.os rfl|exact Wv.sl rfl|exact Wv.n (by omega)|exact Wv.n (aj (by omega))|exact Wv.n (by rw[aj (by omega)];omega)):P:=h
theorem dh.ls{r:Nat->Option Nat}{M:List Nat}{H:AH}{b esz ty:Nat}{l:List AV}(hx:H.at b=some (ae esz ty l):=by simp only[go_sem,simprocAttr]<;>rfl)(hM:M.contains b=false:=by rfl)(hl:l.length<1000000:=by simp)(hp:l.all (AV.pu 3)=true:=by rfl):dh r M H b (ae esz ty l):= .lst hx hM hl hp
theorem dh.k1{r:Nat->Option Nat}{M:List Nat}{H:AH}{b ty esz n z:Nat}{row:Nat->Nat->AV}(hx:H.at b=some (ai ty esz n z row):=by simp only[go_sem,simprocAttr])(hM:M.contains b=false:=by rfl)(h0:0<esz:=by decide)(hc:∀i j,i<n->j<esz->(row i j).pu 3=true:=by intro _ _ _ _;rfl):dh r M H b (ai ty esz n z row):= .keep hx hM h0 hc
theorem dh.k5{r:Nat->Option Nat}{M:List Nat}{H:AH}{b ty n z:Nat}{row:Nat->Nat->AV}(hx:H.at b=some (ai ty 5 n z row):=by simp only[go_sem,simprocAttr])(hM:M.contains b=false:=by rfl)(hc:∀i j,i<n->j<5->(row i j).pu 3=true:=by intro _ j _ hj;rcases(show j=0\/j=1\/j=2\/j=3\/j=4 by omega) with rfl|rfl|rfl|rfl|rfl<;>rfl):dh r M H b (ai ty 5 n z row):= .keep hx hM (by decide) hc
theorem gqa{P:Program}{g:FuncId}{a fa:AV}{H:AH}{rs:List RT}{Q:AV->AH->Prop}(h:bM P g [fa] rs)(hQ:Q (a9 (bT (bg H []) rs).1) (bT (bg H []) rs).2)(ha:Cv [] H a fa:=by exact .rfl (by rfl))(hnx:H.next+9<2^40:=by simp only[go_sem,simprocAttr]):ks P g [a] H Q:=aW [] (.cons ha .nil) h hnx hQ
theorem gqb{P:Program}{g:FuncId}{a b fa fb:AV}{H:AH}{rs:List RT}{Q:AV->AH->Prop}(h:bM P g [fa,fb] rs)(hQ:Q (a9 (bT (bg H []) rs).1) (bT (bg H []) rs).2)(ha:Cv [] H a fa:=by exact .rfl (by rfl))(hb:Cv [] H b fb:=by exact .rfl (by rfl))(hnx:H.next+9<2^40:=by simp only[go_sem,simprocAttr]):ks P g [a,b] H Q:=aW [] (.cons ha (.cons hb .nil)) h hnx hQ
theorem gqe{P:Program}{g:FuncId}{a b c d k:AV}{H:AH}{rs:List RT}{Q:AV->AH->Prop}(h:bM P g [a,b,c,d,k] rs)(hQ:Q (a9 (bT (bg H []) rs).1) (bT (bg H []) rs).2)(ha:a.pu 3=true:=by rfl)(hb:b.pu 3=true:=by rfl)(hc:c.pu 3=true:=by rfl)(hd:d.pu 3=true:=by rfl)(hk:k.pu 3=true:=by rfl)(hnx:H.next+9<2^40:=by simp only[go_sem,simprocAttr]):ks P g [a,b,c,d,k] H Q:=aW [] (.cons (.rfl ha) (.cons (.rfl hb) (.cons (.rfl hc) (.cons (.rfl hd) (.cons (.rfl hk) .nil))))) h hnx hQ
theorem bS{P:Program}{g:FuncId}{args:List AV}{H:AH}{rs:List RT}{Q:AV->AH->Prop}(F:List AV)(h:bM P g F rs)(hQ:Q (a9 (bT (bg H []) rs).1) (bT (bg H []) rs).2)(hcv:ck [] H args F:=by exact ck.same rfl)(hnx:H.next+9<2^40:=by simp only[go_sem,simprocAttr]):ks P g args H Q:=aW [] hcv h hnx hQ
theorem cQ.cr{r:Nat->Option Nat}{M:List Nat}{H:AH}{b:Nat}{ρ:List Nat}{x:AB}{bl:List AB}(h2:dh r M H b x)(h3:cQ r M H ρ bl)(h1:ρ.contains b=false:=by rfl):cQ r M H (b::ρ) (x::bl):= .cons h1 h2 h3
theorem a8{P:Prop}(h:P:=by simp only[eo,cQ,go_sem,simprocAttr];(repeat' refine aY ?_ ?_);all_goals first|trivial|exact Wv.same rfl|exact Wv.p rfl|exact Wv.os rfl|exact Wv.sl rfl|exact Wv.n (by omega)|exact Wv.n (aj (by omega))|exact Wv.n (by rw[aj (by omega)];omega)):P:=h
theorem dh.k2{r:Nat->Option Nat}{M:List Nat}{H:AH}{b ty esz n z:Nat}{row:Nat->Nat->AV}(hc:∀i j,i<n->j<esz->(row i j).pu 3=true)(hx:H.at b=some (ai ty esz n z row):=by simp only[go_sem,simprocAttr])(hM:M.contains b=false:=by rfl)(h0:0<esz:=by decide):dh r M H b (ai ty esz n z row):= .keep hx hM h0 hc
theorem dh.r0{r:Nat->Option Nat}{M:List Nat}{H:AH}{b ty esz n z:Nat}{row:Nat->Nat->AV}{x:AB}(hx:H.at b=some x:=by simp only[go_sem,simprocAttr];rfl)(h1:x.ty=ty:=by rfl)(h2:x.esz=esz:=by rfl)(h3:x.opn=true:=by rfl)(h4:n*esz<=x.size:=by simp)(h5:(if b ∈ M then max x.size x.fzn else x.fzn)<=z:=by decide)(h0:0<esz:=by decide)(hr:∀i j,i<n->j<esz->x.get (i*esz+j)=row i j:=by intro i j h;simp at h)(hc:∀i j,i<n->j<esz->(row i j).pu 3=true:=by intro i j h;simp at h):dh r M H b (ai ty esz n z row):= .rows hx h1 h2 h3 h4 h5 h0 hr hc
theorem dh.r1{r:Nat->Option Nat}{M:List Nat}{H:AH}{b ty esz n z:Nat}{row:Nat->Nat->AV}{x:AB}(hx:H.at b=some x:=by simp only[go_sem,simprocAttr];rfl)(h1:x.ty=ty:=by rfl)(h2:x.esz=esz:=by rfl)(h3:x.opn=true:=by rfl)(h4:n*esz<=x.size:=by decide)(h5:(if b ∈ M then max x.size x.fzn else x.fzn)<=z:=by decide)(h0:0<esz:=by decide)(hr:∀i j,i<n->j<esz->x.get (i*esz+j)=row i j:=by intro i j h;simp at h)(hc:∀i j,i<n->j<esz->(row i j).pu 3=true:=by intro i j h;simp at h):dh r M H b (ai ty esz n z row):= .rows hx h1 h2 h3 h4 h5 h0 hr hc
end Go.Proofs.YtdpkgnmmikebdaaGreat
namespace Go.Proofs.YtdpkgnmmikebdaaGreat
open Go.RowKit
inductive BT where
 |lf (k:Nat) (F:AF)
 |nd (k:Nat) (l r:BT)
def BT.get:BT->FuncId->Option AF
 |.lf k F,f=>bif Nat.beq k f then some F else none
 |.nd k l r,f=>bif Nat.ble k f then r.get f else l.get f
def BT.ok(P:Program):BT->Prop
 |.lf k F=>aF P (af P k) k=some F
 |.nd _ l r=>l.ok P/\r.ok P
theorem BT.tab{P:Program}:∀{t:BT},t.ok P->uN P t.get
 |.lf k F,h,f,F',hF=>by
  unfold BT.get at hF
  cases hk:Nat.beq k f with
  |false=>rw[hk] at hF;cases hF
  |true=>
   rw[hk] at hF
   cases hF
   have:=Nat.eq_of_beq_eq_true hk
   subst this
   exact⟨_,h⟩
 |.nd k l r,h,f,F',hF=>by
  unfold BT.get at hF
  cases hk:Nat.ble k f with
  |false=>rw[hk] at hF;exact BT.tab h.1 f F' hF
  |true=>rw[hk] at hF;exact BT.tab h.2 f F' hF
def lG(M:Nat->Option OB):Nat->Option OB:=λr=>match M r with
 |some (.mp x)=>some (.mp {x with own:=false})
 |_=>none
theorem Cd{M:Nat->Option OB}{r:Nat}{x:ga}(h:M r=some (.mp x)):lG M r=some (.mp {x with own:=false}):=by unfold lG;rw[h]
theorem OR.lend{B:Nat}{ob:Nat->Option OB}{w:World}{B':Nat}(h:OR B ob w):OR B' (lG ob) w:=λr x hx=>by
 unfold lG at hx
 split at hx
 ·rename_i y hy
  cases hx
  obtain⟨_,es,c,h1,h2⟩:=h r _ hy
  exact⟨λh=>(by cases h),es,c,h1,⟨h2.cnt,h2.ent,h2.dom,h2.one,h2.stp⟩⟩
 ·cases hx
theorem Dq.down{B B' r:Nat}{w:World}{x:OB}(h:Dq B' w r x)(hB:B<=w.heap.size/\B<=B'):Dq B w r x:=by
 cases x with
 |mp x=>exact⟨λq=>Nat.le_trans hB.2 (h.1 q),h.2⟩
 |it y=>exact⟨Nat.le_trans hB.2 h.1,h.2⟩
 |fix o=>exact⟨Nat.le_trans hB.2 h.1,h.2⟩
def AH.addOb(H:AH)(N:Nat->Option OB):AH:={H with ob:=λr=>match H.ob r with
 |some x=>some x
 |none=>N r}
def Ds(P:Program)(f:FuncId)(M:Nat->Option OB)(args:List AV)(Q:AV->AH->Prop):Prop:=
 nI P f/\∀(φ:Fz) (w:World) (args':Array Value),pE φ w->aX (Sg.data φ) args args'.toList->OR w.heap.size (lG M) w->Calls P f args' w (oQ φ w Q)
theorem HR.emptyM{φ:Fz}{M:Nat->Option OB}(w:World)(hφ:∀c fs,φ c=some fs->∃cs t fr,w.heap[c]? =some (.cells cs t fr)/\gV fs cs)(hM:OR w.heap.size (lG M) w):HR w.heap.size ⟨λ_=>none,λ_=>False,φ⟩ (aw (lG M) []) w:=by
 have h:=HR.empty w hφ
 exact⟨h.new,h.newl,h.old,h.small,h.hB,h.nil,h.nilp,h.blk,h.szs,h.inj,h.frz,by rw[jR,dA];exact .none hM⟩
theorem zi{P:Program}[IdleOK P](hm:P.follows .mixedOrders=true){f:FuncId}{hints:bp}{F:AF}(hF:aF P hints f=some F){args:List AV}(hlen:args.length<=F.nt){Q:AV->AH->Prop}
  {M:Nat->Option OB} (h:GA P F.nt hints F.code (fJ args) (aw (lG M) []) (jb F.res Q)):Ds P f M args Q:=by
 unfold aF at hF
 obtain⟨fn,h1,hF⟩:=Option.bind_eq_some_iff.1 hF
 obtain⟨c,h3,hF⟩:=Option.bind_eq_some_iff.1 hF
 obtain⟨ac,h5,hF⟩:=Option.bind_eq_some_iff.1 hF
 obtain⟨r,h6,hF⟩:=Option.bind_eq_some_iff.1 hF
 split at hF
 rotate_left
 ·cases hF
 rename_i hq
 cases hF
 refine⟨⟨fn,h1,hq.1,by rw[h3];rfl⟩,λφ w args' hφ ha hM=>?_⟩
 refine dC h1 h3 ?_
 refine h c h5 w.heap.size (Sg.data φ) _ w _ (jY ha hlen hq.2) (HR.emptyM w hφ hM) (λc a w hq=>hq.elim) (λx e' H' a' w' σ' q q1 q2 q3 q4=>?_)
 have key:∀l,ea e' H' r=some l->Q (a9 l) H'->(∀d ∈ a'.defers,nv d)/\∃v,(results fn a'.tmps).run P w'= .ok v w'/\oQ φ w Q (.returned v) w':=by
  intro l hl hQ
  obtain⟨us,g1,g2⟩:=jo q1.er q2 _ _ _ h6 hl
  have hres:∃u,(results fn a'.tmps).run P w'= .ok u w'/\VR σ' (a9 l) u:=by
   have hsem:results fn a'.tmps=(do let vs<-fn.results.mapM (dP a');pure (if h:vs.size=1 then vs[0] else .tuple vs)):=by
    unfold results
    rfl
   have hrun:(fn.results.mapM (dP a')).run P w'= .ok us.toArray w':=by
    simp[Array.mapM_eq_mapM_toList,g1]
   rw[hsem]
   simp only[Sem.run_bind,hrun,Result.andThen_ok,Sem.run_pure]
   refine⟨_,rfl,?_⟩
   have hn:=g2.1
   match l,us,g2,hn with
   |[v],[u],g2,_=>exact g2.2 0 v rfl
   |[],[],_,_=>exact aX.nil.tup
   |v1::v2::l,u1::u2::us,g2,_=>exact g2.tup
  obtain⟨u,k1,k2⟩:=hres
  exact⟨q1.er.df,u,k1,a9 l,H',σ',hQ,k2,q2,q3,q4.eq⟩
 have q':∃l,ea e' H' r=some l/\Q (a9 l) H':=by
  cases x with
  |exit i=>exact q.elim
  |normal=>
   simp only[jb] at q
   split at q
   ·rename_i l hl;exact⟨l,hl,q⟩
   ·exact q.elim
  |ret=>
   simp only[jb] at q
   split at q
   ·rename_i l hl;exact⟨l,hl,q⟩
   ·exact q.elim
 obtain⟨l,hl,hQ⟩:=q'
 obtain⟨k1,v,k2,k3⟩:=key l hl hQ
 have post:Leaves P fn a'.tmps (oQ φ w Q) a'.defers .returning w':=ee k2 k3 _ k1
 cases x with
 |exit i=>exact q.elim
 |normal=>exact post
 |ret=>exact post
def x5:OB->Bool
 |.mp x=>x.own
 |_=>false
def wZ(P:Program)(f:FuncId)(args:List AV)(gV:(Nat->Option OB)->Prop)(fG:(Nat->Option OB)->List RT->(Nat->Option OB)->Prop):Prop:=
 ∀M,gV M->Ds P f M args λv H=>∃(rs:List RT) (N:Nat->Option OB) (l:List AV),fG M rs N/\v=a9 l/\ku rs l H/\∀r x,N r=some x->H.ob r=some x/\x5 x=true
theorem pH:∀(l:List gI) (H:AH),(jZ H l).2.ob=H.ob
 |[],_=>rfl
 |.v x::l,H=>pH l H
 |.o ty esz n z row::l,H=>pH l (H.new (ai ty esz n z row))
theorem pF:∀(rs:List RT) (H:AH),(bT H rs).2.ob=H.ob
 |[],_=>rfl
 |.v x::rs,H=>pF rs H
 |.o ty esz n z row::rs,H=>rfl
 |.a l::rs,H=>pH l H
theorem pJ:∀(l:List gI) (H:AH),(jZ H l).2.mp=H.mp
 |[],_=>rfl
 |.v x::l,H=>pJ l H
 |.o ty esz n z row::l,H=>pJ l (H.new (ai ty esz n z row))
theorem ut:∀(rs:List RT) (H:AH),(bT H rs).2.mp=H.mp
 |[],_=>rfl
 |.v x::rs,H=>ut rs H
 |.o ty esz n z row::rs,H=>rfl
 |.a l::rs,H=>pJ l H
theorem qQ:∀(l:List Nat) (H:AH),(bg H l).mp=H.mp
 |[],_=>rfl
 |b::l,H=>by rw[bg,qQ l,AH.mark_mp]
theorem HR.addOb{B:Nat}{σ:Sg}{H:AH}{w:World}(h:HR B σ H w){ob N:Nat->Option OB}(he:H.ob=ob)(hN:∀r x,N r=some x->Dq B w r x)(hc:∀b d c o,bA H.mp b=some d->σ.nm b=some (c,o)->N c=none)(hni:∀r y,N r≠some (.it y)):HR B σ (H.addOb N) w:=
 ⟨h.new,h.newl,h.old,h.small,h.hB,h.nil,h.nilp,h.blk,h.szs,h.inj,h.frz,⟨λr x hx=>by
  have hx:(match H.ob r with|some x=>some x|none=>N r)=some x:=hx
  split at hx
  ·rename_i y hy;cases hx;exact h.ob.o r x hy
  ·exact hN r x hx,λb d hb=>by
  obtain⟨c,es,clock,k1,k2,k3,k4,k5⟩:=h.ob.m b d hb
  refine⟨c,es,clock,k1,k2,k3,⟨?_,λr y hy=>?_⟩,k5⟩
  ·show(match H.ob c with|some x=>some x|none=>N c)=none
   rw[k4.1];exact hc b d c _ hb k1
  ·have hy:(match H.ob r with|some x=>some x|none=>N r)=some (.it y):=hy
   split at hy
   ·rename_i z hz;cases hy;exact k4.2 r y hz
   ·exact absurd hy (hni r y),h.ob.i⟩⟩
theorem cn{P:Program}{g:FuncId}{args fargs:List AV}{H:AH}{Pr:(Nat->Option OB)->Prop}{fG:(Nat->Option OB)->List RT->(Nat->Option OB)->Prop}{Q:AV->AH->Prop}(M:List Nat)(hcv:ck M H args fargs)(h:wZ P g fargs Pr fG)(hpre:Pr H.ob)(hnx:H.next+9<2^40)
  (hQ:∀rs N,fG H.ob rs N->(∀r x,N r=some x->H.ob r=none)->Q (a9 (bT (bg H M) rs).1) ((bT (bg H M) rs).2.addOb N)):ks P g args H Q:=by
 replace h:=h H.ob hpre
 refine⟨h.1,λB σ w args' hH ha=>?_⟩
 obtain⟨σ2,q1,q2,q3,q4,q5,q6,q7⟩:=hH.marks M
 have hd:aX (Sg.data σ2.fz) fargs args'.toList:=hcv.ok hH q1 q2 q7 ha
 have hin:pE σ2.fz w:=λc fs hf=>by
  obtain⟨cs,t,fr,e1,e2,_⟩:=q6.frz c fs hf
  exact⟨cs,t,fr,e1,e2⟩
 refine(h.2 σ2.fz w args' hin hd hH.ob.o.lend).mono λe w' hp=>?_
 cases e with
 |panicked c=>exact hp.elim
 |outgrown=>exact hp.elim
 |returned u=>
  obtain⟨v,Hc,σ',⟨rs,N,l,hpost,rfl,hr,hN⟩,hv,hHc,hbel,hfz⟩:=hp
  obtain⟨us,hus,hback⟩:=fO hv
  let σa:Sg:=⟨σ2.nm,σ2.nl,σ'.fz⟩
  have hle:σ2.le σa:=⟨λ_ _ hh=>hh,λ_ hh=>hh,λc fs hf=>⟨fs,by show σ'.fz c=_;rw[hfz c (q6.fzlt hf)];exact hf,gV.refl _⟩⟩
  have hblt:∀b c o,σa b=some (c,o)->(bg H M).at b≠none->c<w.heap.size:=λb c o hs hne=>by
   cases hx:(bg H M).at b with
   |none=>exact absurd hx hne
   |some x=>
    obtain⟨cs,e1,e2,e3⟩:=q6.blk b x c o hx hs
    exact(Array.getElem?_eq_some_iff.1 e2).1
  have hHa:HR B σa (bg H M) w':=by
   refine⟨q6.new,q6.newl,q6.old,q6.small,Nat.le_trans q6.hB hbel.size,q6.nil,q6.nilp,λb x c o hx hs=>?_,q6.szs,q6.inj,λc fs hf=>?_,(q6.ob.mono hle).keep λr hr _=>hbel.block r hr⟩
   ·obtain⟨cs,e1,e2,e3⟩:=q6.blk b x c o hx hs
    exact⟨cs,e1,by rw[hbel.block c ((Array.getElem?_eq_some_iff.1 e2).1)];exact e2,e3.mono hle⟩
   ·by_cases hc:c<w.heap.size
    ·have hf':σ'.fz c=some fs:=hf
     rw[hfz c hc] at hf'
     obtain⟨cs,t,fr,e1,e2,e3⟩:=q6.frz c fs hf'
     exact⟨cs,t,fr,by rw[hbel.block c hc];exact e1,e2,e3⟩
    ·obtain⟨cs,t,fr,e1,e2,_⟩:=hHc.frz c fs hf
     refine⟨cs,t,fr,e1,e2,λb x o hx hs=>?_⟩
     have:=hblt b c o hs (by rw[hx];simp)
     omega
  have hnx':(bg H M).next+9<2^40:=by rw[dc];exact hnx
  have hmm:∀{a:AV} {u:Value} {σn:Sg},a.pu 3=true->True->σa.le σn->VR σ' a u->VR σn a u:=λhp _ hle' hu=>by
   have e1:=hu.pure 3 hp
   have e2:σ'.bare.le _:=⟨λb x hx=>(by cases hx),λb hb=>False.elim hb,λc' fs hf=>hle'.fz c' fs hf⟩
   exact e1.mono e2
  obtain⟨σ3,p1,p2,p3,p4,p5,p6,p7,p8⟩:=kJ (σa:=σa) (good:=λ_=>True) hmm hHc hHa (λc fs _ hf=>hf) hH.hB hblt hnx' rs l us hr (λr _=>pN r) hus
  rw[dc] at p5 p6 p8
  rw[iV] at p7
  have hfree:∀r x,N r=some x->H.ob r=none:=λr x hx=>by
   cases ho:H.ob r with
   |none=>rfl
   |some y=>
    have h1:=hH.ob.o.lt ho
    obtain⟨h2,h3⟩:=hN r x hx
    cases x with
    |mp x=>
     have:=(hHc.ob.o r _ h2).1 h3
     omega
    |it y=>cases h3
    |fix o=>cases h3
  refine⟨_,_,σ3,hQ rs N hpost hfree,hback (ef rs l _ hr) p2,p1.addOb (by rw[pF,mB]) (λr x hx=>(hHc.ob.o r x (hN r x hx).1).down ⟨Nat.le_trans hH.hB hbel.size,hH.hB⟩) (λb d c o hb hs=>?_) (λr y hy=>by have:=(hN r _ hy).2;cases this),⟨λb hb=>?_,(q1.trans hle).trans p3,p6,by show(bT (bg H M) rs).2.low<=_;rw[p7];exact Nat.le_refl _,?_,λc hc=> .inl (hbel.block c hc),λb c o hb hs hc=>?_⟩,⟨λc hc=>?_,((q1.trans hle).trans p3).fz⟩⟩
  ·rw[ut,qQ] at hb
   obtain⟨c0,es,clock,k1,k2,k3,k4,k5⟩:=hH.ob.m b d hb
   have hbn:b<H.next:=by
    rcases Nat.lt_or_ge b H.next with h1|h1
    ·exact h1
    ·rw[hH.new b h1] at k1;cases k1
   have hc:σ3 b=some (c0,none):=by rw[p5 b hbn];show σ2.nm b=_;rw[q2];exact k1
   rw[hc] at hs
   have ec:c0=c:=congrArg Prod.fst (Option.some.inj hs)
   subst ec
   cases hNc:N c0 with
   |none=>rfl
   |some x=>
    obtain⟨h2,h3⟩:=hN c0 x hNc
    have hlt:=(Array.getElem?_eq_some_iff.1 k3).1
    cases x with
    |mp x=>have:=(hHc.ob.o c0 _ h2).1 h3;omega
    |it y=>cases h3
    |fix o=>cases h3
  ·rw[p5 b hb];show σ2.nm b=σ.nm b;rw[q2]
  ·exact⟨hbel.os,hbel.tape,hbel.output,hbel.size,λk hk=>hbel.block k (by have:=hH.hB;omega)⟩
  ·have:=p8 b c o hb hs
   omega
  ·rw[p4]
   show σ'.fz c=σ.fz c
   rw[hfz c (by have:=hH.hB;omega),q4.eq c hc]
theorem dh.lstj{r:Nat->Option Nat}{M:List Nat}{H:AH}{b esz ty:Nat}{l:List AV}{x:AB}(hx:H.at b=some x)(h1:x.ty=ty)(h2:x.esz=esz)(h3:x.opn=false)(h4:x.size=l.length)(h5:x.fzn=0)(hM:M.contains b=false)(hl:l.length<1000000)(hg:∀i,i<l.length->Wv r M H (x.get i) (l[i]?.getD .u)):dh r M H b (ae esz ty l):=by
 refine⟨x,hx,h1.symm,h2.symm,h3.symm,rfl,.inl h4.symm,by rw[if_neg (by simpa using hM),h5];exact Nat.zero_le _,λi hi=>?_⟩
 have hi':i<l.length:=hi
 rw[jU esz ty l i hl]
 exact hg i hi'
theorem Cv.ownb{M:List Nat}{H:AH}{b ty esz n z:Nat}{row:Nat->Nat->AV}(hx:H.at b=some (ai ty esz n z row))(hc:∀i j,i<n->j<esz->(row i j).cell=true)(hm:b ∈ M):Cv M H (.os b n) (.fs esz n row):=
 .os hm hx (Nat.le_refl _) (λi j _ hj=>aJ i j hj) hc
theorem Z8{i:Nat}(h:i<2):i=0\/i=1:=by omega
theorem lt3z{i:Nat}(h:i<3):i=0\/i=1\/i=2:=by omega
theorem lt4z{i:Nat}(h:i<4):i=0\/i=1\/i=2\/i=3:=by omega
theorem Z5{i:Nat}(h:i<1):i=0:=by omega
theorem dh.j1{r:Nat->Option Nat}{M:List Nat}{H:AH}{b esz ty:Nat}{l:List AV}{x:AB}(hx:H.at b=some x:=by simp only[go_sem,simprocAttr]<;>rfl)(h1:x.ty=ty:=by rfl)(h2:x.esz=esz:=by rfl)(h3:x.opn=false:=by rfl)(h4:x.size=l.length:=by rfl)(h5:x.fzn=0:=by rfl)(hM:M.contains b=false:=by rfl)(hl:l.length<1000000:=by simp)(hg:∀i,i<l.length->Wv r M H (x.get i) (l[i]?.getD .u):=by intro i hi;rcases Z5 hi with rfl<;>(simp only[go_sem,simprocAttr];first|exact Wv.same rfl|exact Wv.os rfl|exact Wv.p rfl|exact Wv.n (by omega))):dh r M H b (ae esz ty l):= .lstj hx h1 h2 h3 h4 h5 hM hl hg
theorem Z4{i:Nat}(h:i<2):i=0\/i=1:=by omega
theorem dh.j2{r:Nat->Option Nat}{M:List Nat}{H:AH}{b esz ty:Nat}{l:List AV}{x:AB}(hx:H.at b=some x:=by simp only[go_sem,simprocAttr]<;>rfl)(h1:x.ty=ty:=by rfl)(h2:x.esz=esz:=by rfl)(h3:x.opn=false:=by rfl)(h4:x.size=l.length:=by rfl)(h5:x.fzn=0:=by rfl)(hM:M.contains b=false:=by rfl)(hl:l.length<1000000:=by simp)(hg:∀i,i<l.length->Wv r M H (x.get i) (l[i]?.getD .u):=by intro i hi;rcases Z4 hi with rfl|rfl<;>(simp only[go_sem,simprocAttr];first|exact Wv.same rfl|exact Wv.os rfl|exact Wv.p rfl|exact Wv.n (by omega))):dh r M H b (ae esz ty l):= .lstj hx h1 h2 h3 h4 h5 hM hl hg
theorem Z3{i:Nat}(h:i<3):i=0\/i=1\/i=2:=by omega
theorem dh.j3{r:Nat->Option Nat}{M:List Nat}{H:AH}{b esz ty:Nat}{l:List AV}{x:AB}(hx:H.at b=some x:=by simp only[go_sem,simprocAttr]<;>rfl)(h1:x.ty=ty:=by rfl)(h2:x.esz=esz:=by rfl)(h3:x.opn=false:=by rfl)(h4:x.size=l.length:=by rfl)(h5:x.fzn=0:=by rfl)(hM:M.contains b=false:=by rfl)(hl:l.length<1000000:=by simp)(hg:∀i,i<l.length->Wv r M H (x.get i) (l[i]?.getD .u):=by intro i hi;rcases Z3 hi with rfl|rfl|rfl<;>(simp only[go_sem,simprocAttr];first|exact Wv.same rfl|exact Wv.os rfl|exact Wv.p rfl|exact Wv.n (by omega))):dh r M H b (ae esz ty l):= .lstj hx h1 h2 h3 h4 h5 hM hl hg
theorem Z2{i:Nat}(h:i<4):i=0\/i=1\/i=2\/i=3:=by omega
theorem dh.j4{r:Nat->Option Nat}{M:List Nat}{H:AH}{b esz ty:Nat}{l:List AV}{x:AB}(hx:H.at b=some x:=by simp only[go_sem,simprocAttr]<;>rfl)(h1:x.ty=ty:=by rfl)(h2:x.esz=esz:=by rfl)(h3:x.opn=false:=by rfl)(h4:x.size=l.length:=by rfl)(h5:x.fzn=0:=by rfl)(hM:M.contains b=false:=by rfl)(hl:l.length<1000000:=by simp)(hg:∀i,i<l.length->Wv r M H (x.get i) (l[i]?.getD .u):=by intro i hi;rcases Z2 hi with rfl|rfl|rfl|rfl<;>(simp only[go_sem,simprocAttr];first|exact Wv.same rfl|exact Wv.os rfl|exact Wv.p rfl|exact Wv.n (by omega))):dh r M H b (ae esz ty l):= .lstj hx h1 h2 h3 h4 h5 hM hl hg
theorem Z1{i:Nat}(h:i<5):i=0\/i=1\/i=2\/i=3\/i=4:=by omega
theorem dh.j5{r:Nat->Option Nat}{M:List Nat}{H:AH}{b esz ty:Nat}{l:List AV}{x:AB}(hx:H.at b=some x:=by simp only[go_sem,simprocAttr]<;>rfl)(h1:x.ty=ty:=by rfl)(h2:x.esz=esz:=by rfl)(h3:x.opn=false:=by rfl)(h4:x.size=l.length:=by rfl)(h5:x.fzn=0:=by rfl)(hM:M.contains b=false:=by rfl)(hl:l.length<1000000:=by simp)(hg:∀i,i<l.length->Wv r M H (x.get i) (l[i]?.getD .u):=by intro i hi;rcases Z1 hi with rfl|rfl|rfl|rfl|rfl<;>(simp only[go_sem,simprocAttr];first|exact Wv.same rfl|exact Wv.os rfl|exact Wv.p rfl|exact Wv.n (by omega))):dh r M H b (ae esz ty l):= .lstj hx h1 h2 h3 h4 h5 hM hl hg
theorem Z0{i:Nat}(h:i<6):i=0\/i=1\/i=2\/i=3\/i=4\/i=5:=by omega
theorem dh.j6{r:Nat->Option Nat}{M:List Nat}{H:AH}{b esz ty:Nat}{l:List AV}{x:AB}(hx:H.at b=some x:=by simp only[go_sem,simprocAttr]<;>rfl)(h1:x.ty=ty:=by rfl)(h2:x.esz=esz:=by rfl)(h3:x.opn=false:=by rfl)(h4:x.size=l.length:=by rfl)(h5:x.fzn=0:=by rfl)(hM:M.contains b=false:=by rfl)(hl:l.length<1000000:=by simp)(hg:∀i,i<l.length->Wv r M H (x.get i) (l[i]?.getD .u):=by intro i hi;rcases Z0 hi with rfl|rfl|rfl|rfl|rfl|rfl<;>(simp only[go_sem,simprocAttr];first|exact Wv.same rfl|exact Wv.os rfl|exact Wv.p rfl|exact Wv.n (by omega))):dh r M H b (ae esz ty l):= .lstj hx h1 h2 h3 h4 h5 hM hl hg
theorem t0{ty esz n z q:Nat}{row:Nat->Nat->AV}{l:List AV}(hl:l.length=esz)(hq:q<n)(hn:n*esz<1000000):∀i j,i<n->j<esz->((ai ty esz n z row).putN (q*esz) l).get (i*esz+j)=if i=q then l[j]?.getD .u else row i j:=by
 intro i j hi hj
 have hql:q*esz+esz<=n*esz:=by
  have:=Nat.mul_le_mul_right esz (Nat.succ_le_of_lt hq)
  rwa [Nat.succ_mul] at this
 rw[dw (by omega)]
 by_cases e:i=q
 ·subst e
  rw[if_pos (by omega),if_pos rfl,Nat.add_sub_cancel_left]
 ·rw[if_neg e,if_neg ?_]
  ·exact aJ i j hj
  ·rintro ⟨h1,h2⟩
   rcases Nat.lt_or_gt_of_ne e with h|h
   ·have:=Nat.mul_le_mul_right esz (Nat.succ_le_of_lt h)
    rw[Nat.succ_mul] at this
    omega
   ·have:=Nat.mul_le_mul_right esz (Nat.succ_le_of_lt h)
    rw[Nat.succ_mul] at this
    omega
theorem dh.put{r:Nat->Option Nat}{M:List Nat}{H:AH}{b ty esz n z q o:Nat}{row row2:Nat->Nat->AV}{l:List AV}(hx:H.at b=some ((ai ty esz n z row).putN o l))(ho:o=q*esz)(hl:l.length=esz)(hq:q<n)(hM:M.contains b=false)(h0:0<esz)(hn:n*esz<1000000)
  (h2:∀i j,i<n->j<esz->(if i=q then l[j]?.getD .u else row i j)=row2 i j) (hc:∀i j,i<n->j<esz->(row2 i j).pu 3=true):dh r M H b (ai ty esz n z row2):=by
 subst ho
 exact dh.rows hx rfl rfl rfl (Nat.le_refl _) (by rw[if_neg (by simpa using hM)];exact Nat.le_refl _) h0 (λi j hi hj=>(t0 hl hq hn i j hi hj).trans (h2 i j hi hj)) hc
theorem dh.same{r:Nat->Option Nat}{M:List Nat}{H:AH}{b ty esz n z:Nat}{row row2:Nat->Nat->AV}(hx:H.at b=some (ai ty esz n z row))(hM:M.contains b=false)(h0:0<esz)(h2:∀i j,i<n->j<esz->row i j=row2 i j)(hc:∀i j,i<n->j<esz->(row2 i j).pu 3=true):dh r M H b (ai ty esz n z row2):=
 dh.rows hx rfl rfl rfl (Nat.le_refl _) (by rw[if_neg (by simpa using hM)];exact Nat.le_refl _) h0 (λi j hi hj=>(aJ i j hj).trans (h2 i j hi hj)) hc
theorem dh.s1{r:Nat->Option Nat}{M:List Nat}{H:AH}{b ty n z:Nat}{row row2:Nat->Nat->AV}(hx:H.at b=some (ai ty 1 n z row):=by simp only[go_sem,simprocAttr]<;>rfl)(hM:M.contains b=false:=by rfl)(h2:∀i j,i<n->j<1->row i j=row2 i j:=by intro _ j _ hj;cases Nat.lt_one_iff.1 hj;rfl)(hc:∀i j,i<n->j<1->(row2 i j).pu 3=true:=by intro _ _ _ _;rfl):dh r M H b (ai ty 1 n z row2):= .same hx hM (by decide) h2 hc
theorem dh.pop{r:Nat->Option Nat}{M:List Nat}{H:AH}{b ty esz n m z:Nat}{row row2:Nat->Nat->AV}(hx:H.at b=some (ai ty esz n z row))(hM:M.contains b=false)(h0:0<esz)(hm:m<=n)(h2:∀i j,i<m->j<esz->row i j=row2 i j)(hc:∀i j,i<m->j<esz->(row2 i j).pu 3=true):dh r M H b (ai ty esz m z row2):=
 dh.rows hx rfl rfl rfl (Nat.mul_le_mul_right esz hm) (by rw[if_neg (by simpa using hM)];exact Nat.le_refl _) h0 (λi j hi hj=>(aJ i j hj).trans (h2 i j hi hj)) hc
theorem eV{l:List Int}{q:Nat}(hq:q<l.length)(v:Int)(i:Nat):(l.set q v).getD i 0=if i=q then v else l.getD i 0:=by
 simp only[List.getD_eq_getElem?_getD,List.getElem?_set]
 by_cases h:q=i
 ·subst h;simp[hq]
 ·simp[h,Ne.symm h]
theorem ig{ty n z:Nat}{row:Nat->Nat->AV}(i:Nat):(ai ty 1 n z row).get i=row i 0:=by
 have:=aJ (ty:=ty) (n:=n) (z:=z) (row:=row) i 0 (by decide:0<1)
 simpa using this
theorem dh.snoc{r:Nat->Option Nat}{M:List Nat}{H:AH}{b ty esz n z o:Nat}{row row2:Nat->Nat->AV}{l:List AV}(hx:H.at b=some ((ai ty esz n z row).app o (.li l)))(ho:o=n*esz)(hl:l.length=esz)(hM:M.contains b=false)(h0:0<esz)(hn:(n+1)*esz<2^40)
  (h1:∀i j,i<n->j<esz->row2 i j=row i j) (h2:∀j,j<esz->row2 n j=l[j]?.getD .u) (hc:∀i j,i<n+1->j<esz->(row2 i j).pu 3=true):dh r M H b (ai ty esz (n+1) z row2):=by
 subst ho
 refine dh.rows hx (AB.app_rest _ _ _).2.1 (AB.app_rest _ _ _).1 (AB.app_rest _ _ _).2.2.1 ?_ ?_ h0 (ma hl hn h1 h2) hc
 ·rw[AB.app_size];simp only[dZ.len,hl,Nat.succ_mul];exact Nat.le_refl _
 ·rw[if_neg (by simpa using hM),(AB.app_rest _ _ _).2.2.2.2];exact Nat.le_refl _
theorem ll{α:Type}{l l':List α}{i:Nat}{d:α}(h:i<l.length):(l++l').getD i d=l.getD i d:=by
 simp[List.getD_eq_getElem?_getD,List.getElem?_append_left h]
theorem lm{α:Type}{l:List α}{x d:α}:(l++[x]).getD l.length d=x:=by
 simp[List.getD_eq_getElem?_getD]
theorem dh.put1{r:Nat->Option Nat}{M:List Nat}{H:AH}{b ty esz n z q t o:Nat}{row row2:Nat->Nat->AV}{v:AV}(hx:H.at b=some ((ai ty esz n z row).putN o [v]))(ho:o=q*esz+t)(ht:t<esz)(hq:q<n)(hM:M.contains b=false)(hn:n*esz<1000000)
  (h2:∀i j,i<n->j<esz->(if i=q/\j=t then v else row i j)=row2 i j) (hc:∀i j,i<n->j<esz->(row2 i j).pu 3=true):dh r M H b (ai ty esz n z row2):=by
 subst ho
 have hql:q*esz+esz<=n*esz:=by
  have:=Nat.mul_le_mul_right esz (Nat.succ_le_of_lt hq)
  rwa [Nat.succ_mul] at this
 refine dh.rows hx rfl rfl rfl (Nat.le_refl _) (by rw[if_neg (by simpa using hM)];exact Nat.le_refl _) (by omega) (λi j hi hj=>?_) hc
 rw[dw (by simp only[List.length_cons,List.length_nil];omega)]
 by_cases e:i=q/\j=t
 ·obtain⟨rfl,rfl⟩:=e
  rw[if_pos (by simp),<-h2 i j hi hj,if_pos ⟨rfl,rfl⟩,Nat.sub_self]
  rfl
 ·rw[if_neg ?_,<-h2 i j hi hj,if_neg e]
  ·exact aJ i j hj
  ·rintro ⟨h3,h4⟩
   simp only[List.length_cons,List.length_nil] at h4
   have h5:i*esz+j=q*esz+t:=by omega
   rcases Nat.lt_trichotomy i q with h|h|h
   ·have:=Nat.mul_le_mul_right esz (Nat.succ_le_of_lt h)
    rw[Nat.succ_mul] at this
    omega
   ·subst h
    exact e ⟨rfl,by omega⟩
   ·have:=Nat.mul_le_mul_right esz (Nat.succ_le_of_lt h)
    rw[Nat.succ_mul] at this
    omega
theorem HR.recell{B:Nat}{σ:Sg}{H:AH}{w:World}{b:Nat}{x x':AB}(h:HR B σ H w)(hx:H.at b=some x)(hb:b<1000000)(hsz:x'.size=x.size)(hty:x'.ty=x.ty)(hesz:x'.esz=x.esz)(hop:x'.opn=x.opn)(hlv:x'.live=true)(hfz:x'.fzn=x.fzn)
  (hc:∀i u,i<x.size->VR σ (x.get i) u->VR σ (x'.get i) u):HR B σ (H.upd b x') w:=by
 have look:∀b2 y,(H.upd b x').at b2=some y->(b2=b/\y=x')\/(b2≠b/\H.at b2=some y):=by
  intro b2 y hy
  rw[tA hb] at hy
  by_cases e:b2=b
  ·rw[if_pos e,if_pos hlv] at hy;cases hy;exact .inl ⟨e,rfl⟩
  ·rw[if_neg e] at hy;exact .inr ⟨e,hy⟩
 refine⟨h.new,h.newl,λb2 hb2=>?_,h.small,h.hB,λb2 y hy hn=>?_,h.nilp,λb2 y c o hy hs=>?_,λb2 y hy=>?_,λb2 b3 y y' c o o' k1 k2 k3 k4=>?_,λc fs hf=>?_,h.ob⟩
 ·cases hy:(H.upd b x').at b2 with
  |none=>rfl
  |some y=>
   rcases look b2 y hy with⟨rfl,_⟩|⟨_,h1⟩
   ·have:=h.old b2 hb2;rw[hx] at this;cases this
   ·have:=h.old b2 hb2;rw[h1] at this;cases this
 ·rcases look b2 y hy with⟨rfl,rfl⟩|⟨_,h1⟩
  ·have:=h.nil b2 x hx hn
   exact⟨by rw[hsz];exact this.1,by rw[hop];exact this.2.1,this.2.2⟩
  ·exact h.nil b2 y h1 hn
 ·rcases look b2 y hy with⟨rfl,rfl⟩|⟨_,h1⟩
  ·obtain⟨cs,g1,g2,g3⟩:=h.blk b2 x c o hx hs
   exact⟨cs,g1,by rw[hty];exact g2,by rw[hsz];exact g3.sz,λe=>by rw[hsz];exact g3.ex e,λk hk=>by rw[hesz];exact g3.op k hk,by rw[hop];exact g3.ob,λi hi=>hc i _ (by rw[<-hsz];exact hi) (g3.cell i (by rw[<-hsz];exact hi))⟩
  ·exact h.blk b2 y c o h1 hs
 ·rcases look b2 y hy with⟨rfl,rfl⟩|⟨_,h1⟩
  ·rw[hsz];exact h.szs b2 x hx
  ·exact h.szs b2 y h1
 ·have f:∀b2 y,(H.upd b x').at b2=some y->∃z,H.at b2=some z:=λb2 y hy=>by
   rcases look b2 y hy with⟨rfl,rfl⟩|⟨_,h1⟩
   ·exact⟨x,hx⟩
   ·exact⟨y,h1⟩
  obtain⟨z1,hz1⟩:=f b2 y k1
  obtain⟨z2,hz2⟩:=f b3 y' k2
  exact h.inj b2 b3 z1 z2 c o o' hz1 hz2 k3 k4
 ·obtain⟨cs,t,fr,g1,g2,g3⟩:=h.frz c fs hf
  refine⟨cs,t,fr,g1,g2,λb2 y o hy hs=>?_⟩
  rcases look b2 y hy with⟨rfl,rfl⟩|⟨_,h1⟩
  ·rw[hfz];exact g3 b2 x o hx hs
  ·exact g3 b2 y o h1 hs
theorem Wk.nilb{n:Nat}{e:Tr AV}{H:AH}(b i esz ty:Nat){x:AB}(hx:H.at b=some x)(hg:x.get i= .sl0)(hi:i<1000000)(hb:b<1000000)(hbn:b<H.next)(hlv:x.live=true)(hn:H.next<1000000):
  Wk n e H e ((H.new (gp esz ty)).upd b (x.set i (.os H.next 0))):=by
 intro B σ a w hE hH
 have hle:=σ.le_extNil H.next
 have h1:=hH.placeNil (x:=gp esz ty) (H1:=H) rfl (λ_ _ h=>h) (by omega) rfl rfl rfl ⟨rfl,rfl⟩
 refine⟨σ.extNil H.next,⟨⟨hE.er.df,λt' v hv=>(hE.er.get t' v hv).mono hle⟩,hE.sz,hE.sm⟩,?_,.of_eq rfl⟩
 have hx1:(H.new (gp esz ty)).at b=some x:=by rw[dX hn,if_neg (by omega)];exact hx
 refine h1.recell hx1 hb rfl rfl rfl rfl hlv rfl (λj u hj hu=>?_)
 rw[o7 hi]
 by_cases e:j=i
 ·rw[if_pos e]
  rw[e,hg] at hu
  cases hu
  exact .os0 (σ:=σ.extNil H.next) (Or.inl rfl) _
 ·rw[if_neg e];exact hu
end Go.Proofs.YtdpkgnmmikebdaaGreat