/- A part of the proof of CostOrders: EvS Tab EvMh EvZ. No condition. -/
import Derived.Test.YthehakngpbjgjaaGreatGb14
set_option linter.unusedSimpArgs false
set_option linter.unusedVariables false
set_option linter.constructorNameAsVariable false
set_option maxRecDepth 100000
set_option maxHeartbeats 4000000
namespace Go.Proofs.YthehakngpbjgjaaGreat
open Go.RowKit
/-! what follows an operation,closed till its value is there-/
def ou(P:Program)(l:List AO)(e:Tr AV)(d:Option Nat)(Q:Tr AV->AH->Prop)(v:AV)(H:AH):Prop:=cC P l (av e d v) H Q
theorem kd(P:Program)(l:List AO)(e:Tr AV)(d:Option Nat)(Q:Tr AV->AH->Prop)(v:AV)(H:AH):ou P l e d Q v H=cC P l (av e d v) H Q:=id rfl
theorem ko(P:Program)(e:Tr AV)(H:AH)(Q:Tr AV->AH->Prop):cC P [] e H Q=Q e H:=id rfl
def Pd(P:Program)(d:Option Nat)(k:AK)(l:List AO)(e:Tr AV)(H:AH)(Q:Tr AV->AH->Prop):Option Bool->Prop
 |some true=>gK P e H k (ou P l e d Q)
 |some false=>cC P l (av e d (.tup [])) H Q
 |none=>False
theorem km(P:Program)(d:Option Nat)(k:AK)(l:List AO)(e:Tr AV)(H:AH)(Q:Tr AV->AH->Prop):Pd P d k l e H Q (some true)=gK P e H k (ou P l e d Q):=id rfl
theorem iE(P:Program)(d:Option Nat)(k:AK)(l:List AO)(e:Tr AV)(H:AH)(Q:Tr AV->AH->Prop):Pd P d k l e H Q (some false)=cC P l (av e d (.tup [])) H Q:=id rfl
theorem iJ(P:Program)(d:Option Nat)(g:Option (Nat×Bool))(k:AK)(l:List AO)(e:Tr AV)(H:AH)(Q:Tr AV->AH->Prop):cC P (⟨d,g,k⟩::l) e H Q=Pd P d k l e H Q (aD e g):=by
 show(match aD e g with
  |some t=>(t=true->gK P e H k (ou P l e d Q))/\(t=false->cC P l (av e d (.tup [])) H Q)
  |none=>False)=_
 cases aD e g with
 |none=>rfl
 |some t=>cases t<;>simp[Pd]
def kT(r:Option (AV×AH))(Q:AV->AH->Prop):Prop:=match r with
  |some (v,H')=>Q v H'
  |none=>False
theorem fV(v:AV)(H:AH)(Q:AV->AH->Prop):kT (some (v,H)) Q=Q v H:=id rfl
theorem fW(Q:AV->AH->Prop):kT none Q=False:=id rfl
theorem OX(P:Program)(e:Tr AV)(H:AH)(x:AP)(Q:AV->AH->Prop):gK P e H (.ap x) Q=kT (x.run e H) Q:=id rfl
def QD(neg:Bool)(H:AH)(Q:AV->AH->Prop):Option AV->Prop
 |some (.fs _ n _)=>∀t,(t=(!neg)->n=0)->Q (.b t) H
 |some .sl0=>∀t,Q (.b t) H
 |_=>False
theorem OU(P:Program)(e:Tr AV)(H:AH)(neg:Bool)(x:AX)(Q:AV->AH->Prop):gK P e H (.sn neg x) Q=QD neg H Q (x.ev e):=id rfl
theorem Ay(neg:Bool)(H:AH)(Q:AV->AH->Prop)(esz n:Nat)(row:Nat->Nat->AV):QD neg H Q (some (.fs esz n row))=∀t,(t=(!neg)->n=0)->Q (.b t) H:=rfl
theorem nS(neg:Bool)(H:AH)(Q:AV->AH->Prop):QD neg H Q (some .sl0)=∀t,Q (.b t) H:=id rfl
theorem OW(P:Program)(e:Tr AV)(H:AH)(f:AX)(args:List AX)(Q:AV->AH->Prop):gK P e H (.cl f args) Q=match f.ev e,ku e args with
  |some (.f g first cap),some vs=>cI P g (first++vs++cap) H Q
  |_,_=>False:=id rfl
def fO(P:Program)(H0:AH)(m:Nat)(nc:Bool)(l:List (Nat×AO))(e:Tr AV)(d:Option Nat)(Q:Tr AV->AH->Prop)(v:AV)(H:AH):Prop:=bu P H0 m nc l (av e d v) H Q
theorem ke(P:Program)(H0:AH)(m:Nat)(nc:Bool)(l:List (Nat×AO))(e:Tr AV)(d:Option Nat)(Q:Tr AV->AH->Prop)(v:AV)(H:AH):fO P H0 m nc l e d Q v H=bu P H0 m nc l (av e d v) H Q:=id rfl
def gB(P:Program)(H0:AH)(m:Nat)(nc:Bool)(k:Nat)(l:List (Nat×AO))(e:Tr AV)(d:Option Nat)(Q:Tr AV->AH->Prop)(v:AV)(H:AH):Prop:=(k=3\/m<=H.low)/\bu P H0 m nc l (av e d v) H Q
theorem iA(P:Program)(H0:AH)(m:Nat)(nc:Bool)(k:Nat)(l:List (Nat×AO))(e:Tr AV)(d:Option Nat)(Q:Tr AV->AH->Prop)(v:AV)(H:AH):gB P H0 m nc k l e d Q v H=((k=3\/m<=H.low)/\bu P H0 m nc l (av e d v) H Q):=id rfl
theorem kp(P:Program)(H0:AH)(m:Nat)(nc:Bool)(e:Tr AV)(H:AH)(Q:Tr AV->AH->Prop):bu P H0 m nc [] e H Q=Q e H:=id rfl
def Pe(P:Program)(H0:AH)(m:Nat)(nc:Bool)(k:Nat)(d:Option Nat)(a:AK)(l:List (Nat×AO))(e:Tr AV)(H:AH)(Q:Tr AV->AH->Prop):Option Bool->Prop
 |some true=>if k=1 then cn H0 m nc e a/\gK P e H a (fO P H0 m nc l e d Q)
    else if k=2 then dH a=true/\gK P e H a (fO P H0 m nc l e d Q)
    else gK P e H a (gB P H0 m (nc&& !eY a) k l e d Q)
 |some false=>(k=0->m<=H.low)/\bu P H0 m nc l (av e d (.tup [])) H Q
 |none=>False
theorem kn(P:Program)(H0:AH)(m:Nat)(nc:Bool)(k:Nat)(d:Option Nat)(a:AK)(l:List (Nat×AO))(e:Tr AV)(H:AH)(Q:Tr AV->AH->Prop):Pe P H0 m nc k d a l e H Q (some true)=if k=1 then cn H0 m nc e a/\gK P e H a (fO P H0 m nc l e d Q)
    else if k=2 then dH a=true/\gK P e H a (fO P H0 m nc l e d Q)
    else gK P e H a (gB P H0 m (nc&& !eY a) k l e d Q):=id rfl
theorem iG(P:Program)(H0:AH)(m:Nat)(nc:Bool)(k:Nat)(d:Option Nat)(a:AK)(l:List (Nat×AO))(e:Tr AV)(H:AH)(Q:Tr AV->AH->Prop):Pe P H0 m nc k d a l e H Q (some false)=((k=0->m<=H.low)/\bu P H0 m nc l (av e d (.tup [])) H Q):=id rfl
theorem iK(P:Program)(H0:AH)(m:Nat)(nc:Bool)(k:Nat)(d:Option Nat)(g:Option (Nat×Bool))(a:AK)(l:List (Nat×AO))(e:Tr AV)(H:AH)(Q:Tr AV->AH->Prop):bu P H0 m nc ((k,⟨d,g,a⟩)::l) e H Q=Pe P H0 m nc k d a l e H Q (aD e g):=by
 show(match aD e g with
  |some t=>
   (t=true->if k=1 then cn H0 m nc e a/\gK P e H a (fO P H0 m nc l e d Q)
    else if k=2 then dH a=true/\gK P e H a (fO P H0 m nc l e d Q)
    else gK P e H a (gB P H0 m (nc&& !eY a) k l e d Q))/\
   (t=false->(k=0->m<=H.low)/\bu P H0 m nc l (av e d (.tup [])) H Q)
  |none=>False)=_
 cases aD e g with
 |none=>rfl
 |some t=>cases t<;>simp[Pe]
def gA(P:Program)(m:Nat)(T:AT)(e:Tr AV)(d:Option Nat)(Q:Tr AV->AH->Prop)(v:AV)(H:AH):Prop:=m<=H.low/\bf P m T (av e d v) H Q
theorem iz(P:Program)(m:Nat)(T:AT)(e:Tr AV)(d:Option Nat)(Q:Tr AV->AH->Prop)(v:AV)(H:AH):gA P m T e d Q v H=(m<=H.low/\bf P m T (av e d v) H Q):=id rfl
theorem iH(P:Program)(m:Nat)(e:Tr AV)(H:AH)(Q:Tr AV->AH->Prop):bf P m .fin e H Q=Q e H:=id rfl
theorem fQ(P:Program)(m:Nat)(e:Tr AV)(H:AH)(Q:Tr AV->AH->Prop):bf P m .none e H Q=True:=id rfl
def Pc(P:Program)(m:Nat)(d:Option Nat)(a:AK)(r:AT)(e:Tr AV)(H:AH)(Q:Tr AV->AH->Prop):Option Bool->Prop
 |some true=>gK P e H a (gA P m r e d Q)
 |some false=>m<=H.low/\bf P m r (av e d (.tup [])) H Q
 |none=>False
theorem kl(P:Program)(m:Nat)(d:Option Nat)(a:AK)(r:AT)(e:Tr AV)(H:AH)(Q:Tr AV->AH->Prop):Pc P m d a r e H Q (some true)=gK P e H a (gA P m r e d Q):=id rfl
theorem iC(P:Program)(m:Nat)(d:Option Nat)(a:AK)(r:AT)(e:Tr AV)(H:AH)(Q:Tr AV->AH->Prop):Pc P m d a r e H Q (some false)=(m<=H.low/\bf P m r (av e d (.tup [])) H Q):=id rfl
theorem iI(P:Program)(m:Nat)(d:Option Nat)(g:Option (Nat×Bool))(a:AK)(r more:AT)(e:Tr AV)(H:AH)(Q:Tr AV->AH->Prop):bf P m (.alt ⟨d,g,a⟩ r more) e H Q=(Pc P m d a r e H Q (aD e g)/\bf P m more e H Q):=by
 show((match aD e g with
   |some t=>(t=true->gK P e H a (gA P m r e d Q))/\(t=false->m<=H.low/\bf P m r (av e d (.tup [])) H Q)
   |none=>False)/\bf P m more e H Q)=_
 cases aD e g with
 |none=>rfl
 |some t=>cases t<;>simp[Pc]
theorem kI(H0:AH)(m:Nat)(nc:Bool)(e:Tr AV)(n:Nat)(row:Bool)(x:AX):cn H0 m nc e (.ap (.ld n row x))=match x.ev e with
  |some (.p b _)=>b<m/\(H0.at b).isSome=true
  |some (.fp _ _ _)=>nc=true
  |_=>False:=id rfl
theorem AJ(k:IntKind)(a b:Int):bD (binOp .lss 0 (.int k a) (.int k b))=some (.b (decide (a<b))):=by cases k<;>rfl
theorem AL(k:IntKind)(a b:Int):bD (binOp .leq 0 (.int k a) (.int k b))=some (.b (decide (a<=b))):=by cases k<;>rfl
theorem AM(k:IntKind)(a b:Int):bD (binOp .gtr 0 (.int k a) (.int k b))=some (.b (decide (b<a))):=by cases k<;>rfl
theorem AN(k:IntKind)(a b:Int):bD (binOp .geq 0 (.int k a) (.int k b))=some (.b (decide (b<=a))):=by cases k<;>rfl
theorem AQ(k:IntKind)(a b:Int):bD (binOp .eql 0 (.int k a) (.int k b))=some (.b (decide (a=b))):=by
 cases k<;>(show some (AV.b (a==b))=_;congr)
theorem AD(k:IntKind)(a b:Int):bD (binOp .neq 0 (.int k a) (.int k b))=some (.b (!decide (a=b))):=by
 cases k<;>(show some (AV.b (a != b))=_;congr)
theorem AR(k:IntKind)(a b:Int):bD (binOp .add 0 (.int k a) (.int k b))=some (.n k (k.wrap (a+b))):=by cases k<;>rfl
theorem Az(k:IntKind)(a b:Int):bD (binOp .sub 0 (.int k a) (.int k b))=some (.n k (k.wrap (a-b))):=by cases k<;>rfl
theorem AG(k:IntKind)(a b:Int):bD (binOp .mul 0 (.int k a) (.int k b))=some (.n k (k.wrap (a*b))):=by cases k<;>rfl
theorem AA(b:Bool):bD (Op.unary .not (.bool b))=some (.b (!b)):=rfl
theorem dc{x:Int}(h: -9223372036854775808<=x/\x<=9223372036854775807):IntKind.wrap .i64 x=x:=by
 rw[IntKind.wrap_i64];omega
theorem gS(e:Tr AV):aD e none=some true:=rfl
theorem Wk.arg(n:Nat)(args:List AV)(H:AH)(h:args.length<100000):Wk n (bZ args) H (bo (cE 0 args)) H:=by
 intro B σ a w hE hH
 refine⟨σ,⟨⟨hE.er.df,λt v hv=>hE.er.get t v ?_⟩,hE.sz,hE.sm⟩,hH,.refl _ _⟩
 rw[fh _ _ _ (by omega)] at hv
 rw[bL _ _ (by omega)]
 split at hv
 ·simpa using hv
 ·cases hv
theorem nT{x:AB}{i:Nat}(h:i<1000000)(v:AV)(j:Nat):(x.set i v).get j=if j=i then v else x.get j:=AB.get_set x i j v (by omega)
theorem kj(n esz ty:Nat)(d:Nat->AV)(l:List AV)(o lv:Bool)(z i:Nat)(h:l.length<1000000):AB.get ⟨n,esz,ty,d,bZ l,o,lv,z⟩ i=l[i]?.getD (d i):=by
 simp only[AB.get]
 rw[bL l i (by omega)]
theorem get_nil(n esz ty:Nat)(d:Nat->AV)(o lv:Bool)(z i:Nat):AB.get ⟨n,esz,ty,d,.nil,o,lv,z⟩ i=d i:=id rfl
theorem Wk.nil{n:Nat}{e:Tr AV}{H:AH}(t esz ty:Nat)(ht:e.get t=some .sl0)(hs:t<1000000)(hn:H.next<1000000):Wk n e H (av e (some t) (.os H.next 0)) (H.new (d9 esz ty)):=by
 intro B σ a w hE hH
 have hle:=σ.le_extNil H.next
 refine⟨σ.extNil H.next,⟨⟨hE.er.df,λt' v hv=>?_⟩,hE.sz,hE.sm⟩,hH.placeNil rfl (λ_ _ h=>h) (by omega) rfl rfl rfl ⟨rfl,rfl⟩,.of_eq rfl⟩
 simp only[av] at hv
 rw[Tr.get_set 48 e t _ t' (by omega)] at hv
 by_cases h:t'=t
 ·subst h
  rw[if_pos rfl] at hv
  cases hv
  have:=hE.er.get t' _ ht
  generalize a.tmps.getD t' undef=u at this
  cases this
  exact .os0 (σ:=σ.extNil H.next) (Or.inl rfl) _
 ·rw[if_neg h] at hv
  exact(hE.er.get t' v hv).mono hle
theorem gX(ty esz n z:Nat)(row:Nat->Nat->AV):(aB ty esz n z row).size=n*esz:=id rfl
theorem jt(ty esz n z:Nat)(row:Nat->Nat->AV):(aB ty esz n z row).esz=esz:=id rfl
theorem nX(ty esz n z:Nat)(row:Nat->Nat->AV):(aB ty esz n z row).ty=ty:=id rfl
theorem jr(ty esz n z:Nat)(row:Nat->Nat->AV):(aB ty esz n z row).opn=true:=id rfl
theorem gY(ty esz n z:Nat)(row:Nat->Nat->AV):(aB ty esz n z row).live=true:=id rfl
theorem js(ty esz n z:Nat)(row:Nat->Nat->AV):(aB ty esz n z row).fzn=z:=id rfl
theorem hY(esz ty:Nat):(d9 esz ty).size=0:=id rfl
theorem jH(esz ty:Nat):(d9 esz ty).esz=esz:=id rfl
theorem n7(esz ty:Nat):(d9 esz ty).ty=ty:=id rfl
theorem jF(esz ty:Nat):(d9 esz ty).opn=true:=id rfl
theorem hZ(esz ty:Nat):(d9 esz ty).live=true:=id rfl
theorem jG(esz ty:Nat):(d9 esz ty).fzn=0:=id rfl
theorem k9{l:List AB}(h:l.length<1000000)(x:AB)(b:Nat):(ax (x::l)).at b=if b=l.length then(if x.live then some x else none) else(ax l).at b:=by
 rw[dN,fX (by rw[aQ];exact h),aQ]
theorem eV:∀l:List AB,(ax l).low=2^40
 |[]=>rfl
 |x::l=>eV l
theorem im(esz ty:Nat)(l:List AV):(b7 esz ty l).size=l.length:=id rfl
theorem j3(esz ty:Nat)(l:List AV):(b7 esz ty l).esz=esz:=id rfl
theorem oa(esz ty:Nat)(l:List AV):(b7 esz ty l).ty=ty:=id rfl
theorem jY(esz ty:Nat)(l:List AV):(b7 esz ty l).opn=false:=id rfl
theorem ip(esz ty:Nat)(l:List AV):(b7 esz ty l).live=true:=id rfl
theorem jZ(esz ty:Nat)(l:List AV):(b7 esz ty l).fzn=0:=id rfl
theorem OL(x:Bool):AV.one (.b x)=true:=id rfl
theorem oO(x:Bool):AV.cells (.b x)=[.b x]:=id rfl
theorem OJ(k:IntKind)(x:Int):AV.one (.n k x)=true:=id rfl
theorem oL(k:IntKind)(x:Int):AV.cells (.n k x)=[.n k x]:=id rfl
theorem OH(x:ByteArray):AV.one (.s x)=true:=id rfl
theorem oJ(x:ByteArray):AV.cells (.s x)=[.s x]:=id rfl
theorem Bd:AV.one (.p0)=true:=id rfl
theorem kN:AV.cells (.p0)=[.p0]:=id rfl
theorem OI(b o:Nat):AV.one (.p b o)=true:=id rfl
theorem oK(b o:Nat):AV.cells (.p b o)=[.p b o]:=id rfl
theorem n5:AV.one (.sl0)=true:=id rfl
theorem iT:AV.cells (.sl0)=[.sl0]:=id rfl
theorem Bc(b o l c:Nat):AV.one (.sl b o l c)=true:=id rfl
theorem kM(b o l c:Nat):AV.cells (.sl b o l c)=[.sl b o l c]:=id rfl
theorem Bh:AV.one (.f0)=true:=id rfl
theorem kR:AV.cells (.f0)=[.f0]:=id rfl
theorem OK(g:FuncId)(l1 l2:List AV):AV.one (.f g l1 l2)=true:=id rfl
theorem oM(g:FuncId)(l1 l2:List AV):AV.cells (.f g l1 l2)=[.f g l1 l2]:=id rfl
theorem Bi(v:Value):AV.one (.cv v)=true:=id rfl
theorem kS(v:Value):AV.cells (.cv v)=[.cv v]:=id rfl
theorem Bf(z n:Nat)(r:Nat->Nat->AV):AV.one (.fs z n r)=true:=id rfl
theorem kP(z n:Nat)(r:Nat->Nat->AV):AV.cells (.fs z n r)=[.fs z n r]:=id rfl
theorem Bg(z:Nat)(r:Nat->AV)(j:Nat):AV.one (.fp z r j)=true:=id rfl
theorem kQ(z:Nat)(r:Nat->AV)(j:Nat):AV.cells (.fp z r j)=[.fp z r j]:=id rfl
theorem Be(b n:Nat):AV.one (.os b n)=true:=id rfl
theorem kO(b n:Nat):AV.cells (.os b n)=[.os b n]:=id rfl
theorem iU(l:List AV):AV.cells (.agg l)=l:=id rfl
def AB.fr(x:AB):AB:={x with fzn:=max x.size x.fzn}
theorem kY{H:AH}{b:Nat}(h:b<1000000)(b':Nat):(H.mark b).at b'=if b'=b then(H.at b).map AB.fr else H.at b':=kZ h b'
theorem BE(x:AB)(i:Nat):x.fr.get i=x.get i:=id rfl
theorem oz(x:AB):x.fr.size=x.size:=id rfl
theorem BG(x:AB):x.fr.esz=x.esz:=id rfl
theorem OY(x:AB):x.fr.ty=x.ty:=id rfl
theorem BD(x:AB):x.fr.opn=x.opn:=id rfl
theorem oA(x:AB):x.fr.live=x.live:=id rfl
theorem BF(x:AB):x.fr.fzn=max x.size x.fzn:=id rfl
def fL(esz ty:Nat)(l:List AV):AB:=⟨l.length,esz,ty,λ_=> .u,bZ l,false,true,l.length⟩
theorem ik(esz ty:Nat)(l:List AV):(fL esz ty l).size=l.length:=id rfl
theorem jX(esz ty:Nat)(l:List AV):(fL esz ty l).esz=esz:=id rfl
theorem n9(esz ty:Nat)(l:List AV):(fL esz ty l).ty=ty:=id rfl
theorem jU(esz ty:Nat)(l:List AV):(fL esz ty l).opn=false:=id rfl
theorem il(esz ty:Nat)(l:List AV):(fL esz ty l).live=true:=id rfl
theorem jW(esz ty:Nat)(l:List AV):(fL esz ty l).fzn=l.length:=id rfl
theorem jV(esz ty:Nat)(l:List AV)(i:Nat)(h:l.length<1000000):(fL esz ty l).get i=l[i]?.getD .u:=cY esz ty l i h
theorem bA.get{M:List Nat}{H:AH}:∀{l l':List AV},bA M H l l'->l.length=l'.length/\∀(i:Nat) (v v':AV),l[i]? =some v->l'[i]? =some v'->Cv M H v v'
 |[],[],_=>⟨rfl,λi v v' h=>by simp at h⟩
 |[],_::_,h=>h.elim
 |_::_,[],h=>h.elim
 |x::l,x'::l',h=>by
  obtain⟨h1,h2⟩:=h
  obtain⟨e1,e2⟩:=h2.get
  refine⟨by simp[e1],λi v v' hv hv'=>?_⟩
  cases i with
  |zero=>simp at hv hv';subst hv;subst hv';exact h1
  |succ i=>exact e2 i v v' (by simpa using hv) (by simpa using hv')
theorem Cv.fn{M:List Nat}{H:AH}{g:FuncId}{l1 l2 l1' l2':List AV}(h1:bA M H l1 l1')(h2:bA M H l2 l2'):Cv M H (.f g l1 l2) (.f g l1' l2'):= .f h1.get.1 h2.get.1 h1.get.2 h2.get.2
theorem Cv.box{M:List Nat}{H:AH}{b:Nat}{x:AB}{l:List AV}(hm:M.contains b=true)(hx:H.at b=some x)(hs:x.size=l.length)(h0:0<l.length)(hg:∀j,j<l.length->x.get j=l[j]?.getD .u)(hc:l.all AV.cell=true):Cv M H (.p b 0) (.fp l.length (λj=>l[j]?.getD .u) 0):=
 .p (o:=0) (j:=0) (by simpa using hm) hx (by omega) (by omega) (λq hq=>by rw[Nat.zero_add];exact hg q hq) (λq hq=>by
  rw[List.getElem?_eq_getElem hq]
  exact List.all_eq_true.1 hc _ (List.getElem_mem hq))
theorem app_size(x:AB)(o:Nat)(s:bg):(x.app o s).size=o+s.len:=AB.app_size x o s
theorem oS(x:AB)(o:Nat)(s:bg):(x.app o s).esz=x.esz:=(AB.app_rest x o s).1
theorem BS(x:AB)(o:Nat)(s:bg):(x.app o s).ty=x.ty:=(AB.app_rest x o s).2.1
theorem oP(x:AB)(o:Nat)(s:bg):(x.app o s).opn=true:=(AB.app_rest x o s).2.2.1
theorem lc(x:AB)(o:Nat)(s:bg):(x.app o s).live=true:=(AB.app_rest x o s).2.2.2.1
theorem oQ(x:AB)(o:Nat)(s:bg):(x.app o s).fzn=x.fzn:=(AB.app_rest x o s).2.2.2.2
theorem c9.rows{r:Nat->Option Nat}{M:List Nat}{H:AH}{b ty esz n z:Nat}{row:Nat->Nat->AV}{x:AB}(hx:H.at b=some x)(h1:x.ty=ty)(h2:x.esz=esz)(h3:x.opn=true)(h4:n*esz<=x.size)(h5:(if b ∈ M then max x.size x.fzn else x.fzn)<=z)(h0:0<esz)
  (hr:∀i j,i<n->j<esz->x.get (i*esz+j)=row i j) (hc:∀i j,i<n->j<esz->(row i j).pu 3=true):c9 r M H b (aB ty esz n z row):=by
 refine⟨x,hx,h1.symm,h2.symm,h3.symm,rfl,.inr ⟨h3,h4⟩,h5,λi hi=>?_⟩
 have hi':i<n*esz:=hi
 have hq:i / esz<n:=Nat.div_lt_of_lt_mul (by rw[Nat.mul_comm];exact hi')
 have hm:i%esz<esz:=Nat.mod_lt _ h0
 have hdm:i / esz*esz+i%esz=i:=by
  have:=Nat.div_add_mod i esz
  rw[Nat.mul_comm] at this
  exact this
 have e1:(aB ty esz n z row).get i=row (i / esz) (i%esz):=rfl
 have e2:=hr _ _ hq hm
 rw[hdm] at e2
 rw[e1,e2]
 exact .cv (.rfl (hc _ _ hq hm))
theorem hD(v:AV):aE [v]=v:=id rfl
theorem g9(v v':AV)(l:List AV):aE (v::v'::l)= .tup (v::v'::l):=id rfl
theorem Pa:∀(k:Nat) (v:AV),v.pu k=true->v.pu (k+1)=true:=by
 intro k
 induction k with
 |zero=>intro v h;cases v<;>simp_all [AV.pu]
 |succ k ih=>
  intro v h
  cases v with
  |f g l1 l2=>
   simp only[AV.pu,Bool.and_eq_true,List.all_eq_true] at h ⊢
   exact⟨λx hx=>ih x (h.1 x hx),λx hx=>ih x (h.2 x hx)⟩
  |agg l=>simp only[AV.pu,List.all_eq_true] at h ⊢;exact λx hx=>ih x (h x hx)
  |tup l=>simp only[AV.pu,List.all_eq_true] at h ⊢;exact λx hx=>ih x (h x hx)
  |_=>simp_all [AV.pu]
theorem dz.nil{H:AH}:dz [] [] H:=trivial
theorem dz.v{H:AH}{x v:AV}{rs:List RT}{l:List AV}(h:v=x)(hp:x.pu 3=true)(h':dz rs l H):dz (.v x::rs) (v::l) H:=⟨⟨h,hp⟩,h'⟩
theorem dz.o0{H:AH}{ty esz z:Nat}{row:Nat->Nat->AV}{rs:List RT}{l:List AV}(ha:ey rs=true)(h':dz rs l H):dz (.o ty esz 0 z row::rs) (.sl0::l) H:=⟨.inl ⟨rfl,rfl⟩,ha,h'⟩
theorem dz.o{H:AH}{ty esz n z b:Nat}{x:AB}{row:Nat->Nat->AV}{rs:List RT}{l:List AV}(hx:H.at b=some x)(h1:x.ty=ty)(h2:x.esz=esz)(h3:x.opn=true)(h0:0<esz)(h4:n*esz<=x.size)(h5:x.fzn<=z)
  (hr:∀i j,i<n->j<esz->x.get (i*esz+j)=row i j) (hc:∀i j,i<n->j<esz->(row i j).cell=true) (ha:ey rs=true) (h':dz rs l H):dz (.o ty esz n z row::rs) (.os b n::l) H:=
 ⟨.inr ⟨b,rfl,by simp,x,hx,h1,h2,h0,h3,h4,h5,hr,hc⟩,ha,h'⟩
theorem dz.a{H:AH}{c:List cd}{vs:List AV}{rs:List RT}{l:List AV}(h0:c.length<=8)(h:fv H [] c vs)(ha:ey rs=true)(h':dz rs l H):dz (.a c::rs) (.agg vs::l) H:=⟨⟨h0,vs,rfl,h⟩,ha,h'⟩
theorem fv.nil{H:AH}{u:List Nat}:fv H u [] []:=trivial
theorem fv.v{H:AH}{u:List Nat}{x v:AV}{rs:List cd}{l:List AV}(h:v=x)(hp:x.pu 3=true)(h':fv H u rs l):fv H u (.v x::rs) (v::l):=⟨⟨h,hp⟩,h'⟩
theorem fv.o0{H:AH}{u:List Nat}{ty esz z:Nat}{row:Nat->Nat->AV}{rs:List cd}{l:List AV}(h':fv H u rs l):fv H u (.o ty esz 0 z row::rs) (.sl0::l):=⟨.inl ⟨rfl,rfl⟩,h'⟩
theorem fv.o{H:AH}{u:List Nat}{ty esz n z b:Nat}{x:AB}{row:Nat->Nat->AV}{rs:List cd}{l:List AV}(hx:H.at b=some x)(hu:u.contains b=false)(h1:x.ty=ty)(h2:x.esz=esz)(h3:x.opn=true)(h0:0<esz)(h4:n*esz<=x.size)(h5:x.fzn<=z)
  (hr:∀i j,i<n->j<esz->x.get (i*esz+j)=row i j) (hc:∀i j,i<n->j<esz->(row i j).cell=true) (h':fv H (b::u) rs l):fv H u (.o ty esz n z row::rs) (.os b n::l):=
 ⟨.inr ⟨b,rfl,by simpa using hu,x,hx,h1,h2,h0,h3,h4,h5,hr,hc⟩,h'⟩
theorem bA.nil{M:List Nat}{H:AH}:bA M H [] []:=trivial
theorem bA.cons{M:List Nat}{H:AH}{v v2:AV}{l l2:List AV}(h:Cv M H v v2)(h':bA M H l l2):bA M H (v::l) (v2::l2):=⟨h,h'⟩
theorem bA.same{M:List Nat}{H:AH}:∀{l:List AV},l.all (AV.pu 3)=true->bA M H l l
 |[],_=>trivial
 |v::l,h=>by
  simp only[List.all_cons,Bool.and_eq_true] at h
  exact⟨.rfl h.1,bA.same h.2⟩
theorem aw{v x:AV}{H:AH}(h:v=x)(hp:x.pu 3=true):∃l1,v=aE l1/\dz [.v x] l1 H:=⟨[v],rfl,⟨h,hp⟩,trivial⟩
def AV.sc:Nat->AV->Bool
 |_,.b _|_,.n _ _|_,.s _|_,.p0|_,.sl0|_,.f0|_,.cv _=>true
 |k+1,.agg l=>l.all (AV.sc k)
 |k+1,.tup l=>l.all (AV.sc k)
 |_,_=>false
theorem VR.sc{σ σ2:Sg}:∀(k:Nat) {v:AV} {x:Value},v.sc k=true->VR σ v x->VR σ2 v x
 |k,v,x,hp,h=>by
  cases h with
  |b x=>exact .b x
  |n k x=>exact .n k x
  |s x=>exact .s x
  |p0=>exact .p0
  |sl0 a=>exact .sl0 a
  |f0=>exact .f0
  |cv _ hv=>exact .cv _ hv
  |agg hl hh=>
   cases k with
   |zero=>simp[AV.sc] at hp
   |succ k=>
    simp only[AV.sc,List.all_eq_true] at hp
    exact .agg hl (λi v hv=>VR.sc k (hp v (List.mem_of_getElem? hv)) (hh i v hv))
  |tup hl hh=>
   cases k with
   |zero=>simp[AV.sc] at hp
   |succ k=>
    simp only[AV.sc,List.all_eq_true] at hp
    exact .tup hl (λi v hv=>VR.sc k (hp v (List.mem_of_getElem? hv)) (hh i v hv))
  |_=>cases k<;>simp[AV.sc] at hp
theorem Oj:∀(k:Nat) (v:AV),v.sc k=true->v.pu k=true:=by
 intro k
 induction k with
 |zero=>intro v h;cases v<;>simp_all [AV.sc,AV.pu]
 |succ k ih=>
  intro v h
  cases v with
  |agg l=>simp only[AV.pu,AV.sc,List.all_eq_true] at h ⊢;exact λx hx=>ih x (h x hx)
  |tup l=>simp only[AV.pu,AV.sc,List.all_eq_true] at h ⊢;exact λx hx=>ih x (h x hx)
  |_=>simp_all [AV.pu,AV.sc]
theorem gH{P:Program}{call:au}(hC:∀B,ar P B call){f:FuncId}{args:List AV}{v:AV}{H':AH}(hr:call f args ⟨.nil,0,2^40,λ_=>none,[]⟩=some (v,H'))(hv:v.sc 3=true):ez P f args [.v v]:=by
 refine⟨(hC 0).fn hr,λφ w args' hφ ha=>?_⟩
 refine Calls.mono ((hC w.heap.size).run hr _ w args' (HR.empty w hφ) ha) (λe w' hp=>?_)
 cases e with
 |panicked c=>exact hp.elim
 |outgrown=>exact hp.elim
 |returned u=>
  obtain⟨σ',q1,q2,q3⟩:=hp
  have hw:Pb φ w':=λc fs hf=>by
   obtain⟨cs,t,fr,h1,h2⟩:=hφ c fs hf
   exact⟨cs,t,fr,by rw[q3.bel.block c (Array.getElem?_eq_some_iff.1 h1).1];exact h1,h2⟩
  refine⟨v,⟨.nil,0,2^40,λ_=>none,[]⟩,Sg.data φ,⟨[v],rfl,⟨rfl,Oj 3 v hv⟩,trivial⟩,q1.sc 3 hv,?_,q3.bel,λ_ _=>rfl⟩
  exact HR.emptyAt w' q3.bel.size hw
def AH.setLow(H:AH)(l:Nat):AH:={H with low:=l}
theorem iW(H:AH)(l b:Nat):(H.setLow l).at b=H.at b:=id rfl
theorem eP(H:AH)(l:Nat):(H.setLow l).next=H.next:=id rfl
theorem fM(H:AH)(l:Nat):(H.setLow l).low=l:=id rfl
theorem dA(H:AH)(l l':Nat):(H.setLow l).setLow l'=H.setLow l':=id rfl
theorem j4(H:AH)(b:Nat):(H.mark b).low=H.low:=AH.mark_low H b
theorem GA.mix1{P:Program}{n:Nat}{hints:aX}{e:Tr AV}{H:AH}{Q:AE->Tr AV->AH->Prop}(hm:P.follows .mixedOrders=true){l:List (Nat×AO)}(h:bu P (H.setLow (2^40)) H.next true l e (H.setLow (2^40)) (λe' H'=>Q .normal e' (H'.setLow (min H.low H'.low)))):GA P n hints (.mix l) e H Q:=
 GA.mix hm H.next (by rw[Nat.sub_self];trivial) h
theorem c9.lst{r:Nat->Option Nat}{M:List Nat}{H:AH}{b esz ty:Nat}{l:List AV}(hx:H.at b=some (b7 esz ty l))(hM:M.contains b=false)(hl:l.length<1000000)(hp:l.all (AV.pu 3)=true):c9 r M H b (b7 esz ty l):=by
 refine⟨b7 esz ty l,hx,rfl,rfl,rfl,rfl,.inl rfl,by rw[if_neg (by simpa using hM)];exact Nat.le_refl _,λi hi=>?_⟩
 have hi':i<l.length:=hi
 rw[cY esz ty l i hl,List.getElem?_eq_getElem hi']
 exact .cv (.rfl (List.all_eq_true.1 hp _ (List.getElem_mem hi')))
theorem c9.keep{r:Nat->Option Nat}{M:List Nat}{H:AH}{b ty esz n z:Nat}{row:Nat->Nat->AV}(hx:H.at b=some (aB ty esz n z row))(hM:M.contains b=false)(h0:0<esz)(hc:∀i j,i<n->j<esz->(row i j).pu 3=true):c9 r M H b (aB ty esz n z row):=
 c9.rows hx rfl rfl rfl (Nat.le_refl _) (by rw[if_neg (by simpa using hM)];exact Nat.le_refl _) h0 (λi j _ hj=>nV i j hj) hc
theorem eA.nil{r:Nat->Option Nat}{M:List Nat}{H:AH}:eA r M H [] []:=trivial
theorem eA.cons{r:Nat->Option Nat}{M:List Nat}{H:AH}{b:Nat}{ρ:List Nat}{x:AB}{bl:List AB}(h1:ρ.contains b=false)(h2:c9 r M H b x)(h3:eA r M H ρ bl):eA r M H (b::ρ) (x::bl):=⟨by simpa using h1,h2,h3⟩
def ff(P:Program)(n:Nat)(hints:aX)(cc:AX)(x y:AC)(e:Tr AV)(H:AH)(Q:AE->Tr AV->AH->Prop):Prop:=match cc.ev e with
 |some (.b t)=>(t=true->GA P n hints x e H Q)/\(t=false->GA P n hints y e H Q)
 |_=>False
theorem GA.cond'{P:Program}{n:Nat}{hints:aX}{e:Tr AV}{H:AH}{Q:AE->Tr AV->AH->Prop}{cc:AX}{x y:AC}(h:ff P n hints cc x y e H Q):GA P n hints (.cond cc x y) e H Q:=by
 unfold ff at h
 split at h
 ·rename_i t ht
  exact GA.cond ht h.1 h.2
 ·exact h.elim
theorem Wv.n{r:Nat->Option Nat}{M:List Nat}{H:AH}{k:IntKind}{a b:Int}(h:a=b):Wv r M H (.n k a) (.n k b):=by subst h;exact .cv (.rfl rfl)
theorem Wv.same{r:Nat->Option Nat}{M:List Nat}{H:AH}{v:AV}(h:v.pu 3=true):Wv r M H v v:= .cv (.rfl h)
theorem ew{a b:Prop}(h1:a)(h2:b):a/\b:=⟨h1,h2⟩
theorem aV{P:Program}[IdleOK P](hm:P.follows .mixedOrders=true){f:FuncId}{hints:aX}{F:AF}(hF:ab P hints f=some F){args:List AV}(hlen:args.length<=F.nt/\F.nt<100000){Q:AV->AH->Prop}
  (h:GA P F.nt hints F.code (bo (cE 0 args)) (ax []) (kE F.res Q)):i7 P f args Q:=
 ov hm hF hlen.1 (GA.wk (Wk.arg _ _ _ (by omega)) h)
theorem Ol(x:Bool):bD (pure (.bool x))=some (.b x):=id rfl
theorem Ok(k:IntKind)(x:Int):bD (pure (.int k x))=some (.n k x):=id rfl
theorem OT(a b:Int):(a==b)=decide (a=b):=by rw[Bool.eq_iff_iff];simp
theorem QH(a b:Int):(a != b)= !decide (a=b):=by rw[bne,OT]
def QI:AC->Bool
 |.loop _=>false
 |.frk _ _=>false
 |.dfr _ _ _=>false
 |.mxl _=>false
 |.rf _ _ _ _ _=>false
 |_=>true
attribute [reducible] QI
def GS(P:Program)(n:Nat)(hints:aX)(ac:AC)(e:Tr AV)(H:AH)(Q:AE->Tr AV->AH->Prop):Prop:=match ac with
 |.skip=>Q .normal e H
 |.exit i=>Q (.exit i) e H
 |.ret=>Q .ret e H
 |.seq x y=>GA P n hints x e H (gk (λe' H'=>GA P n hints y e' H' Q) Q)
 |.cond c x y=>ff P n hints c x y e H Q
 |.block id x=>GA P n hints x e H (et id Q)
 |.reg l=>cC P l e H (λe' H'=>Q .normal e' H')
 |.mix l=>bu P (H.setLow (2^40)) H.next true l e (H.setLow (2^40)) (λe' H'=>Q .normal e' (H'.setLow (min H.low H'.low)))
 |.loop _=>False
 |.frk _ _=>False
 |.dfr _ _ _=>False
 |.mxl _=>False
 |.rf _ _ _ _ _=>False
 |.die=>False
theorem GA.go{P:Program}{n:Nat}{hints:aX}{ac:AC}{e:Tr AV}{H:AH}{Q:AE->Tr AV->AH->Prop}(hm:P.follows .mixedOrders=true)(hg:QI ac=true)(h:GS P n hints ac e H Q):GA P n hints ac e H Q:=by
 cases ac with
 |skip=>exact GA.skip h
 |exit i=>exact GA.exit h
 |ret=>exact GA.ret h
 |seq x y=>exact GA.seq h
 |cond c x y=>exact GA.cond' h
 |block id x=>exact GA.block h
 |reg l=>exact GA.reg h
 |mix l=>exact GA.mix1 hm h
 |loop x=>cases hg
 |frk l T=>cases hg
 |dfr _ _ _=>cases hg
 |mxl _=>cases hg
 |rf _ _ _ _ _=>cases hg
 |die=>exact(show False from h).elim
section
variable {P:Program} {n:Nat} {hints:aX} {e:Tr AV} {H:AH} {Q:AE->Tr AV->AH->Prop}
theorem GS.skip:GS P n hints .skip e H Q=Q .normal e H:=id rfl
theorem GS.exit(i:Nat):GS P n hints (.exit i) e H Q=Q (.exit i) e H:=id rfl
theorem GS.ret:GS P n hints .ret e H Q=Q .ret e H:=id rfl
theorem GS.seq(x y:AC):GS P n hints (.seq x y) e H Q=GA P n hints x e H (gk (λe' H'=>GA P n hints y e' H' Q) Q):=id rfl
theorem GS.cond(c:AX)(x y:AC):GS P n hints (.cond c x y) e H Q=ff P n hints c x y e H Q:=id rfl
theorem GS.block(id:Nat)(x:AC):GS P n hints (.block id x) e H Q=GA P n hints x e H (et id Q):=_root_.id rfl
theorem GS.reg(l:List AO):GS P n hints (.reg l) e H Q=cC P l e H (λe' H'=>Q .normal e' H'):=id rfl
theorem GS.mix(l:List (Nat×AO)):GS P n hints (.mix l) e H Q=bu P (H.setLow (2^40)) H.next true l e (H.setLow (2^40)) (λe' H'=>Q .normal e' (H'.setLow (min H.low H'.low))):=id rfl
end
/-! what every step uses-/
attribute [go_sem] GS.skip GS.exit GS.ret GS.seq GS.cond GS.block GS.reg GS.mix Ol Ok OT QH gk et ju kE ff ko iJ km iE kn iG kl iC beq_false beq_true OX
 OW OU Ay nS kd kp iK ke iA kI dH eY AP.kind iH fQ iI iz cf bM
 AX.ev ku AP.run AP.r_mv AP.r_pick AP.r_ld AP.r_st AP.r_nc AP.r_bin AP.r_un AP.r_cvi AP.r_fa AP.r_fd AP.r_ia AP.r_iaa AP.r_ext AP.r_len AP.r_cpc AP.r_clr AP.r_mf AP.r_al AP.r_bx AP.r_bd AP.r_bs AP.r_ms AP.r_sl AP.r_se AP.r_eq AP.r_lns AP.r_sx AP.r_ix AP.r_app AP.r_apm ai gS aD oG kD du eo bU iU OL oO OJ oL OH oJ Bd kN OI
 oK n5 iT Bc kM Bh kR OK oM Bi kS Bf kP Bg kQ Be kO
 List.cons_append List.nil_append List.append_nil Option.map_some Option.map_none List.all_cons List.all_nil List.length_cons List.length_nil
 Bool.and_true Bool.true_and Bool.and_self AJ AL AM AN AQ AD AR Az AG AA de fA jx
 gU kq iy ky nQ jz gi AH.load AH.loadN fX jJ BO jI k8 ic k9 aQ
 eV kX oh oe og jK BP jm oy ka oE Ax nZ if_true if_false ite_true ite_false true_and
 and_true forall_const false_implies implies_true Bool.true_eq_false Bool.false_eq_true Option.some.injEq AV.b.injEq exists_eq_left' exists_eq_left
 decide_eq_true_eq decide_eq_false_iff_not Bool.not_eq_true' Bool.not_eq_false' Option.isSome_some not_true_eq_false not_false_eq_true Int.not_lt
 Int.not_le nT kj get_nil nW List.getElem?_cons_zero List.getElem?_cons_succ Option.getD_some Int.toNat_natCast Nat.zero_add Nat.add_zero
 Nat.mul_one Nat.zero_le beq_iff_eq beq_eq_false_iff_ne ne_eq gX jt nX jr gY js app_size oS BS oP
 lc oQ AH.append bg.len bX hD g9 aL cN az kY BE oz BG OY BD oA BF
 AH.mark_next AH.mark_low true_or or_true Bool.not_false Bool.not_true Bool.and_false Nat.le_refl Nat.min_self beq_self_eq_true cX maxLen
 Bool.and_eq_true iW eP fM dA j4 fV fW false_and and_false dt List.isEmpty_cons
 List.isEmpty_nil List.take_zero List.take_succ_cons List.drop_zero List.drop_succ_cons List.take_nil List.drop_nil hY jH n7
 jF hZ jG List.length_append im j3 oa jY ip jZ cY ik jX n9 jU
 il jW jV
/-! arguments that are found-/
theorem O8{P:Prop}(h:P:=by first|trivial|exact Wv.same rfl|exact Wv.p rfl|exact Wv.os rfl|exact Wv.sl rfl|exact Wv.n (by omega)|exact Wv.n (dc (by omega))|exact Wv.n (by rw[dc (by omega)];omega)):P:=h
theorem wku{P:Prop}(h:P:=by first|exact True.intro|exact Wv.same rfl|exact Wv.p rfl|exact Wv.os rfl|exact Wv.sl rfl|exact Wv.n (by omega)|exact Wv.n (dc (by omega))|exact Wv.n (by rw[dc (by omega)];omega)):P:=h
theorem c9.ls{r:Nat->Option Nat}{M:List Nat}{H:AH}{b esz ty:Nat}{l:List AV}(hx:H.at b=some (b7 esz ty l):=by simp only[go_sem,simprocAttr]<;>rfl)(hM:M.contains b=false:=by rfl)(hl:l.length<1000000:=by simp)(hp:l.all (AV.pu 3)=true:=by rfl):c9 r M H b (b7 esz ty l):= .lst hx hM hl hp
theorem c9.k1{r:Nat->Option Nat}{M:List Nat}{H:AH}{b ty esz n z:Nat}{row:Nat->Nat->AV}(hx:H.at b=some (aB ty esz n z row):=by simp only[go_sem,simprocAttr])(hM:M.contains b=false:=by rfl)(h0:0<esz:=by decide)(hc:∀i j,i<n->j<esz->(row i j).pu 3=true:=by intro _ _ _ _;rfl):c9 r M H b (aB ty esz n z row):= .keep hx hM h0 hc
theorem c9.k5{r:Nat->Option Nat}{M:List Nat}{H:AH}{b ty n z:Nat}{row:Nat->Nat->AV}(hx:H.at b=some (aB ty 5 n z row):=by simp only[go_sem,simprocAttr])(hM:M.contains b=false:=by rfl)(hc:∀i j,i<n->j<5->(row i j).pu 3=true:=by intro _ j _ hj;rcases(show j=0\/j=1\/j=2\/j=3\/j=4 by omega) with rfl|rfl|rfl|rfl|rfl<;>rfl):c9 r M H b (aB ty 5 n z row):= .keep hx hM (by decide) hc
theorem gqa{P:Program}{g:FuncId}{a fa:AV}{H:AH}{rs:List RT}{Q:AV->AH->Prop}(h:ez P g [fa] rs)(hQ:Q (aE (aL (az H []) rs).1) (aL (az H []) rs).2)(ha:Cv [] H a fa:=by exact .rfl (by rfl))(hnx:H.next+9<2^40:=by simp only[go_sem,simprocAttr]):cI P g [a] H Q:=aj [] (.cons ha .nil) h hnx hQ
theorem gqb{P:Program}{g:FuncId}{a b fa fb:AV}{H:AH}{rs:List RT}{Q:AV->AH->Prop}(h:ez P g [fa,fb] rs)(hQ:Q (aE (aL (az H []) rs).1) (aL (az H []) rs).2)(ha:Cv [] H a fa:=by exact .rfl (by rfl))(hb:Cv [] H b fb:=by exact .rfl (by rfl))(hnx:H.next+9<2^40:=by simp only[go_sem,simprocAttr]):cI P g [a,b] H Q:=aj [] (.cons ha (.cons hb .nil)) h hnx hQ
theorem gqe{P:Program}{g:FuncId}{a b c d k:AV}{H:AH}{rs:List RT}{Q:AV->AH->Prop}(h:ez P g [a,b,c,d,k] rs)(hQ:Q (aE (aL (az H []) rs).1) (aL (az H []) rs).2)(ha:a.pu 3=true:=by rfl)(hb:b.pu 3=true:=by rfl)(hc:c.pu 3=true:=by rfl)(hd:d.pu 3=true:=by rfl)(hk:k.pu 3=true:=by rfl)(hnx:H.next+9<2^40:=by simp only[go_sem,simprocAttr]):cI P g [a,b,c,d,k] H Q:=aj [] (.cons (.rfl ha) (.cons (.rfl hb) (.cons (.rfl hc) (.cons (.rfl hd) (.cons (.rfl hk) .nil))))) h hnx hQ
theorem c9.k2{r:Nat->Option Nat}{M:List Nat}{H:AH}{b ty esz n z:Nat}{row:Nat->Nat->AV}(hc:∀i j,i<n->j<esz->(row i j).pu 3=true)(hx:H.at b=some (aB ty esz n z row):=by simp only[go_sem,simprocAttr])(hM:M.contains b=false:=by rfl)(h0:0<esz:=by decide):c9 r M H b (aB ty esz n z row):= .keep hx hM h0 hc
theorem c9.r0{r:Nat->Option Nat}{M:List Nat}{H:AH}{b ty esz n z:Nat}{row:Nat->Nat->AV}{x:AB}(hx:H.at b=some x:=by simp only[go_sem,simprocAttr];rfl)(h1:x.ty=ty:=by rfl)(h2:x.esz=esz:=by rfl)(h3:x.opn=true:=by rfl)(h4:n*esz<=x.size:=by simp)(h5:(if b ∈ M then max x.size x.fzn else x.fzn)<=z:=by decide)(h0:0<esz:=by decide)(hr:∀i j,i<n->j<esz->x.get (i*esz+j)=row i j:=by intro i j h;simp at h)(hc:∀i j,i<n->j<esz->(row i j).pu 3=true:=by intro i j h;simp at h):c9 r M H b (aB ty esz n z row):= .rows hx h1 h2 h3 h4 h5 h0 hr hc
theorem c9.r1{r:Nat->Option Nat}{M:List Nat}{H:AH}{b ty esz n z:Nat}{row:Nat->Nat->AV}{x:AB}(hx:H.at b=some x:=by simp only[go_sem,simprocAttr];rfl)(h1:x.ty=ty:=by rfl)(h2:x.esz=esz:=by rfl)(h3:x.opn=true:=by rfl)(h4:n*esz<=x.size:=by decide)(h5:(if b ∈ M then max x.size x.fzn else x.fzn)<=z:=by decide)(h0:0<esz:=by decide)(hr:∀i j,i<n->j<esz->x.get (i*esz+j)=row i j:=by intro i j h;simp at h)(hc:∀i j,i<n->j<esz->(row i j).pu 3=true:=by intro i j h;simp at h):c9 r M H b (aB ty esz n z row):= .rows hx h1 h2 h3 h4 h5 h0 hr hc
end Go.Proofs.YthehakngpbjgjaaGreat
namespace Go.Proofs.YthehakngpbjgjaaGreat
open Go.RowKit
inductive BT where
 |lf (k:Nat) (F:AF)
 |nd (k:Nat) (l r:BT)
def BT.get:BT->FuncId->Option AF
 |.lf k F,f=>bif Nat.beq k f then some F else none
 |.nd k l r,f=>bif Nat.ble k f then r.get f else l.get f
def BT.ok(P:Program):BT->Prop
 |.lf k F=>ab P (aa P k) k=some F
 |.nd _ l r=>l.ok P/\r.ok P
theorem BT.tab{P:Program}:∀{t:BT},t.ok P->fj P t.get
 |.lf k F,h,f,F',hF=>by
  unfold BT.get at hF
  cases hk:Nat.beq k f with
  |false=>rw[hk] at hF;cases hF
  |true=>
   rw[hk] at hF
   cases hF
   have:=Nat.eq_of_beq_eq_true hk
   subst this
   exact⟨_,h⟩
 |.nd k l r,h,f,F',hF=>by
  unfold BT.get at hF
  cases hk:Nat.ble k f with
  |false=>rw[hk] at hF;exact BT.tab h.1 f F' hF
  |true=>rw[hk] at hF;exact BT.tab h.2 f F' hF
def AH.addOb(H:AH)(N:Nat->Option OB):AH:={H with ob:=λr=>match H.ob r with
 |some x=>some x
 |none=>N r}
theorem ef:∀(l:List cd) (H:AH),(cN H l).2.ob=H.ob
 |[],_=>rfl
 |.v x::l,H=>ef l H
 |.o ty esz n z row::l,H=>ef l (H.new (aB ty esz n z row))
theorem gD:∀(rs:List RT) (H:AH),(aL H rs).2.ob=H.ob
 |[],_=>rfl
 |.v x::rs,H=>gD rs H
 |.o ty esz n z row::rs,H=>rfl
 |.a l::rs,H=>ef l H
theorem HR.addOb{B:Nat}{σ:Sg}{H:AH}{w:World}(h:HR B σ H w){ob N:Nat->Option OB}(he:H.ob=ob)(hN:∀r x,N r=some x->QM B w r x)(hc:∀b d c o,aq H.mp b=some d->σ.nm b=some (c,o)->N c=none)(hni:∀r y,N r≠some (.it y)):HR B σ (H.addOb N) w:=
 ⟨h.new,h.newl,h.old,h.small,h.hB,h.nil,h.nilp,h.blk,h.szs,h.inj,h.frz,⟨λr x hx=>by
  have hx:(match H.ob r with|some x=>some x|none=>N r)=some x:=hx
  split at hx
  ·rename_i y hy;cases hx;exact h.ob.o r x hy
  ·exact hN r x hx,λb d hb=>by
  obtain⟨c,es,clock,k1,k2,k3,k4,k5⟩:=h.ob.m b d hb
  refine⟨c,es,clock,k1,k2,k3,⟨?_,λr y hy=>?_⟩,k5⟩
  ·show(match H.ob c with|some x=>some x|none=>N c)=none
   rw[k4.1];exact hc b d c _ hb k1
  ·have hy:(match H.ob r with|some x=>some x|none=>N r)=some (.it y):=hy
   split at hy
   ·rename_i z hz;cases hy;exact k4.2 r y hz
   ·exact absurd hy (hni r y),h.ob.i⟩⟩
theorem c9.lstj{r:Nat->Option Nat}{M:List Nat}{H:AH}{b esz ty:Nat}{l:List AV}{x:AB}(hx:H.at b=some x)(h1:x.ty=ty)(h2:x.esz=esz)(h3:x.opn=false)(h4:x.size=l.length)(h5:x.fzn=0)(hM:M.contains b=false)(hl:l.length<1000000)(hg:∀i,i<l.length->Wv r M H (x.get i) (l[i]?.getD .u)):c9 r M H b (b7 esz ty l):=by
 refine⟨x,hx,h1.symm,h2.symm,h3.symm,rfl,.inl h4.symm,by rw[if_neg (by simpa using hM),h5];exact Nat.zero_le _,λi hi=>?_⟩
 have hi':i<l.length:=hi
 rw[cY esz ty l i hl]
 exact hg i hi'
theorem BA{i:Nat}(h:i<6):i=0\/i=1\/i=2\/i=3\/i=4\/i=5:=by omega
end Go.Proofs.YthehakngpbjgjaaGreat