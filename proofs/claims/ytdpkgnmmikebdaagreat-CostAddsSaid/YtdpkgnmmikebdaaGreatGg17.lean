/- A part of the proof of CostAdds: EvS Tab EvMh EvZ SnA EvX. No condition. -/
import Derived.Test.YtdpkgnmmikebdaaGreatGg14
set_option linter.unusedSimpArgs false
set_option linter.unusedVariables false
set_option linter.constructorNameAsVariable false
set_option maxRecDepth 100000
set_option maxHeartbeats 4000000
namespace Go.Proofs.YtdpkgnmmikebdaaGreat
open Go.RowKit
/-! what follows an operation,closed till its value is there-/
def Ce(P:Program)(l:List AO)(e:Tr AV)(d:Option Nat)(Q:Tr AV->AH->Prop)(v:AV)(H:AH):Prop:=gm P l (aN e d v) H Q
theorem yY(P:Program)(l:List AO)(e:Tr AV)(d:Option Nat)(Q:Tr AV->AH->Prop)(v:AV)(H:AH):Ce P l e d Q v H=gm P l (aN e d v) H Q:=id rfl
theorem zs(P:Program)(e:Tr AV)(H:AH)(Q:Tr AV->AH->Prop):gm P [] e H Q=Q e H:=id rfl
def WU(P:Program)(d:Option Nat)(k:AK)(l:List AO)(e:Tr AV)(H:AH)(Q:Tr AV->AH->Prop):Option Bool->Prop
 |some true=>gK P e H k (Ce P l e d Q)
 |some false=>gm P l (aN e d (.tup [])) H Q
 |none=>False
theorem zn(P:Program)(d:Option Nat)(k:AK)(l:List AO)(e:Tr AV)(H:AH)(Q:Tr AV->AH->Prop):WU P d k l e H Q (some true)=gK P e H k (Ce P l e d Q):=id rfl
theorem v8(P:Program)(d:Option Nat)(k:AK)(l:List AO)(e:Tr AV)(H:AH)(Q:Tr AV->AH->Prop):WU P d k l e H Q (some false)=gm P l (aN e d (.tup [])) H Q:=id rfl
theorem ws(P:Program)(d:Option Nat)(g:Option (Nat×Bool))(k:AK)(l:List AO)(e:Tr AV)(H:AH)(Q:Tr AV->AH->Prop):gm P (⟨d,g,k⟩::l) e H Q=WU P d k l e H Q (bq e g):=by
 show(match bq e g with
  |some t=>(t=true->gK P e H k (Ce P l e d Q))/\(t=false->gm P l (aN e d (.tup [])) H Q)
  |none=>False)=_
 cases bq e g with
 |none=>rfl
 |some t=>cases t<;>simp[WU]
def rH(r:Option (AV×AH))(Q:AV->AH->Prop):Prop:=match r with
  |some (v,H')=>Q v H'
  |none=>False
theorem tu(v:AV)(H:AH)(Q:AV->AH->Prop):rH (some (v,H)) Q=Q v H:=id rfl
theorem tv(Q:AV->AH->Prop):rH none Q=False:=id rfl
theorem Wl(P:Program)(e:Tr AV)(H:AH)(x:AP)(Q:AV->AH->Prop):gK P e H (.ap x) Q=rH (x.run e H) Q:=id rfl
def Vv(neg:Bool)(H:AH)(Q:AV->AH->Prop):Option AV->Prop
 |some (.fs _ n _)=>∀t,(t=(!neg)->n=0)->Q (.b t) H
 |some .sl0=>∀t,Q (.b t) H
 |_=>False
theorem Wi(P:Program)(e:Tr AV)(H:AH)(neg:Bool)(x:AX)(Q:AV->AH->Prop):gK P e H (.sn neg x) Q=Vv neg H Q (x.ev e):=id rfl
theorem Ig(neg:Bool)(H:AH)(Q:AV->AH->Prop)(esz n:Nat)(row:Nat->Nat->AV):Vv neg H Q (some (.fs esz n row))=∀t,(t=(!neg)->n=0)->Q (.b t) H:=rfl
theorem Bm(neg:Bool)(H:AH)(Q:AV->AH->Prop):Vv neg H Q (some .sl0)=∀t,Q (.b t) H:=id rfl
theorem Wj(P:Program)(e:Tr AV)(H:AH)(f:AX)(args:List AX)(Q:AV->AH->Prop):gK P e H (.cl f args) Q=match f.ev e,r9 e args with
  |some (.f g first cap),some vs=>ko P g (first++vs++cap) H Q
  |_,_=>False:=id rfl
def sS(P:Program)(H0:AH)(m:Nat)(nc:Bool)(l:List (Nat×AO))(e:Tr AV)(d:Option Nat)(Q:Tr AV->AH->Prop)(v:AV)(H:AH):Prop:=eT P H0 m nc l (aN e d v) H Q
theorem y6(P:Program)(H0:AH)(m:Nat)(nc:Bool)(l:List (Nat×AO))(e:Tr AV)(d:Option Nat)(Q:Tr AV->AH->Prop)(v:AV)(H:AH):sS P H0 m nc l e d Q v H=eT P H0 m nc l (aN e d v) H Q:=id rfl
def ut(P:Program)(H0:AH)(m:Nat)(nc:Bool)(k:Nat)(l:List (Nat×AO))(e:Tr AV)(d:Option Nat)(Q:Tr AV->AH->Prop)(v:AV)(H:AH):Prop:=(k=3\/m<=H.low)/\eT P H0 m nc l (aN e d v) H Q
theorem vX(P:Program)(H0:AH)(m:Nat)(nc:Bool)(k:Nat)(l:List (Nat×AO))(e:Tr AV)(d:Option Nat)(Q:Tr AV->AH->Prop)(v:AV)(H:AH):ut P H0 m nc k l e d Q v H=((k=3\/m<=H.low)/\eT P H0 m nc l (aN e d v) H Q):=id rfl
theorem zt(P:Program)(H0:AH)(m:Nat)(nc:Bool)(e:Tr AV)(H:AH)(Q:Tr AV->AH->Prop):eT P H0 m nc [] e H Q=Q e H:=id rfl
def WV(P:Program)(H0:AH)(m:Nat)(nc:Bool)(k:Nat)(d:Option Nat)(a:AK)(l:List (Nat×AO))(e:Tr AV)(H:AH)(Q:Tr AV->AH->Prop):Option Bool->Prop
 |some true=>if k=1 then bS H0 m nc e a/\gK P e H a (sS P H0 m nc l e d Q)
    else if k=2 then cE a=true/\gK P e H a (sS P H0 m nc l e d Q)
    else gK P e H a (ut P H0 m (nc&& !eu a) k l e d Q)
 |some false=>(k=0->m<=H.low)/\eT P H0 m nc l (aN e d (.tup [])) H Q
 |none=>False
theorem zo(P:Program)(H0:AH)(m:Nat)(nc:Bool)(k:Nat)(d:Option Nat)(a:AK)(l:List (Nat×AO))(e:Tr AV)(H:AH)(Q:Tr AV->AH->Prop):WV P H0 m nc k d a l e H Q (some true)=if k=1 then bS H0 m nc e a/\gK P e H a (sS P H0 m nc l e d Q)
    else if k=2 then cE a=true/\gK P e H a (sS P H0 m nc l e d Q)
    else gK P e H a (ut P H0 m (nc&& !eu a) k l e d Q):=id rfl
theorem v9(P:Program)(H0:AH)(m:Nat)(nc:Bool)(k:Nat)(d:Option Nat)(a:AK)(l:List (Nat×AO))(e:Tr AV)(H:AH)(Q:Tr AV->AH->Prop):WV P H0 m nc k d a l e H Q (some false)=((k=0->m<=H.low)/\eT P H0 m nc l (aN e d (.tup [])) H Q):=id rfl
theorem wt(P:Program)(H0:AH)(m:Nat)(nc:Bool)(k:Nat)(d:Option Nat)(g:Option (Nat×Bool))(a:AK)(l:List (Nat×AO))(e:Tr AV)(H:AH)(Q:Tr AV->AH->Prop):eT P H0 m nc ((k,⟨d,g,a⟩)::l) e H Q=WV P H0 m nc k d a l e H Q (bq e g):=by
 show(match bq e g with
  |some t=>
   (t=true->if k=1 then bS H0 m nc e a/\gK P e H a (sS P H0 m nc l e d Q)
    else if k=2 then cE a=true/\gK P e H a (sS P H0 m nc l e d Q)
    else gK P e H a (ut P H0 m (nc&& !eu a) k l e d Q))/\
   (t=false->(k=0->m<=H.low)/\eT P H0 m nc l (aN e d (.tup [])) H Q)
  |none=>False)=_
 cases bq e g with
 |none=>rfl
 |some t=>cases t<;>simp[WV]
def uq(P:Program)(m:Nat)(T:AT)(e:Tr AV)(d:Option Nat)(Q:Tr AV->AH->Prop)(v:AV)(H:AH):Prop:=m<=H.low/\ek P m T (aN e d v) H Q
theorem vR(P:Program)(m:Nat)(T:AT)(e:Tr AV)(d:Option Nat)(Q:Tr AV->AH->Prop)(v:AV)(H:AH):uq P m T e d Q v H=(m<=H.low/\ek P m T (aN e d v) H Q):=id rfl
theorem wl(P:Program)(m:Nat)(e:Tr AV)(H:AH)(Q:Tr AV->AH->Prop):ek P m .fin e H Q=Q e H:=id rfl
theorem sX(P:Program)(m:Nat)(e:Tr AV)(H:AH)(Q:Tr AV->AH->Prop):ek P m .none e H Q=True:=id rfl
def WT(P:Program)(m:Nat)(d:Option Nat)(a:AK)(r:AT)(e:Tr AV)(H:AH)(Q:Tr AV->AH->Prop):Option Bool->Prop
 |some true=>gK P e H a (uq P m r e d Q)
 |some false=>m<=H.low/\ek P m r (aN e d (.tup [])) H Q
 |none=>False
theorem zm(P:Program)(m:Nat)(d:Option Nat)(a:AK)(r:AT)(e:Tr AV)(H:AH)(Q:Tr AV->AH->Prop):WT P m d a r e H Q (some true)=gK P e H a (uq P m r e d Q):=id rfl
theorem v7(P:Program)(m:Nat)(d:Option Nat)(a:AK)(r:AT)(e:Tr AV)(H:AH)(Q:Tr AV->AH->Prop):WT P m d a r e H Q (some false)=(m<=H.low/\ek P m r (aN e d (.tup [])) H Q):=id rfl
theorem wo(P:Program)(m:Nat)(d:Option Nat)(g:Option (Nat×Bool))(a:AK)(r more:AT)(e:Tr AV)(H:AH)(Q:Tr AV->AH->Prop):ek P m (.alt ⟨d,g,a⟩ r more) e H Q=(WT P m d a r e H Q (bq e g)/\ek P m more e H Q):=by
 show((match bq e g with
   |some t=>(t=true->gK P e H a (uq P m r e d Q))/\(t=false->m<=H.low/\ek P m r (aN e d (.tup [])) H Q)
   |none=>False)/\ek P m more e H Q)=_
 cases bq e g with
 |none=>rfl
 |some t=>cases t<;>simp[WT]
theorem zT(H0:AH)(m:Nat)(nc:Bool)(e:Tr AV)(n:Nat)(row:Bool)(x:AX):bS H0 m nc e (.ap (.ld n row x))=match x.ev e with
  |some (.p b _)=>b<m/\(H0.at b).isSome=true
  |some (.fp _ _ _)=>nc=true
  |_=>False:=id rfl
theorem It(k:IntKind)(a b:Int):dw (binOp .lss 0 (.int k a) (.int k b))=some (.b (decide (a<b))):=by cases k<;>rfl
theorem Iu(k:IntKind)(a b:Int):dw (binOp .leq 0 (.int k a) (.int k b))=some (.b (decide (a<=b))):=by cases k<;>rfl
theorem Iw(k:IntKind)(a b:Int):dw (binOp .gtr 0 (.int k a) (.int k b))=some (.b (decide (b<a))):=by cases k<;>rfl
theorem Ix(k:IntKind)(a b:Int):dw (binOp .geq 0 (.int k a) (.int k b))=some (.b (decide (b<=a))):=by cases k<;>rfl
theorem Iy(k:IntKind)(a b:Int):dw (binOp .eql 0 (.int k a) (.int k b))=some (.b (decide (a=b))):=by
 cases k<;>(show some (AV.b (a==b))=_;congr)
theorem Iq(k:IntKind)(a b:Int):dw (binOp .neq 0 (.int k a) (.int k b))=some (.b (!decide (a=b))):=by
 cases k<;>(show some (AV.b (a != b))=_;congr)
theorem IA(k:IntKind)(a b:Int):dw (binOp .add 0 (.int k a) (.int k b))=some (.n k (k.wrap (a+b))):=by cases k<;>rfl
theorem Ik(k:IntKind)(a b:Int):dw (binOp .sub 0 (.int k a) (.int k b))=some (.n k (k.wrap (a-b))):=by cases k<;>rfl
theorem Ir(k:IntKind)(a b:Int):dw (binOp .mul 0 (.int k a) (.int k b))=some (.n k (k.wrap (a*b))):=by cases k<;>rfl
theorem Ip(b:Bool):dw (Op.unary .not (.bool b))=some (.b (!b)):=rfl
theorem am{x:Int}(h: -9223372036854775808<=x/\x<=9223372036854775807):IntKind.wrap .i64 x=x:=by
 rw[IntKind.wrap_i64];omega
theorem A6{x:Int}(h:0<=x/\x<=4294967295):IntKind.wrap .u32 x=x:=by
 rw[IntKind.wrap_u32];omega
theorem uR(e:Tr AV):bq e none=some true:=rfl
theorem Wk.arg(n:Nat)(args:List AV)(H:AH)(h:args.length<100000):Wk n (gH args) H (aB (aH 0 args)) H:=by
 intro B σ a w hE hH
 refine⟨σ,⟨⟨hE.er.df,λt v hv=>hE.er.get t v ?_⟩,hE.sz,hE.sm⟩,hH,.refl _ _⟩
 rw[nz _ _ _ (by omega)] at hv
 rw[fD _ _ (by omega)]
 split at hv
 ·simpa using hv
 ·cases hv
theorem oZ{x:AB}{i:Nat}(h:i<1000000)(v:AV)(j:Nat):(x.set i v).get j=if j=i then v else x.get j:=AB.get_set x i j v (by omega)
theorem ze(n esz ty:Nat)(d:Nat->AV)(l:List AV)(o lv:Bool)(z i:Nat)(h:l.length<1000000):AB.get ⟨n,esz,ty,d,gH l,o,lv,z⟩ i=l[i]?.getD (d i):=by
 simp only[AB.get]
 rw[fD l i (by omega)]
theorem get_nil(n esz ty:Nat)(d:Nat->AV)(o lv:Bool)(z i:Nat):AB.get ⟨n,esz,ty,d,.nil,o,lv,z⟩ i=d i:=id rfl
theorem Wk.nil{n:Nat}{e:Tr AV}{H:AH}(t esz ty:Nat)(ht:e.get t=some .sl0)(hs:t<1000000)(hn:H.next<1000000):Wk n e H (aN e (some t) (.os H.next 0)) (H.new (gj esz ty)):=by
 intro B σ a w hE hH
 have hle:=σ.le_extNil H.next
 refine⟨σ.extNil H.next,⟨⟨hE.er.df,λt' v hv=>?_⟩,hE.sz,hE.sm⟩,hH.placeNil rfl (λ_ _ h=>h) (by omega) rfl rfl rfl ⟨rfl,rfl⟩,.of_eq rfl⟩
 simp only[aN] at hv
 rw[Tr.get_set 48 e t _ t' (by omega)] at hv
 by_cases h:t'=t
 ·subst h
  rw[if_pos rfl] at hv
  cases hv
  have:=hE.er.get t' _ ht
  generalize a.tmps.getD t' undef=u at this
  cases this
  exact .os0 (σ:=σ.extNil H.next) (Or.inl rfl) _
 ·rw[if_neg h] at hv
  exact(hE.er.get t' v hv).mono hle
theorem u4(ty esz n z:Nat)(row:Nat->Nat->AV):(ai ty esz n z row).size=n*esz:=id rfl
theorem xN(ty esz n z:Nat)(row:Nat->Nat->AV):(ai ty esz n z row).esz=esz:=id rfl
theorem BA(ty esz n z:Nat)(row:Nat->Nat->AV):(ai ty esz n z row).ty=ty:=id rfl
theorem xL(ty esz n z:Nat)(row:Nat->Nat->AV):(ai ty esz n z row).opn=true:=id rfl
theorem u5(ty esz n z:Nat)(row:Nat->Nat->AV):(ai ty esz n z row).live=true:=id rfl
theorem xM(ty esz n z:Nat)(row:Nat->Nat->AV):(ai ty esz n z row).fzn=z:=id rfl
theorem vt(esz ty:Nat):(gj esz ty).size=0:=id rfl
theorem yh(esz ty:Nat):(gj esz ty).esz=esz:=id rfl
theorem BM(esz ty:Nat):(gj esz ty).ty=ty:=id rfl
theorem yf(esz ty:Nat):(gj esz ty).opn=true:=id rfl
theorem vu(esz ty:Nat):(gj esz ty).live=true:=id rfl
theorem yg(esz ty:Nat):(gj esz ty).fzn=0:=id rfl
theorem cL{l:List AB}(h:l.length<1000000)(x:AB)(b:Nat):(ah (x::l)).at b=if b=l.length then(if x.live then some x else none) else(ah l).at b:=by
 rw[cQ,dP (by rw[aZ];exact h),aZ]
theorem qT:∀l:List AB,(ah l).low=2^40
 |[]=>rfl
 |x::l=>qT l
theorem vG(esz ty:Nat)(l:List AV):(ae esz ty l).size=l.length:=id rfl
theorem yG(esz ty:Nat)(l:List AV):(ae esz ty l).esz=esz:=id rfl
theorem B1(esz ty:Nat)(l:List AV):(ae esz ty l).ty=ty:=id rfl
theorem yE(esz ty:Nat)(l:List AV):(ae esz ty l).opn=false:=id rfl
theorem vH(esz ty:Nat)(l:List AV):(ae esz ty l).live=true:=id rfl
theorem yF(esz ty:Nat)(l:List AV):(ae esz ty l).fzn=0:=id rfl
theorem V4(x:Bool):AV.one (.b x)=true:=id rfl
theorem CF(x:Bool):AV.cells (.b x)=[.b x]:=id rfl
theorem V2(k:IntKind)(x:Int):AV.one (.n k x)=true:=id rfl
theorem CD(k:IntKind)(x:Int):AV.cells (.n k x)=[.n k x]:=id rfl
theorem V0(x:ByteArray):AV.one (.s x)=true:=id rfl
theorem CB(x:ByteArray):AV.cells (.s x)=[.s x]:=id rfl
theorem Jd:AV.one (.p0)=true:=id rfl
theorem z7:AV.cells (.p0)=[.p0]:=id rfl
theorem V1(b o:Nat):AV.one (.p b o)=true:=id rfl
theorem CC(b o:Nat):AV.cells (.p b o)=[.p b o]:=id rfl
theorem BK:AV.one (.sl0)=true:=id rfl
theorem wM:AV.cells (.sl0)=[.sl0]:=id rfl
theorem Jc(b o l c:Nat):AV.one (.sl b o l c)=true:=id rfl
theorem z6(b o l c:Nat):AV.cells (.sl b o l c)=[.sl b o l c]:=id rfl
theorem Jh:AV.one (.f0)=true:=id rfl
theorem Ab:AV.cells (.f0)=[.f0]:=id rfl
theorem V3(g:FuncId)(l1 l2:List AV):AV.one (.f g l1 l2)=true:=id rfl
theorem CE(g:FuncId)(l1 l2:List AV):AV.cells (.f g l1 l2)=[.f g l1 l2]:=id rfl
theorem Ji(v:Value):AV.one (.cv v)=true:=id rfl
theorem Ac(v:Value):AV.cells (.cv v)=[.cv v]:=id rfl
theorem Jf(z n:Nat)(r:Nat->Nat->AV):AV.one (.fs z n r)=true:=id rfl
theorem z9(z n:Nat)(r:Nat->Nat->AV):AV.cells (.fs z n r)=[.fs z n r]:=id rfl
theorem Jg(z:Nat)(r:Nat->AV)(j:Nat):AV.one (.fp z r j)=true:=id rfl
theorem Aa(z:Nat)(r:Nat->AV)(j:Nat):AV.cells (.fp z r j)=[.fp z r j]:=id rfl
theorem Je(b n:Nat):AV.one (.os b n)=true:=id rfl
theorem z8(b n:Nat):AV.cells (.os b n)=[.os b n]:=id rfl
theorem wN(l:List AV):AV.cells (.agg l)=l:=id rfl
def AB.fr(x:AB):AB:={x with fzn:=max x.size x.fzn}
theorem Ai{H:AH}{b:Nat}(h:b<1000000)(b':Nat):(H.mark b).at b'=if b'=b then(H.at b).map AB.fr else H.at b':=Aj h b'
theorem JN(x:AB)(i:Nat):x.fr.get i=x.get i:=id rfl
theorem Cl(x:AB):x.fr.size=x.size:=id rfl
theorem JP(x:AB):x.fr.esz=x.esz:=id rfl
theorem Wm(x:AB):x.fr.ty=x.ty:=id rfl
theorem JM(x:AB):x.fr.opn=x.opn:=id rfl
theorem Cm(x:AB):x.fr.live=x.live:=id rfl
theorem JO(x:AB):x.fr.fzn=max x.size x.fzn:=id rfl
def sO(esz ty:Nat)(l:List AV):AB:=⟨l.length,esz,ty,λ_=> .u,gH l,false,true,l.length⟩
theorem vE(esz ty:Nat)(l:List AV):(sO esz ty l).size=l.length:=id rfl
theorem yD(esz ty:Nat)(l:List AV):(sO esz ty l).esz=esz:=id rfl
theorem B0(esz ty:Nat)(l:List AV):(sO esz ty l).ty=ty:=id rfl
theorem yA(esz ty:Nat)(l:List AV):(sO esz ty l).opn=false:=id rfl
theorem vF(esz ty:Nat)(l:List AV):(sO esz ty l).live=true:=id rfl
theorem yC(esz ty:Nat)(l:List AV):(sO esz ty l).fzn=l.length:=id rfl
theorem yB(esz ty:Nat)(l:List AV)(i:Nat)(h:l.length<1000000):(sO esz ty l).get i=l[i]?.getD .u:=jV esz ty l i h
theorem cm.get{M:List Nat}{H:AH}:∀{l l':List AV},cm M H l l'->l.length=l'.length/\∀(i:Nat) (v v':AV),l[i]? =some v->l'[i]? =some v'->Cv M H v v'
 |[],[],_=>⟨rfl,λi v v' h=>by simp at h⟩
 |[],_::_,h=>h.elim
 |_::_,[],h=>h.elim
 |x::l,x'::l',h=>by
  obtain⟨h1,h2⟩:=h
  obtain⟨e1,e2⟩:=h2.get
  refine⟨by simp[e1],λi v v' hv hv'=>?_⟩
  cases i with
  |zero=>simp at hv hv';subst hv;subst hv';exact h1
  |succ i=>exact e2 i v v' (by simpa using hv) (by simpa using hv')
theorem Cv.fn{M:List Nat}{H:AH}{g:FuncId}{l1 l2 l1' l2':List AV}(h1:cm M H l1 l1')(h2:cm M H l2 l2'):Cv M H (.f g l1 l2) (.f g l1' l2'):= .f h1.get.1 h2.get.1 h1.get.2 h2.get.2
theorem Cv.box{M:List Nat}{H:AH}{b:Nat}{x:AB}{l:List AV}(hm:M.contains b=true)(hx:H.at b=some x)(hs:x.size=l.length)(h0:0<l.length)(hg:∀j,j<l.length->x.get j=l[j]?.getD .u)(hc:l.all AV.cell=true):Cv M H (.p b 0) (.fp l.length (λj=>l[j]?.getD .u) 0):=
 .p (o:=0) (j:=0) (by simpa using hm) hx (by omega) (by omega) (λq hq=>by rw[Nat.zero_add];exact hg q hq) (λq hq=>by
  rw[List.getElem?_eq_getElem hq]
  exact List.all_eq_true.1 hc _ (List.getElem_mem hq))
theorem app_size(x:AB)(o:Nat)(s:dg):(x.app o s).size=o+s.len:=AB.app_size x o s
theorem CL(x:AB)(o:Nat)(s:dg):(x.app o s).esz=x.esz:=(AB.app_rest x o s).1
theorem Ke(x:AB)(o:Nat)(s:dg):(x.app o s).ty=x.ty:=(AB.app_rest x o s).2.1
theorem CJ(x:AB)(o:Nat)(s:dg):(x.app o s).opn=true:=(AB.app_rest x o s).2.2.1
theorem Am(x:AB)(o:Nat)(s:dg):(x.app o s).live=true:=(AB.app_rest x o s).2.2.2.1
theorem CK(x:AB)(o:Nat)(s:dg):(x.app o s).fzn=x.fzn:=(AB.app_rest x o s).2.2.2.2
theorem rO(x:AB)(n esz:Nat)(l:List AV)(hl:l.length=esz)(hlim:(n+1)*esz<2^40)(i j:Nat)(hi:i<n+1)(hj:j<esz):(x.app (n*esz) (.li l)).get (i*esz+j)=if i<n then x.get (i*esz+j) else l[j]?.getD .u:=by
 have h1:=fv hi hj
 rw[Nat.add_mul] at hlim h1
 rw[AB.app_get _ _ _ _ (by simp only[dg.len,hl];omega) (by simp only[dg.len,hl];omega)]
 by_cases h:i<n
 ·have:=fv h hj
  rw[if_neg (by omega),if_pos h]
 ·have:i=n:=by omega
  subst this
  rw[if_pos (by omega),if_neg (by omega)]
  simp only[dg.at]
  congr 2
  omega
theorem mb{ty esz n z:Nat}{row row2:Nat->Nat->AV}{l:List AV}(hl:l.length=esz)(hlim:(n+1)*esz<2^40)(h1:∀i j,i<n->j<esz->row2 i j=row i j)(h2:∀j,j<esz->row2 n j=l[j]?.getD .u):
  ∀i j,i<n+1->j<esz->((ai ty esz n z row).app (n*esz) (.li l)).get (i*esz+j)=row2 i j:=by
 intro i j hi hj
 rw[rO _ n esz l hl hlim i j hi hj]
 by_cases h:i<n
 ·rw[if_pos h,aK i j hj,h1 i j h hj]
 ·have:i=n:=by omega
  subst this
  rw[if_neg h,h2 j hj]
theorem c9.rows{r:Nat->Option Nat}{M:List Nat}{H:AH}{b ty esz n z:Nat}{row:Nat->Nat->AV}{x:AB}(hx:H.at b=some x)(h1:x.ty=ty)(h2:x.esz=esz)(h3:x.opn=true)(h4:n*esz<=x.size)(h5:(if b ∈ M then max x.size x.fzn else x.fzn)<=z)(h0:0<esz)
  (hr:∀i j,i<n->j<esz->x.get (i*esz+j)=row i j) (hc:∀i j,i<n->j<esz->(row i j).pu 3=true):c9 r M H b (ai ty esz n z row):=by
 refine⟨x,hx,h1.symm,h2.symm,h3.symm,rfl,.inr ⟨h3,h4⟩,h5,λi hi=>?_⟩
 have hi':i<n*esz:=hi
 have hq:i / esz<n:=Nat.div_lt_of_lt_mul (by rw[Nat.mul_comm];exact hi')
 have hm:i%esz<esz:=Nat.mod_lt _ h0
 have hdm:i / esz*esz+i%esz=i:=by
  have:=Nat.div_add_mod i esz
  rw[Nat.mul_comm] at this
  exact this
 have e1:(ai ty esz n z row).get i=row (i / esz) (i%esz):=rfl
 have e2:=hr _ _ hq hm
 rw[hdm] at e2
 rw[e1,e2]
 exact .cv (.rfl (hc _ _ hq hm))
theorem vn(v:AV):bn [v]=v:=id rfl
theorem vm(v v':AV)(l:List AV):bn (v::v'::l)= .tup (v::v'::l):=id rfl
theorem WM:∀(k:Nat) (v:AV),v.pu k=true->v.pu (k+1)=true:=by
 intro k
 induction k with
 |zero=>intro v h;cases v<;>simp_all [AV.pu]
 |succ k ih=>
  intro v h
  cases v with
  |f g l1 l2=>
   simp only[AV.pu,Bool.and_eq_true,List.all_eq_true] at h ⊢
   exact⟨λx hx=>ih x (h.1 x hx),λx hx=>ih x (h.2 x hx)⟩
  |agg l=>simp only[AV.pu,List.all_eq_true] at h ⊢;exact λx hx=>ih x (h x hx)
  |tup l=>simp only[AV.pu,List.all_eq_true] at h ⊢;exact λx hx=>ih x (h x hx)
  |_=>simp_all [AV.pu]
theorem kr.nil{H:AH}:kr [] [] H:=trivial
theorem kr.v{H:AH}{x v:AV}{rs:List RT}{l:List AV}(h:v=x)(hp:x.pu 3=true)(h':kr rs l H):kr (.v x::rs) (v::l) H:=⟨⟨h,hp⟩,h'⟩
theorem kr.o0{H:AH}{ty esz z:Nat}{row:Nat->Nat->AV}{rs:List RT}{l:List AV}(ha:pU rs=true)(h':kr rs l H):kr (.o ty esz 0 z row::rs) (.sl0::l) H:=⟨.inl ⟨rfl,rfl⟩,ha,h'⟩
theorem kr.o{H:AH}{ty esz n z b:Nat}{x:AB}{row:Nat->Nat->AV}{rs:List RT}{l:List AV}(hx:H.at b=some x)(h1:x.ty=ty)(h2:x.esz=esz)(h3:x.opn=true)(h0:0<esz)(h4:n*esz<=x.size)(h5:x.fzn<=z)
  (hr:∀i j,i<n->j<esz->x.get (i*esz+j)=row i j) (hc:∀i j,i<n->j<esz->(row i j).cell=true) (ha:pU rs=true) (h':kr rs l H):kr (.o ty esz n z row::rs) (.os b n::l) H:=
 ⟨.inr ⟨b,rfl,by simp,x,hx,h1,h2,h0,h3,h4,h5,hr,hc⟩,ha,h'⟩
theorem kr.a{H:AH}{c:List gG}{vs:List AV}{rs:List RT}{l:List AV}(h0:c.length<=8)(h:sa H [] c vs)(ha:pU rs=true)(h':kr rs l H):kr (.a c::rs) (.agg vs::l) H:=⟨⟨h0,vs,rfl,h⟩,ha,h'⟩
theorem sa.nil{H:AH}{u:List Nat}:sa H u [] []:=trivial
theorem sa.v{H:AH}{u:List Nat}{x v:AV}{rs:List gG}{l:List AV}(h:v=x)(hp:x.pu 3=true)(h':sa H u rs l):sa H u (.v x::rs) (v::l):=⟨⟨h,hp⟩,h'⟩
theorem sa.o0{H:AH}{u:List Nat}{ty esz z:Nat}{row:Nat->Nat->AV}{rs:List gG}{l:List AV}(h':sa H u rs l):sa H u (.o ty esz 0 z row::rs) (.sl0::l):=⟨.inl ⟨rfl,rfl⟩,h'⟩
theorem sa.o{H:AH}{u:List Nat}{ty esz n z b:Nat}{x:AB}{row:Nat->Nat->AV}{rs:List gG}{l:List AV}(hx:H.at b=some x)(hu:u.contains b=false)(h1:x.ty=ty)(h2:x.esz=esz)(h3:x.opn=true)(h0:0<esz)(h4:n*esz<=x.size)(h5:x.fzn<=z)
  (hr:∀i j,i<n->j<esz->x.get (i*esz+j)=row i j) (hc:∀i j,i<n->j<esz->(row i j).cell=true) (h':sa H (b::u) rs l):sa H u (.o ty esz n z row::rs) (.os b n::l):=
 ⟨.inr ⟨b,rfl,by simpa using hu,x,hx,h1,h2,h0,h3,h4,h5,hr,hc⟩,h'⟩
theorem cm.nil{M:List Nat}{H:AH}:cm M H [] []:=trivial
theorem cm.cons{M:List Nat}{H:AH}{v v2:AV}{l l2:List AV}(h:Cv M H v v2)(h':cm M H l l2):cm M H (v::l) (v2::l2):=⟨h,h'⟩
theorem cm.same{M:List Nat}{H:AH}:∀{l:List AV},l.all (AV.pu 3)=true->cm M H l l
 |[],_=>trivial
 |v::l,h=>by
  simp only[List.all_cons,Bool.and_eq_true] at h
  exact⟨.rfl h.1,cm.same h.2⟩
theorem aa{v x:AV}{H:AH}(h:v=x)(hp:x.pu 3=true):∃l1,v=bn l1/\kr [.v x] l1 H:=⟨[v],rfl,⟨h,hp⟩,trivial⟩
def AV.sc:Nat->AV->Bool
 |_,.b _|_,.n _ _|_,.s _|_,.p0|_,.sl0|_,.f0|_,.cv _=>true
 |k+1,.agg l=>l.all (AV.sc k)
 |k+1,.tup l=>l.all (AV.sc k)
 |_,_=>false
theorem VR.sc{σ σ2:Sg}:∀(k:Nat) {v:AV} {x:Value},v.sc k=true->VR σ v x->VR σ2 v x
 |k,v,x,hp,h=>by
  cases h with
  |b x=>exact .b x
  |n k x=>exact .n k x
  |s x=>exact .s x
  |p0=>exact .p0
  |sl0 a=>exact .sl0 a
  |f0=>exact .f0
  |cv _ hv=>exact .cv _ hv
  |agg hl hh=>
   cases k with
   |zero=>simp[AV.sc] at hp
   |succ k=>
    simp only[AV.sc,List.all_eq_true] at hp
    exact .agg hl (λi v hv=>VR.sc k (hp v (List.mem_of_getElem? hv)) (hh i v hv))
  |tup hl hh=>
   cases k with
   |zero=>simp[AV.sc] at hp
   |succ k=>
    simp only[AV.sc,List.all_eq_true] at hp
    exact .tup hl (λi v hv=>VR.sc k (hp v (List.mem_of_getElem? hv)) (hh i v hv))
  |_=>cases k<;>simp[AV.sc] at hp
theorem HR.after_call{B:Nat}{σ:Sg}{H:AH}{w w':World}(h:HR B σ H w)(hb:Below w.heap.size w w'):HR B σ H w':=by
 refine⟨h.new,h.newl,h.old,h.small,Nat.le_trans h.hB hb.size,h.nil,h.nilp,λb x c o hx hs=>?_,h.szs,h.inj,λc fs hf=>?_,h.ob.keep λr hr _=>hb.block r hr⟩
 ·obtain⟨cs,e1,e2,e3⟩:=h.blk b x c o hx hs
  exact⟨cs,e1,by rw[hb.block c ((Array.getElem?_eq_some_iff.1 e2).1)];exact e2,e3⟩
 ·obtain⟨cs,t,fr,e1,e2,e3⟩:=h.frz c fs hf
  exact⟨cs,t,fr,by rw[hb.block c (h.fzlt hf)];exact e1,e2,e3⟩
theorem ov{P:Program}{g:FuncId}{args fargs:List AV}{H:AH}{rs:List RT}{Q:AV->AH->Prop}(M:List Nat)(hcv:cm M H args fargs)(h:bN P g fargs rs)(hnx:H.next+9<2^40)(hsc:∀r ∈ rs,gR (λa=>a.sc 3=true) r)
  (hQ:Q (bn (bW H rs).1) (bW H rs).2):ko P g args H Q:=by
 refine⟨h.1,λB σ w args' hH ha=>?_⟩
 obtain⟨σ2,q1,q2,q3,q4,q5,q6,q7⟩:=hH.marks M
 have hd:a8 (Sg.data σ2.fz) fargs args'.toList:=hcv.ok hH q1 q2 q7 ha
 have hin:pY σ2.fz w:=λc fs hf=>by
  obtain⟨cs,t,fr,e1,e2,_⟩:=q6.frz c fs hf
  exact⟨cs,t,fr,e1,e2⟩
 refine(h.2 σ2.fz w args' hin hd).mono λe w' hp=>?_
 cases e with
 |panicked c=>exact hp.elim
 |outgrown=>exact hp.elim
 |returned u=>
  obtain⟨v,Hc,σ',⟨l,rfl,hr⟩,hv,hHc,hbel,hfz⟩:=hp
  obtain⟨us,hus,hback⟩:=fL hv
  have hblt:∀b c o,σ b=some (c,o)->H.at b≠none->c<w.heap.size:=λb c o hs hne=>by
   cases hx:H.at b with
   |none=>exact absurd hx hne
   |some x=>
    obtain⟨cs,e1,e2,e3⟩:=hH.blk b x c o hx hs
    exact(Array.getElem?_eq_some_iff.1 e2).1
  obtain⟨σ3,p1,p2,p3,p4,p5,p6,p7,p8⟩:=kE (σa:=σ) (good:=λa=>a.sc 3=true) (λ{a u σn} _ hs _ hu=>hu.sc 3 hs) hHc (hH.after_call hbel) (λc fs hc hf=>by have:=hH.fzlt hf;omega) hH.hB hblt hnx rs l us hr hsc hus
  refine⟨_,_,σ3,hQ,hback (dU rs l _ hr) p2,p1,⟨λb hb=>p5 b hb,p3,p6,by rw[p7];exact Nat.le_refl _,?_,λc hc=> .inl (hbel.block c hc),λb c o hb hs hc=>?_⟩,.of_eq p4⟩
  ·exact⟨hbel.os,hbel.tape,hbel.output,hbel.size,λk hk=>hbel.block k (by have:=hH.hB;omega)⟩
  ·have:=p8 b c o hb hs
   omega
def AH.setLow(H:AH)(l:Nat):AH:={H with low:=l}
theorem wQ(H:AH)(l b:Nat):(H.setLow l).at b=H.at b:=id rfl
theorem qL(H:AH)(l:Nat):(H.setLow l).next=H.next:=id rfl
theorem sP(H:AH)(l:Nat):(H.setLow l).low=l:=id rfl
theorem nI(H:AH)(l l':Nat):(H.setLow l).setLow l'=H.setLow l':=id rfl
theorem yH(H:AH)(b:Nat):(H.mark b).low=H.low:=AH.mark_low H b
theorem GA.mix1{P:Program}{n:Nat}{hints:bu}{e:Tr AV}{H:AH}{Q:AE->Tr AV->AH->Prop}(hm:P.follows .mixedOrders=true){l:List (Nat×AO)}(h:eT P (H.setLow (2^40)) H.next true l e (H.setLow (2^40)) (λe' H'=>Q .normal e' (H'.setLow (min H.low H'.low)))):GA P n hints (.mix l) e H Q:=
 GA.mix hm H.next (by rw[Nat.sub_self];trivial) h
theorem GA.mixm{P:Program}{n:Nat}{hints:bu}{e:Tr AV}{H:AH}{Q:AE->Tr AV->AH->Prop}(hm:P.follows .mixedOrders=true)(m:Nat){l:List (Nat×AO)}(htop:bI H m (H.next-m))(h:eT P (H.setLow (2^40)) m true l e (H.setLow (2^40)) (λe' H'=>Q .normal e' (H'.setLow (min H.low H'.low)))):GA P n hints (.mix l) e H Q:=
 GA.mix hm m htop h
theorem GA.frkm{P:Program}{n:Nat}{hints:bu}{e:Tr AV}{H:AH}{Q:AE->Tr AV->AH->Prop}(hm:P.follows .mixedOrders=true)(m:Nat){l:List (Nat×AO)}{T:AT}(htop:bI H m (H.next-m))(h:eT P (H.setLow (2^40)) m true l e (H.setLow (2^40)) (λe' H'=>ek P m T e' H' (λe' H'=>Q .normal e' (H'.setLow (min H.low H'.low))))):GA P n hints (.frk l T) e H Q:=
 GA.frk hm m htop h
theorem GA.cut{P:Program}{n:Nat}{hints:bu}{e:Tr AV}{H:AH}{Q:AE->Tr AV->AH->Prop}{x y:AC}(e2:Tr AV)(H2:AH)(h:GA P n hints x e H (gD (λe' H'=>Wk n e' H' e2 H2) (λ_ _ _=>False)))(h':GA P n hints y e2 H2 Q):GA P n hints (.seq x y) e H Q:=
 GA.seq (h.mono λa e' H' hq=>by
  cases a with
  |normal=>exact GA.wk hq h'
  |exit i=>exact hq.elim
  |ret=>exact hq.elim)
theorem c9.lst{r:Nat->Option Nat}{M:List Nat}{H:AH}{b esz ty:Nat}{l:List AV}(hx:H.at b=some (ae esz ty l))(hM:M.contains b=false)(hl:l.length<1000000)(hp:l.all (AV.pu 3)=true):c9 r M H b (ae esz ty l):=by
 refine⟨ae esz ty l,hx,rfl,rfl,rfl,rfl,.inl rfl,by rw[if_neg (by simpa using hM)];exact Nat.le_refl _,λi hi=>?_⟩
 have hi':i<l.length:=hi
 rw[jV esz ty l i hl,List.getElem?_eq_getElem hi']
 exact .cv (.rfl (List.all_eq_true.1 hp _ (List.getElem_mem hi')))
theorem c9.keep{r:Nat->Option Nat}{M:List Nat}{H:AH}{b ty esz n z:Nat}{row:Nat->Nat->AV}(hx:H.at b=some (ai ty esz n z row))(hM:M.contains b=false)(h0:0<esz)(hc:∀i j,i<n->j<esz->(row i j).pu 3=true):c9 r M H b (ai ty esz n z row):=
 c9.rows hx rfl rfl rfl (Nat.le_refl _) (by rw[if_neg (by simpa using hM)];exact Nat.le_refl _) h0 (λi j _ hj=>aK i j hj) hc
theorem cM.nil{r:Nat->Option Nat}{M:List Nat}{H:AH}:cM r M H [] []:=trivial
theorem cM.cons{r:Nat->Option Nat}{M:List Nat}{H:AH}{b:Nat}{ρ:List Nat}{x:AB}{bl:List AB}(h1:ρ.contains b=false)(h2:c9 r M H b x)(h3:cM r M H ρ bl):cM r M H (b::ρ) (x::bl):=⟨by simpa using h1,h2,h3⟩
def rF(P:Program)(n:Nat)(hints:bu)(cc:AX)(x y:AC)(e:Tr AV)(H:AH)(Q:AE->Tr AV->AH->Prop):Prop:=match cc.ev e with
 |some (.b t)=>(t=true->GA P n hints x e H Q)/\(t=false->GA P n hints y e H Q)
 |_=>False
theorem GA.cond'{P:Program}{n:Nat}{hints:bu}{e:Tr AV}{H:AH}{Q:AE->Tr AV->AH->Prop}{cc:AX}{x y:AC}(h:rF P n hints cc x y e H Q):GA P n hints (.cond cc x y) e H Q:=by
 unfold rF at h
 split at h
 ·rename_i t ht
  exact GA.cond ht h.1 h.2
 ·exact h.elim
theorem Wv.n{r:Nat->Option Nat}{M:List Nat}{H:AH}{k:IntKind}{a b:Int}(h:a=b):Wv r M H (.n k a) (.n k b):=by subst h;exact .cv (.rfl rfl)
theorem Wv.same{r:Nat->Option Nat}{M:List Nat}{H:AH}{v:AV}(h:v.pu 3=true):Wv r M H v v:= .cv (.rfl h)
theorem a7{a b:Prop}(h1:a)(h2:b):a/\b:=⟨h1,h2⟩
theorem ag{P:Program}[IdleOK P](hm:P.follows .mixedOrders=true){f:FuncId}{hints:bu}{F:AF}(hF:aI P hints f=some F){args:List AV}(hlen:args.length<=F.nt/\F.nt<100000){Q:AV->AH->Prop}
  (h:GA P F.nt hints F.code (aB (aH 0 args)) (ah []) (jc F.res Q)):rV P f args Q:=
 Ci hm hF hlen.1 (GA.wk (Wk.arg _ _ _ (by omega)) h)
theorem Vz(x:Bool):dw (pure (.bool x))=some (.b x):=id rfl
theorem Vy(k:IntKind)(x:Int):dw (pure (.int k x))=some (.n k x):=id rfl
theorem Cg(a b:Int):(a==b)=decide (a=b):=by rw[Bool.eq_iff_iff];simp
theorem Z2(a b:Int):(a != b)= !decide (a=b):=by rw[bne,Cg]
def Z4:AC->Bool
 |.loop _=>false
 |.frk _ _=>false
 |.dfr _ _ _=>false
 |.mxl _=>false
 |.rf _ _ _ _ _=>false
 |_=>true
attribute [reducible] Z4
def GS(P:Program)(n:Nat)(hints:bu)(ac:AC)(e:Tr AV)(H:AH)(Q:AE->Tr AV->AH->Prop):Prop:=match ac with
 |.skip=>Q .normal e H
 |.exit i=>Q (.exit i) e H
 |.ret=>Q .ret e H
 |.seq x y=>GA P n hints x e H (gD (λe' H'=>GA P n hints y e' H' Q) Q)
 |.cond c x y=>rF P n hints c x y e H Q
 |.block id x=>GA P n hints x e H (jA id Q)
 |.reg l=>gm P l e H (λe' H'=>Q .normal e' H')
 |.mix l=>eT P (H.setLow (2^40)) H.next true l e (H.setLow (2^40)) (λe' H'=>Q .normal e' (H'.setLow (min H.low H'.low)))
 |.loop _=>False
 |.frk _ _=>False
 |.dfr _ _ _=>False
 |.mxl _=>False
 |.rf _ _ _ _ _=>False
 |.die=>False
theorem GA.go{P:Program}{n:Nat}{hints:bu}{ac:AC}{e:Tr AV}{H:AH}{Q:AE->Tr AV->AH->Prop}(hm:P.follows .mixedOrders=true)(hg:Z4 ac=true)(h:GS P n hints ac e H Q):GA P n hints ac e H Q:=by
 cases ac with
 |skip=>exact GA.skip h
 |exit i=>exact GA.exit h
 |ret=>exact GA.ret h
 |seq x y=>exact GA.seq h
 |cond c x y=>exact GA.cond' h
 |block id x=>exact GA.block h
 |reg l=>exact GA.reg h
 |mix l=>exact GA.mix1 hm h
 |loop x=>cases hg
 |frk l T=>cases hg
 |dfr _ _ _=>cases hg
 |mxl _=>cases hg
 |rf _ _ _ _ _=>cases hg
 |die=>exact(show False from h).elim
section
variable {P:Program} {n:Nat} {hints:bu} {e:Tr AV} {H:AH} {Q:AE->Tr AV->AH->Prop}
theorem GS.skip:GS P n hints .skip e H Q=Q .normal e H:=id rfl
theorem GS.exit(i:Nat):GS P n hints (.exit i) e H Q=Q (.exit i) e H:=id rfl
theorem GS.ret:GS P n hints .ret e H Q=Q .ret e H:=id rfl
theorem GS.seq(x y:AC):GS P n hints (.seq x y) e H Q=GA P n hints x e H (gD (λe' H'=>GA P n hints y e' H' Q) Q):=id rfl
theorem GS.cond(c:AX)(x y:AC):GS P n hints (.cond c x y) e H Q=rF P n hints c x y e H Q:=id rfl
theorem GS.block(id:Nat)(x:AC):GS P n hints (.block id x) e H Q=GA P n hints x e H (jA id Q):=_root_.id rfl
theorem GS.reg(l:List AO):GS P n hints (.reg l) e H Q=gm P l e H (λe' H'=>Q .normal e' H'):=id rfl
theorem GS.mix(l:List (Nat×AO)):GS P n hints (.mix l) e H Q=eT P (H.setLow (2^40)) H.next true l e (H.setLow (2^40)) (λe' H'=>Q .normal e' (H'.setLow (min H.low H'.low))):=id rfl
end
/-! what every step uses-/
attribute [go_sem] GS.skip GS.exit GS.ret GS.seq GS.cond GS.block GS.reg GS.mix Vz Vy Cg Z2 gD jA xO jc rF zs ws zn v8 zo v9 zm v7 beq_false beq_true Wl
 Wj Wi Ig Bm yY zt wt y6 vX zT cE eu AP.kind wl sX wo vR bI eH
 AX.ev r9 AP.run AP.r_mv AP.r_pick AP.r_ld AP.r_st AP.r_nc AP.r_bin AP.r_un AP.r_cvi AP.r_fa AP.r_fd AP.r_ia AP.r_iaa AP.r_ext AP.r_len AP.r_cpc AP.r_clr AP.r_mf AP.r_al AP.r_bx AP.r_bd AP.r_bs AP.r_ms AP.r_sl AP.r_se AP.r_eq AP.r_lns AP.r_sx AP.r_ix AP.r_app AP.r_apm aP uR bq ke zL dV ey iA wN V4 CF V2 CD V0 CB Jd z7 V1
 CC BK wM Jc z6 Jh Ab V3 CE Ji Ac Jf z9 Jg Aa Je z8
 List.cons_append List.nil_append List.append_nil Option.map_some Option.map_none List.all_cons List.all_nil List.length_cons List.length_nil
 Bool.and_true Bool.true_and Bool.and_self It Iu Iw Ix Iy Iq IA Ik Ir Ip jm su dl
 uV zv ol zH Bi x7 tR AH.load AH.loadN dP ic tz yi Ak vx cL aZ
 qT iB B4 B2 B3 yj Kc xB Ck yN Ct Ic BG if_true if_false ite_true ite_false true_and
 and_true forall_const false_implies implies_true Bool.true_eq_false Bool.false_eq_true Option.some.injEq AV.b.injEq exists_eq_left' exists_eq_left
 decide_eq_true_eq decide_eq_false_iff_not Bool.not_eq_true' Bool.not_eq_false' Option.isSome_some not_true_eq_false not_false_eq_true Int.not_lt
 Int.not_le oZ ze get_nil Bz List.getElem?_cons_zero List.getElem?_cons_succ Option.getD_some Int.toNat_natCast Nat.zero_add Nat.add_zero
 Nat.mul_one Nat.zero_le beq_iff_eq beq_eq_false_iff_ne ne_eq u4 xN BA xL u5 xM app_size CL Ke CJ
 Am CK AH.append dg.len i8 vn vm bW j7 bj Ai JN Cl JP Wm JM Cm JO
 AH.mark_next AH.mark_low true_or or_true Bool.not_false Bool.not_true Bool.and_false Nat.le_refl Nat.min_self beq_self_eq_true lG maxLen
 Bool.and_eq_true wQ qL sP nI yH tu tv false_and and_false mW List.isEmpty_cons
 List.isEmpty_nil List.take_zero List.take_succ_cons List.drop_zero List.drop_succ_cons List.take_nil List.drop_nil vt yh BM
 yf vu yg List.length_append vG yG B1 yE vH yF jV vE yD B0 yA
 vF yC yB
/-! arguments that are found-/
theorem iI{P:Prop}(h:P:=by first|trivial|exact Wv.same rfl|exact Wv.p rfl|exact Wv.os rfl|exact Wv.sl rfl|exact Wv.n (by omega)|exact Wv.n (am (by omega))|exact Wv.n (by rw[am (by omega)];omega)):P:=h
theorem wku{P:Prop}(h:P:=by first|exact True.intro|exact Wv.same rfl|exact Wv.p rfl|exact Wv.os rfl|exact Wv.sl rfl|exact Wv.n (by omega)|exact Wv.n (am (by omega))|exact Wv.n (by rw[am (by omega)];omega)):P:=h
theorem c9.ls{r:Nat->Option Nat}{M:List Nat}{H:AH}{b esz ty:Nat}{l:List AV}(hx:H.at b=some (ae esz ty l):=by simp only[go_sem,simprocAttr]<;>rfl)(hM:M.contains b=false:=by rfl)(hl:l.length<1000000:=by simp)(hp:l.all (AV.pu 3)=true:=by rfl):c9 r M H b (ae esz ty l):= .lst hx hM hl hp
theorem c9.k1{r:Nat->Option Nat}{M:List Nat}{H:AH}{b ty esz n z:Nat}{row:Nat->Nat->AV}(hx:H.at b=some (ai ty esz n z row):=by simp only[go_sem,simprocAttr])(hM:M.contains b=false:=by rfl)(h0:0<esz:=by decide)(hc:∀i j,i<n->j<esz->(row i j).pu 3=true:=by intro _ _ _ _;rfl):c9 r M H b (ai ty esz n z row):= .keep hx hM h0 hc
theorem c9.k5{r:Nat->Option Nat}{M:List Nat}{H:AH}{b ty n z:Nat}{row:Nat->Nat->AV}(hx:H.at b=some (ai ty 5 n z row):=by simp only[go_sem,simprocAttr])(hM:M.contains b=false:=by rfl)(hc:∀i j,i<n->j<5->(row i j).pu 3=true:=by intro _ j _ hj;rcases(show j=0\/j=1\/j=2\/j=3\/j=4 by omega) with rfl|rfl|rfl|rfl|rfl<;>rfl):c9 r M H b (ai ty 5 n z row):= .keep hx hM (by decide) hc
theorem gqa{P:Program}{g:FuncId}{a fa:AV}{H:AH}{rs:List RT}{Q:AV->AH->Prop}(h:bN P g [fa] rs)(hQ:Q (bn (bW (bj H []) rs).1) (bW (bj H []) rs).2)(ha:Cv [] H a fa:=by exact .rfl (by rfl))(hnx:H.next+9<2^40:=by simp only[go_sem,simprocAttr]):ko P g [a] H Q:=aR [] (.cons ha .nil) h hnx hQ
theorem gqb{P:Program}{g:FuncId}{a b fa fb:AV}{H:AH}{rs:List RT}{Q:AV->AH->Prop}(h:bN P g [fa,fb] rs)(hQ:Q (bn (bW (bj H []) rs).1) (bW (bj H []) rs).2)(ha:Cv [] H a fa:=by exact .rfl (by rfl))(hb:Cv [] H b fb:=by exact .rfl (by rfl))(hnx:H.next+9<2^40:=by simp only[go_sem,simprocAttr]):ko P g [a,b] H Q:=aR [] (.cons ha (.cons hb .nil)) h hnx hQ
theorem gqe{P:Program}{g:FuncId}{a b c d k:AV}{H:AH}{rs:List RT}{Q:AV->AH->Prop}(h:bN P g [a,b,c,d,k] rs)(hQ:Q (bn (bW (bj H []) rs).1) (bW (bj H []) rs).2)(ha:a.pu 3=true:=by rfl)(hb:b.pu 3=true:=by rfl)(hc:c.pu 3=true:=by rfl)(hd:d.pu 3=true:=by rfl)(hk:k.pu 3=true:=by rfl)(hnx:H.next+9<2^40:=by simp only[go_sem,simprocAttr]):ko P g [a,b,c,d,k] H Q:=aR [] (.cons (.rfl ha) (.cons (.rfl hb) (.cons (.rfl hc) (.cons (.rfl hd) (.cons (.rfl hk) .nil))))) h hnx hQ
theorem bO{P:Program}{g:FuncId}{args:List AV}{H:AH}{rs:List RT}{Q:AV->AH->Prop}(F:List AV)(h:bN P g F rs)(hQ:Q (bn (bW (bj H []) rs).1) (bW (bj H []) rs).2)(hcv:cm [] H args F:=by exact cm.same rfl)(hnx:H.next+9<2^40:=by simp only[go_sem,simprocAttr]):ko P g args H Q:=aR [] hcv h hnx hQ
theorem cM.cr{r:Nat->Option Nat}{M:List Nat}{H:AH}{b:Nat}{ρ:List Nat}{x:AB}{bl:List AB}(h2:c9 r M H b x)(h3:cM r M H ρ bl)(h1:ρ.contains b=false:=by rfl):cM r M H (b::ρ) (x::bl):= .cons h1 h2 h3
theorem ba{P:Prop}(h:P:=by simp only[d9,cM,go_sem,simprocAttr];(repeat' refine a7 ?_ ?_);all_goals first|trivial|exact Wv.same rfl|exact Wv.p rfl|exact Wv.os rfl|exact Wv.sl rfl|exact Wv.n (by omega)|exact Wv.n (am (by omega))|exact Wv.n (by rw[am (by omega)];omega)):P:=h
theorem c9.k2{r:Nat->Option Nat}{M:List Nat}{H:AH}{b ty esz n z:Nat}{row:Nat->Nat->AV}(hc:∀i j,i<n->j<esz->(row i j).pu 3=true)(hx:H.at b=some (ai ty esz n z row):=by simp only[go_sem,simprocAttr])(hM:M.contains b=false:=by rfl)(h0:0<esz:=by decide):c9 r M H b (ai ty esz n z row):= .keep hx hM h0 hc
theorem c9.r0{r:Nat->Option Nat}{M:List Nat}{H:AH}{b ty esz n z:Nat}{row:Nat->Nat->AV}{x:AB}(hx:H.at b=some x:=by simp only[go_sem,simprocAttr];rfl)(h1:x.ty=ty:=by rfl)(h2:x.esz=esz:=by rfl)(h3:x.opn=true:=by rfl)(h4:n*esz<=x.size:=by simp)(h5:(if b ∈ M then max x.size x.fzn else x.fzn)<=z:=by decide)(h0:0<esz:=by decide)(hr:∀i j,i<n->j<esz->x.get (i*esz+j)=row i j:=by intro i j h;simp at h)(hc:∀i j,i<n->j<esz->(row i j).pu 3=true:=by intro i j h;simp at h):c9 r M H b (ai ty esz n z row):= .rows hx h1 h2 h3 h4 h5 h0 hr hc
theorem c9.r1{r:Nat->Option Nat}{M:List Nat}{H:AH}{b ty esz n z:Nat}{row:Nat->Nat->AV}{x:AB}(hx:H.at b=some x:=by simp only[go_sem,simprocAttr];rfl)(h1:x.ty=ty:=by rfl)(h2:x.esz=esz:=by rfl)(h3:x.opn=true:=by rfl)(h4:n*esz<=x.size:=by decide)(h5:(if b ∈ M then max x.size x.fzn else x.fzn)<=z:=by decide)(h0:0<esz:=by decide)(hr:∀i j,i<n->j<esz->x.get (i*esz+j)=row i j:=by intro i j h;simp at h)(hc:∀i j,i<n->j<esz->(row i j).pu 3=true:=by intro i j h;simp at h):c9 r M H b (ai ty esz n z row):= .rows hx h1 h2 h3 h4 h5 h0 hr hc
end Go.Proofs.YtdpkgnmmikebdaaGreat
namespace Go.Proofs.YtdpkgnmmikebdaaGreat
open Go.RowKit
inductive BT where
 |lf (k:Nat) (F:AF)
 |nd (k:Nat) (l r:BT)
def BT.get:BT->FuncId->Option AF
 |.lf k F,f=>bif Nat.beq k f then some F else none
 |.nd k l r,f=>bif Nat.ble k f then r.get f else l.get f
def BT.ok(P:Program):BT->Prop
 |.lf k F=>aI P (af P k) k=some F
 |.nd _ l r=>l.ok P/\r.ok P
def lH(M:Nat->Option OB):Nat->Option OB:=λr=>match M r with
 |some (.mp x)=>some (.mp {x with own:=false})
 |_=>none
theorem B9{M:Nat->Option OB}{r:Nat}{x:fW}(h:M r=some (.mp x)):lH M r=some (.mp {x with own:=false}):=by unfold lH;rw[h]
theorem OR.lend{B:Nat}{ob:Nat->Option OB}{w:World}{B':Nat}(h:OR B ob w):OR B' (lH ob) w:=λr x hx=>by
 unfold lH at hx
 split at hx
 ·rename_i y hy
  cases hx
  obtain⟨_,es,c,h1,h2⟩:=h r _ hy
  exact⟨λh=>(by cases h),es,c,h1,⟨h2.cnt,h2.ent,h2.dom,h2.one,h2.stp⟩⟩
 ·cases hx
theorem Dd.down{B B' r:Nat}{w:World}{x:OB}(h:Dd B' w r x)(hB:B<=w.heap.size/\B<=B'):Dd B w r x:=by
 cases x with
 |mp x=>exact⟨λq=>Nat.le_trans hB.2 (h.1 q),h.2⟩
 |it y=>exact⟨Nat.le_trans hB.2 h.1,h.2⟩
 |fix o=>exact⟨Nat.le_trans hB.2 h.1,h.2⟩
def AH.addOb(H:AH)(N:Nat->Option OB):AH:={H with ob:=λr=>match H.ob r with
 |some x=>some x
 |none=>N r}
def Df(P:Program)(f:FuncId)(M:Nat->Option OB)(args:List AV)(Q:AV->AH->Prop):Prop:=
 nN P f/\∀(φ:Fz) (w:World) (args':Array Value),pY φ w->a8 (Sg.data φ) args args'.toList->OR w.heap.size (lH M) w->Calls P f args' w (oO φ w Q)
theorem HR.emptyM{φ:Fz}{M:Nat->Option OB}(w:World)(hφ:∀c fs,φ c=some fs->∃cs t fr,w.heap[c]? =some (.cells cs t fr)/\gS fs cs)(hM:OR w.heap.size (lH M) w):HR w.heap.size ⟨λ_=>none,λ_=>False,φ⟩ (az (lH M) []) w:=by
 have h:=HR.empty w hφ
 exact⟨h.new,h.newl,h.old,h.small,h.hB,h.nil,h.nilp,h.blk,h.szs,h.inj,h.frz,by rw[jS,dt];exact .none hM⟩
theorem zd{P:Program}[IdleOK P](hm:P.follows .mixedOrders=true){f:FuncId}{hints:bu}{F:AF}(hF:aI P hints f=some F){args:List AV}(hlen:args.length<=F.nt){Q:AV->AH->Prop}
  {M:Nat->Option OB} (h:GA P F.nt hints F.code (gH args) (az (lH M) []) (jc F.res Q)):Df P f M args Q:=by
 unfold aI at hF
 obtain⟨fn,h1,hF⟩:=Option.bind_eq_some_iff.1 hF
 obtain⟨c,h3,hF⟩:=Option.bind_eq_some_iff.1 hF
 obtain⟨ac,h5,hF⟩:=Option.bind_eq_some_iff.1 hF
 obtain⟨r,h6,hF⟩:=Option.bind_eq_some_iff.1 hF
 split at hF
 rotate_left
 ·cases hF
 rename_i hq
 cases hF
 refine⟨⟨fn,h1,hq.1,by rw[h3];rfl⟩,λφ w args' hφ ha hM=>?_⟩
 refine eR h1 h3 ?_
 refine h c h5 w.heap.size (Sg.data φ) _ w _ (lO ha hlen hq.2) (HR.emptyM w hφ hM) (λc a w hq=>hq.elim) (λx e' H' a' w' σ' q q1 q2 q3 q4=>?_)
 have key:∀l,eH e' H' r=some l->Q (bn l) H'->(∀d ∈ a'.defers,oM d)/\∃v,(results fn a'.tmps).run P w'= .ok v w'/\oO φ w Q (.returned v) w':=by
  intro l hl hQ
  obtain⟨us,g1,g2⟩:=kw q1.er q2 _ _ _ h6 hl
  have hres:∃u,(results fn a'.tmps).run P w'= .ok u w'/\VR σ' (bn l) u:=by
   have hsem:results fn a'.tmps=(do let vs<-fn.results.mapM (eI a');pure (if h:vs.size=1 then vs[0] else .tuple vs)):=by
    unfold results
    rfl
   have hrun:(fn.results.mapM (eI a')).run P w'= .ok us.toArray w':=by
    simp[Array.mapM_eq_mapM_toList,g1]
   rw[hsem]
   simp only[Sem.run_bind,hrun,Result.andThen_ok,Sem.run_pure]
   refine⟨_,rfl,?_⟩
   have hn:=g2.1
   match l,us,g2,hn with
   |[v],[u],g2,_=>exact g2.2 0 v rfl
   |[],[],_,_=>exact a8.nil.tup
   |v1::v2::l,u1::u2::us,g2,_=>exact g2.tup
  obtain⟨u,k1,k2⟩:=hres
  exact⟨q1.er.df,u,k1,bn l,H',σ',hQ,k2,q2,q3,q4.eq⟩
 have q':∃l,eH e' H' r=some l/\Q (bn l) H':=by
  cases x with
  |exit i=>exact q.elim
  |normal=>
   simp only[jc] at q
   split at q
   ·rename_i l hl;exact⟨l,hl,q⟩
   ·exact q.elim
  |ret=>
   simp only[jc] at q
   split at q
   ·rename_i l hl;exact⟨l,hl,q⟩
   ·exact q.elim
 obtain⟨l,hl,hQ⟩:=q'
 obtain⟨k1,v,k2,k3⟩:=key l hl hQ
 have post:Leaves P fn a'.tmps (oO φ w Q) a'.defers .returning w':=fe k2 k3 _ k1
 cases x with
 |exit i=>exact q.elim
 |normal=>exact post
 |ret=>exact post
def x6:OB->Bool
 |.mp x=>x.own
 |_=>false
def wX(P:Program)(f:FuncId)(args:List AV)(gS:(Nat->Option OB)->Prop)(fB:(Nat->Option OB)->List RT->(Nat->Option OB)->Prop):Prop:=
 ∀M,gS M->Df P f M args λv H=>∃(rs:List RT) (N:Nat->Option OB) (l:List AV),fB M rs N/\v=bn l/\kr rs l H/\∀r x,N r=some x->H.ob r=some x/\x6 x=true
theorem pC:∀(l:List gG) (H:AH),(j7 H l).2.ob=H.ob
 |[],_=>rfl
 |.v x::l,H=>pC l H
 |.o ty esz n z row::l,H=>pC l (H.new (ai ty esz n z row))
theorem pz:∀(rs:List RT) (H:AH),(bW H rs).2.ob=H.ob
 |[],_=>rfl
 |.v x::rs,H=>pz rs H
 |.o ty esz n z row::rs,H=>rfl
 |.a l::rs,H=>pC l H
theorem pD:∀(l:List gG) (H:AH),(j7 H l).2.mp=H.mp
 |[],_=>rfl
 |.v x::l,H=>pD l H
 |.o ty esz n z row::l,H=>pD l (H.new (ai ty esz n z row))
theorem uv:∀(rs:List RT) (H:AH),(bW H rs).2.mp=H.mp
 |[],_=>rfl
 |.v x::rs,H=>uv rs H
 |.o ty esz n z row::rs,H=>rfl
 |.a l::rs,H=>pD l H
theorem qP:∀(l:List Nat) (H:AH),(bj H l).mp=H.mp
 |[],_=>rfl
 |b::l,H=>by rw[bj,qP l,AH.mark_mp]
theorem HR.addOb{B:Nat}{σ:Sg}{H:AH}{w:World}(h:HR B σ H w){ob N:Nat->Option OB}(he:H.ob=ob)(hN:∀r x,N r=some x->Dd B w r x)(hc:∀b d c o,jT H.mp b=some d->σ.nm b=some (c,o)->N c=none)(hni:∀r y,N r≠some (.it y)):HR B σ (H.addOb N) w:=
 ⟨h.new,h.newl,h.old,h.small,h.hB,h.nil,h.nilp,h.blk,h.szs,h.inj,h.frz,⟨λr x hx=>by
  have hx:(match H.ob r with|some x=>some x|none=>N r)=some x:=hx
  split at hx
  ·rename_i y hy;cases hx;exact h.ob.o r x hy
  ·exact hN r x hx,λb d hb=>by
  obtain⟨c,es,clock,k1,k2,k3,k4,k5⟩:=h.ob.m b d hb
  refine⟨c,es,clock,k1,k2,k3,⟨?_,λr y hy=>?_⟩,k5⟩
  ·show(match H.ob c with|some x=>some x|none=>N c)=none
   rw[k4.1];exact hc b d c _ hb k1
  ·have hy:(match H.ob r with|some x=>some x|none=>N r)=some (.it y):=hy
   split at hy
   ·rename_i z hz;cases hy;exact k4.2 r y hz
   ·exact absurd hy (hni r y),h.ob.i⟩⟩
theorem cw{P:Program}{g:FuncId}{args fargs:List AV}{H:AH}{Pr:(Nat->Option OB)->Prop}{fB:(Nat->Option OB)->List RT->(Nat->Option OB)->Prop}{Q:AV->AH->Prop}(M:List Nat)(hcv:cm M H args fargs)(h:wX P g fargs Pr fB)(hpre:Pr H.ob)(hnx:H.next+9<2^40)
  (hQ:∀rs N,fB H.ob rs N->(∀r x,N r=some x->H.ob r=none)->Q (bn (bW (bj H M) rs).1) ((bW (bj H M) rs).2.addOb N)):ko P g args H Q:=by
 replace h:=h H.ob hpre
 refine⟨h.1,λB σ w args' hH ha=>?_⟩
 obtain⟨σ2,q1,q2,q3,q4,q5,q6,q7⟩:=hH.marks M
 have hd:a8 (Sg.data σ2.fz) fargs args'.toList:=hcv.ok hH q1 q2 q7 ha
 have hin:pY σ2.fz w:=λc fs hf=>by
  obtain⟨cs,t,fr,e1,e2,_⟩:=q6.frz c fs hf
  exact⟨cs,t,fr,e1,e2⟩
 refine(h.2 σ2.fz w args' hin hd hH.ob.o.lend).mono λe w' hp=>?_
 cases e with
 |panicked c=>exact hp.elim
 |outgrown=>exact hp.elim
 |returned u=>
  obtain⟨v,Hc,σ',⟨rs,N,l,hpost,rfl,hr,hN⟩,hv,hHc,hbel,hfz⟩:=hp
  obtain⟨us,hus,hback⟩:=fL hv
  let σa:Sg:=⟨σ2.nm,σ2.nl,σ'.fz⟩
  have hle:σ2.le σa:=⟨λ_ _ hh=>hh,λ_ hh=>hh,λc fs hf=>⟨fs,by show σ'.fz c=_;rw[hfz c (q6.fzlt hf)];exact hf,gS.refl _⟩⟩
  have hblt:∀b c o,σa b=some (c,o)->(bj H M).at b≠none->c<w.heap.size:=λb c o hs hne=>by
   cases hx:(bj H M).at b with
   |none=>exact absurd hx hne
   |some x=>
    obtain⟨cs,e1,e2,e3⟩:=q6.blk b x c o hx hs
    exact(Array.getElem?_eq_some_iff.1 e2).1
  have hHa:HR B σa (bj H M) w':=by
   refine⟨q6.new,q6.newl,q6.old,q6.small,Nat.le_trans q6.hB hbel.size,q6.nil,q6.nilp,λb x c o hx hs=>?_,q6.szs,q6.inj,λc fs hf=>?_,(q6.ob.mono hle).keep λr hr _=>hbel.block r hr⟩
   ·obtain⟨cs,e1,e2,e3⟩:=q6.blk b x c o hx hs
    exact⟨cs,e1,by rw[hbel.block c ((Array.getElem?_eq_some_iff.1 e2).1)];exact e2,e3.mono hle⟩
   ·by_cases hc:c<w.heap.size
    ·have hf':σ'.fz c=some fs:=hf
     rw[hfz c hc] at hf'
     obtain⟨cs,t,fr,e1,e2,e3⟩:=q6.frz c fs hf'
     exact⟨cs,t,fr,by rw[hbel.block c hc];exact e1,e2,e3⟩
    ·obtain⟨cs,t,fr,e1,e2,_⟩:=hHc.frz c fs hf
     refine⟨cs,t,fr,e1,e2,λb x o hx hs=>?_⟩
     have:=hblt b c o hs (by rw[hx];simp)
     omega
  have hnx':(bj H M).next+9<2^40:=by rw[cY];exact hnx
  have hmm:∀{a:AV} {u:Value} {σn:Sg},a.pu 3=true->True->σa.le σn->VR σ' a u->VR σn a u:=λhp _ hle' hu=>by
   have e1:=hu.pure 3 hp
   have e2:σ'.bare.le _:=⟨λb x hx=>(by cases hx),λb hb=>False.elim hb,λc' fs hf=>hle'.fz c' fs hf⟩
   exact e1.mono e2
  obtain⟨σ3,p1,p2,p3,p4,p5,p6,p7,p8⟩:=kE (σa:=σa) (good:=λ_=>True) hmm hHc hHa (λc fs _ hf=>hf) hH.hB hblt hnx' rs l us hr (λr _=>pH r) hus
  rw[cY] at p5 p6 p8
  rw[iX] at p7
  have hfree:∀r x,N r=some x->H.ob r=none:=λr x hx=>by
   cases ho:H.ob r with
   |none=>rfl
   |some y=>
    have h1:=hH.ob.o.lt ho
    obtain⟨h2,h3⟩:=hN r x hx
    cases x with
    |mp x=>
     have:=(hHc.ob.o r _ h2).1 h3
     omega
    |it y=>cases h3
    |fix o=>cases h3
  refine⟨_,_,σ3,hQ rs N hpost hfree,hback (dU rs l _ hr) p2,p1.addOb (by rw[pz,mI]) (λr x hx=>(hHc.ob.o r x (hN r x hx).1).down ⟨Nat.le_trans hH.hB hbel.size,hH.hB⟩) (λb d c o hb hs=>?_) (λr y hy=>by have:=(hN r _ hy).2;cases this),⟨λb hb=>?_,(q1.trans hle).trans p3,p6,by show(bW (bj H M) rs).2.low<=_;rw[p7];exact Nat.le_refl _,?_,λc hc=> .inl (hbel.block c hc),λb c o hb hs hc=>?_⟩,⟨λc hc=>?_,((q1.trans hle).trans p3).fz⟩⟩
  ·rw[uv,qP] at hb
   obtain⟨c0,es,clock,k1,k2,k3,k4,k5⟩:=hH.ob.m b d hb
   have hbn:b<H.next:=by
    rcases Nat.lt_or_ge b H.next with h1|h1
    ·exact h1
    ·rw[hH.new b h1] at k1;cases k1
   have hc:σ3 b=some (c0,none):=by rw[p5 b hbn];show σ2.nm b=_;rw[q2];exact k1
   rw[hc] at hs
   have ec:c0=c:=congrArg Prod.fst (Option.some.inj hs)
   subst ec
   cases hNc:N c0 with
   |none=>rfl
   |some x=>
    obtain⟨h2,h3⟩:=hN c0 x hNc
    have hlt:=(Array.getElem?_eq_some_iff.1 k3).1
    cases x with
    |mp x=>have:=(hHc.ob.o c0 _ h2).1 h3;omega
    |it y=>cases h3
    |fix o=>cases h3
  ·rw[p5 b hb];show σ2.nm b=σ.nm b;rw[q2]
  ·exact⟨hbel.os,hbel.tape,hbel.output,hbel.size,λk hk=>hbel.block k (by have:=hH.hB;omega)⟩
  ·have:=p8 b c o hb hs
   omega
  ·rw[p4]
   show σ'.fz c=σ.fz c
   rw[hfz c (by have:=hH.hB;omega),q4.eq c hc]
theorem c9.lstj{r:Nat->Option Nat}{M:List Nat}{H:AH}{b esz ty:Nat}{l:List AV}{x:AB}(hx:H.at b=some x)(h1:x.ty=ty)(h2:x.esz=esz)(h3:x.opn=false)(h4:x.size=l.length)(h5:x.fzn=0)(hM:M.contains b=false)(hl:l.length<1000000)(hg:∀i,i<l.length->Wv r M H (x.get i) (l[i]?.getD .u)):c9 r M H b (ae esz ty l):=by
 refine⟨x,hx,h1.symm,h2.symm,h3.symm,rfl,.inl h4.symm,by rw[if_neg (by simpa using hM),h5];exact Nat.zero_le _,λi hi=>?_⟩
 have hi':i<l.length:=hi
 rw[jV esz ty l i hl]
 exact hg i hi'
theorem Cv.ownb{M:List Nat}{H:AH}{b ty esz n z:Nat}{row:Nat->Nat->AV}(hx:H.at b=some (ai ty esz n z row))(hc:∀i j,i<n->j<esz->(row i j).cell=true)(hm:b ∈ M):Cv M H (.os b n) (.fs esz n row):=
 .os hm hx (Nat.le_refl _) (λi j _ hj=>aK i j hj) hc
theorem ZZ{i:Nat}(h:i<2):i=0\/i=1:=by omega
theorem lt3z{i:Nat}(h:i<3):i=0\/i=1\/i=2:=by omega
theorem lt4z{i:Nat}(h:i<4):i=0\/i=1\/i=2\/i=3:=by omega
theorem ZX{i:Nat}(h:i<1):i=0:=by omega
theorem c9.j1{r:Nat->Option Nat}{M:List Nat}{H:AH}{b esz ty:Nat}{l:List AV}{x:AB}(hx:H.at b=some x:=by simp only[go_sem,simprocAttr]<;>rfl)(h1:x.ty=ty:=by rfl)(h2:x.esz=esz:=by rfl)(h3:x.opn=false:=by rfl)(h4:x.size=l.length:=by rfl)(h5:x.fzn=0:=by rfl)(hM:M.contains b=false:=by rfl)(hl:l.length<1000000:=by simp)(hg:∀i,i<l.length->Wv r M H (x.get i) (l[i]?.getD .u):=by intro i hi;rcases ZX hi with rfl<;>(simp only[go_sem,simprocAttr];first|exact Wv.same rfl|exact Wv.os rfl|exact Wv.p rfl|exact Wv.n (by omega))):c9 r M H b (ae esz ty l):= .lstj hx h1 h2 h3 h4 h5 hM hl hg
theorem ZW{i:Nat}(h:i<2):i=0\/i=1:=by omega
theorem c9.j2{r:Nat->Option Nat}{M:List Nat}{H:AH}{b esz ty:Nat}{l:List AV}{x:AB}(hx:H.at b=some x:=by simp only[go_sem,simprocAttr]<;>rfl)(h1:x.ty=ty:=by rfl)(h2:x.esz=esz:=by rfl)(h3:x.opn=false:=by rfl)(h4:x.size=l.length:=by rfl)(h5:x.fzn=0:=by rfl)(hM:M.contains b=false:=by rfl)(hl:l.length<1000000:=by simp)(hg:∀i,i<l.length->Wv r M H (x.get i) (l[i]?.getD .u):=by intro i hi;rcases ZW hi with rfl|rfl<;>(simp only[go_sem,simprocAttr];first|exact Wv.same rfl|exact Wv.os rfl|exact Wv.p rfl|exact Wv.n (by omega))):c9 r M H b (ae esz ty l):= .lstj hx h1 h2 h3 h4 h5 hM hl hg
theorem ZV{i:Nat}(h:i<3):i=0\/i=1\/i=2:=by omega
theorem c9.j3{r:Nat->Option Nat}{M:List Nat}{H:AH}{b esz ty:Nat}{l:List AV}{x:AB}(hx:H.at b=some x:=by simp only[go_sem,simprocAttr]<;>rfl)(h1:x.ty=ty:=by rfl)(h2:x.esz=esz:=by rfl)(h3:x.opn=false:=by rfl)(h4:x.size=l.length:=by rfl)(h5:x.fzn=0:=by rfl)(hM:M.contains b=false:=by rfl)(hl:l.length<1000000:=by simp)(hg:∀i,i<l.length->Wv r M H (x.get i) (l[i]?.getD .u):=by intro i hi;rcases ZV hi with rfl|rfl|rfl<;>(simp only[go_sem,simprocAttr];first|exact Wv.same rfl|exact Wv.os rfl|exact Wv.p rfl|exact Wv.n (by omega))):c9 r M H b (ae esz ty l):= .lstj hx h1 h2 h3 h4 h5 hM hl hg
theorem ZU{i:Nat}(h:i<4):i=0\/i=1\/i=2\/i=3:=by omega
theorem c9.j4{r:Nat->Option Nat}{M:List Nat}{H:AH}{b esz ty:Nat}{l:List AV}{x:AB}(hx:H.at b=some x:=by simp only[go_sem,simprocAttr]<;>rfl)(h1:x.ty=ty:=by rfl)(h2:x.esz=esz:=by rfl)(h3:x.opn=false:=by rfl)(h4:x.size=l.length:=by rfl)(h5:x.fzn=0:=by rfl)(hM:M.contains b=false:=by rfl)(hl:l.length<1000000:=by simp)(hg:∀i,i<l.length->Wv r M H (x.get i) (l[i]?.getD .u):=by intro i hi;rcases ZU hi with rfl|rfl|rfl|rfl<;>(simp only[go_sem,simprocAttr];first|exact Wv.same rfl|exact Wv.os rfl|exact Wv.p rfl|exact Wv.n (by omega))):c9 r M H b (ae esz ty l):= .lstj hx h1 h2 h3 h4 h5 hM hl hg
theorem ZT{i:Nat}(h:i<5):i=0\/i=1\/i=2\/i=3\/i=4:=by omega
theorem c9.j5{r:Nat->Option Nat}{M:List Nat}{H:AH}{b esz ty:Nat}{l:List AV}{x:AB}(hx:H.at b=some x:=by simp only[go_sem,simprocAttr]<;>rfl)(h1:x.ty=ty:=by rfl)(h2:x.esz=esz:=by rfl)(h3:x.opn=false:=by rfl)(h4:x.size=l.length:=by rfl)(h5:x.fzn=0:=by rfl)(hM:M.contains b=false:=by rfl)(hl:l.length<1000000:=by simp)(hg:∀i,i<l.length->Wv r M H (x.get i) (l[i]?.getD .u):=by intro i hi;rcases ZT hi with rfl|rfl|rfl|rfl|rfl<;>(simp only[go_sem,simprocAttr];first|exact Wv.same rfl|exact Wv.os rfl|exact Wv.p rfl|exact Wv.n (by omega))):c9 r M H b (ae esz ty l):= .lstj hx h1 h2 h3 h4 h5 hM hl hg
theorem ZS{i:Nat}(h:i<6):i=0\/i=1\/i=2\/i=3\/i=4\/i=5:=by omega
theorem c9.j6{r:Nat->Option Nat}{M:List Nat}{H:AH}{b esz ty:Nat}{l:List AV}{x:AB}(hx:H.at b=some x:=by simp only[go_sem,simprocAttr]<;>rfl)(h1:x.ty=ty:=by rfl)(h2:x.esz=esz:=by rfl)(h3:x.opn=false:=by rfl)(h4:x.size=l.length:=by rfl)(h5:x.fzn=0:=by rfl)(hM:M.contains b=false:=by rfl)(hl:l.length<1000000:=by simp)(hg:∀i,i<l.length->Wv r M H (x.get i) (l[i]?.getD .u):=by intro i hi;rcases ZS hi with rfl|rfl|rfl|rfl|rfl|rfl<;>(simp only[go_sem,simprocAttr];first|exact Wv.same rfl|exact Wv.os rfl|exact Wv.p rfl|exact Wv.n (by omega))):c9 r M H b (ae esz ty l):= .lstj hx h1 h2 h3 h4 h5 hM hl hg
theorem t8{ty esz n z q:Nat}{row:Nat->Nat->AV}{l:List AV}(hl:l.length=esz)(hq:q<n)(hn:n*esz<1000000):∀i j,i<n->j<esz->((ai ty esz n z row).putN (q*esz) l).get (i*esz+j)=if i=q then l[j]?.getD .u else row i j:=by
 intro i j hi hj
 have hql:q*esz+esz<=n*esz:=by
  have:=Nat.mul_le_mul_right esz (Nat.succ_le_of_lt hq)
  rwa [Nat.succ_mul] at this
 rw[dl (by omega)]
 by_cases e:i=q
 ·subst e
  rw[if_pos (by omega),if_pos rfl,Nat.add_sub_cancel_left]
 ·rw[if_neg e,if_neg ?_]
  ·exact aK i j hj
  ·rintro ⟨h1,h2⟩
   rcases Nat.lt_or_gt_of_ne e with h|h
   ·have:=Nat.mul_le_mul_right esz (Nat.succ_le_of_lt h)
    rw[Nat.succ_mul] at this
    omega
   ·have:=Nat.mul_le_mul_right esz (Nat.succ_le_of_lt h)
    rw[Nat.succ_mul] at this
    omega
theorem c9.put{r:Nat->Option Nat}{M:List Nat}{H:AH}{b ty esz n z q o:Nat}{row row2:Nat->Nat->AV}{l:List AV}(hx:H.at b=some ((ai ty esz n z row).putN o l))(ho:o=q*esz)(hl:l.length=esz)(hq:q<n)(hM:M.contains b=false)(h0:0<esz)(hn:n*esz<1000000)
  (h2:∀i j,i<n->j<esz->(if i=q then l[j]?.getD .u else row i j)=row2 i j) (hc:∀i j,i<n->j<esz->(row2 i j).pu 3=true):c9 r M H b (ai ty esz n z row2):=by
 subst ho
 exact c9.rows hx rfl rfl rfl (Nat.le_refl _) (by rw[if_neg (by simpa using hM)];exact Nat.le_refl _) h0 (λi j hi hj=>(t8 hl hq hn i j hi hj).trans (h2 i j hi hj)) hc
theorem c9.same{r:Nat->Option Nat}{M:List Nat}{H:AH}{b ty esz n z:Nat}{row row2:Nat->Nat->AV}(hx:H.at b=some (ai ty esz n z row))(hM:M.contains b=false)(h0:0<esz)(h2:∀i j,i<n->j<esz->row i j=row2 i j)(hc:∀i j,i<n->j<esz->(row2 i j).pu 3=true):c9 r M H b (ai ty esz n z row2):=
 c9.rows hx rfl rfl rfl (Nat.le_refl _) (by rw[if_neg (by simpa using hM)];exact Nat.le_refl _) h0 (λi j hi hj=>(aK i j hj).trans (h2 i j hi hj)) hc
theorem c9.s1{r:Nat->Option Nat}{M:List Nat}{H:AH}{b ty n z:Nat}{row row2:Nat->Nat->AV}(hx:H.at b=some (ai ty 1 n z row):=by simp only[go_sem,simprocAttr]<;>rfl)(hM:M.contains b=false:=by rfl)(h2:∀i j,i<n->j<1->row i j=row2 i j:=by intro _ j _ hj;cases Nat.lt_one_iff.1 hj;rfl)(hc:∀i j,i<n->j<1->(row2 i j).pu 3=true:=by intro _ _ _ _;rfl):c9 r M H b (ai ty 1 n z row2):= .same hx hM (by decide) h2 hc
theorem c9.pop{r:Nat->Option Nat}{M:List Nat}{H:AH}{b ty esz n m z:Nat}{row row2:Nat->Nat->AV}(hx:H.at b=some (ai ty esz n z row))(hM:M.contains b=false)(h0:0<esz)(hm:m<=n)(h2:∀i j,i<m->j<esz->row i j=row2 i j)(hc:∀i j,i<m->j<esz->(row2 i j).pu 3=true):c9 r M H b (ai ty esz m z row2):=
 c9.rows hx rfl rfl rfl (Nat.mul_le_mul_right esz hm) (by rw[if_neg (by simpa using hM)];exact Nat.le_refl _) h0 (λi j hi hj=>(aK i j hj).trans (h2 i j hi hj)) hc
theorem eG{l:List Int}{q:Nat}(hq:q<l.length)(v:Int)(i:Nat):(l.set q v).getD i 0=if i=q then v else l.getD i 0:=by
 simp only[List.getD_eq_getElem?_getD,List.getElem?_set]
 by_cases h:q=i
 ·subst h;simp[hq]
 ·simp[h,Ne.symm h]
theorem hD{ty n z:Nat}{row:Nat->Nat->AV}(i:Nat):(ai ty 1 n z row).get i=row i 0:=by
 have:=aK (ty:=ty) (n:=n) (z:=z) (row:=row) i 0 (by decide:0<1)
 simpa using this
theorem c9.snoc{r:Nat->Option Nat}{M:List Nat}{H:AH}{b ty esz n z o:Nat}{row row2:Nat->Nat->AV}{l:List AV}(hx:H.at b=some ((ai ty esz n z row).app o (.li l)))(ho:o=n*esz)(hl:l.length=esz)(hM:M.contains b=false)(h0:0<esz)(hn:(n+1)*esz<2^40)
  (h1:∀i j,i<n->j<esz->row2 i j=row i j) (h2:∀j,j<esz->row2 n j=l[j]?.getD .u) (hc:∀i j,i<n+1->j<esz->(row2 i j).pu 3=true):c9 r M H b (ai ty esz (n+1) z row2):=by
 subst ho
 refine c9.rows hx (AB.app_rest _ _ _).2.1 (AB.app_rest _ _ _).1 (AB.app_rest _ _ _).2.2.1 ?_ ?_ h0 (mb hl hn h1 h2) hc
 ·rw[AB.app_size];simp only[dg.len,hl,Nat.succ_mul];exact Nat.le_refl _
 ·rw[if_neg (by simpa using hM),(AB.app_rest _ _ _).2.2.2.2];exact Nat.le_refl _
theorem lj{α:Type}{l l':List α}{i:Nat}{d:α}(h:i<l.length):(l++l').getD i d=l.getD i d:=by
 simp[List.getD_eq_getElem?_getD,List.getElem?_append_left h]
theorem ll{α:Type}{l:List α}{x d:α}:(l++[x]).getD l.length d=x:=by
 simp[List.getD_eq_getElem?_getD]
theorem c9.put1{r:Nat->Option Nat}{M:List Nat}{H:AH}{b ty esz n z q t o:Nat}{row row2:Nat->Nat->AV}{v:AV}(hx:H.at b=some ((ai ty esz n z row).putN o [v]))(ho:o=q*esz+t)(ht:t<esz)(hq:q<n)(hM:M.contains b=false)(hn:n*esz<1000000)
  (h2:∀i j,i<n->j<esz->(if i=q/\j=t then v else row i j)=row2 i j) (hc:∀i j,i<n->j<esz->(row2 i j).pu 3=true):c9 r M H b (ai ty esz n z row2):=by
 subst ho
 have hql:q*esz+esz<=n*esz:=by
  have:=Nat.mul_le_mul_right esz (Nat.succ_le_of_lt hq)
  rwa [Nat.succ_mul] at this
 refine c9.rows hx rfl rfl rfl (Nat.le_refl _) (by rw[if_neg (by simpa using hM)];exact Nat.le_refl _) (by omega) (λi j hi hj=>?_) hc
 rw[dl (by simp only[List.length_cons,List.length_nil];omega)]
 by_cases e:i=q/\j=t
 ·obtain⟨rfl,rfl⟩:=e
  rw[if_pos (by simp),<-h2 i j hi hj,if_pos ⟨rfl,rfl⟩,Nat.sub_self]
  rfl
 ·rw[if_neg ?_,<-h2 i j hi hj,if_neg e]
  ·exact aK i j hj
  ·rintro ⟨h3,h4⟩
   simp only[List.length_cons,List.length_nil] at h4
   have h5:i*esz+j=q*esz+t:=by omega
   rcases Nat.lt_trichotomy i q with h|h|h
   ·have:=Nat.mul_le_mul_right esz (Nat.succ_le_of_lt h)
    rw[Nat.succ_mul] at this
    omega
   ·subst h
    exact e ⟨rfl,by omega⟩
   ·have:=Nat.mul_le_mul_right esz (Nat.succ_le_of_lt h)
    rw[Nat.succ_mul] at this
    omega
theorem HR.recell{B:Nat}{σ:Sg}{H:AH}{w:World}{b:Nat}{x x':AB}(h:HR B σ H w)(hx:H.at b=some x)(hb:b<1000000)(hsz:x'.size=x.size)(hty:x'.ty=x.ty)(hesz:x'.esz=x.esz)(hop:x'.opn=x.opn)(hlv:x'.live=true)(hfz:x'.fzn=x.fzn)
  (hc:∀i u,i<x.size->VR σ (x.get i) u->VR σ (x'.get i) u):HR B σ (H.upd b x') w:=by
 have look:∀b2 y,(H.upd b x').at b2=some y->(b2=b/\y=x')\/(b2≠b/\H.at b2=some y):=by
  intro b2 y hy
  rw[tz hb] at hy
  by_cases e:b2=b
  ·rw[if_pos e,if_pos hlv] at hy;cases hy;exact .inl ⟨e,rfl⟩
  ·rw[if_neg e] at hy;exact .inr ⟨e,hy⟩
 refine⟨h.new,h.newl,λb2 hb2=>?_,h.small,h.hB,λb2 y hy hn=>?_,h.nilp,λb2 y c o hy hs=>?_,λb2 y hy=>?_,λb2 b3 y y' c o o' k1 k2 k3 k4=>?_,λc fs hf=>?_,h.ob⟩
 ·cases hy:(H.upd b x').at b2 with
  |none=>rfl
  |some y=>
   rcases look b2 y hy with⟨rfl,_⟩|⟨_,h1⟩
   ·have:=h.old b2 hb2;rw[hx] at this;cases this
   ·have:=h.old b2 hb2;rw[h1] at this;cases this
 ·rcases look b2 y hy with⟨rfl,rfl⟩|⟨_,h1⟩
  ·have:=h.nil b2 x hx hn
   exact⟨by rw[hsz];exact this.1,by rw[hop];exact this.2.1,this.2.2⟩
  ·exact h.nil b2 y h1 hn
 ·rcases look b2 y hy with⟨rfl,rfl⟩|⟨_,h1⟩
  ·obtain⟨cs,g1,g2,g3⟩:=h.blk b2 x c o hx hs
   exact⟨cs,g1,by rw[hty];exact g2,by rw[hsz];exact g3.sz,λe=>by rw[hsz];exact g3.ex e,λk hk=>by rw[hesz];exact g3.op k hk,by rw[hop];exact g3.ob,λi hi=>hc i _ (by rw[<-hsz];exact hi) (g3.cell i (by rw[<-hsz];exact hi))⟩
  ·exact h.blk b2 y c o h1 hs
 ·rcases look b2 y hy with⟨rfl,rfl⟩|⟨_,h1⟩
  ·rw[hsz];exact h.szs b2 x hx
  ·exact h.szs b2 y h1
 ·have f:∀b2 y,(H.upd b x').at b2=some y->∃z,H.at b2=some z:=λb2 y hy=>by
   rcases look b2 y hy with⟨rfl,rfl⟩|⟨_,h1⟩
   ·exact⟨x,hx⟩
   ·exact⟨y,h1⟩
  obtain⟨z1,hz1⟩:=f b2 y k1
  obtain⟨z2,hz2⟩:=f b3 y' k2
  exact h.inj b2 b3 z1 z2 c o o' hz1 hz2 k3 k4
 ·obtain⟨cs,t,fr,g1,g2,g3⟩:=h.frz c fs hf
  refine⟨cs,t,fr,g1,g2,λb2 y o hy hs=>?_⟩
  rcases look b2 y hy with⟨rfl,rfl⟩|⟨_,h1⟩
  ·rw[hfz];exact g3 b2 x o hx hs
  ·exact g3 b2 y o h1 hs
theorem Wk.nilb{n:Nat}{e:Tr AV}{H:AH}(b i esz ty:Nat){x:AB}(hx:H.at b=some x)(hg:x.get i= .sl0)(hi:i<1000000)(hb:b<1000000)(hbn:b<H.next)(hlv:x.live=true)(hn:H.next<1000000):
  Wk n e H e ((H.new (gj esz ty)).upd b (x.set i (.os H.next 0))):=by
 intro B σ a w hE hH
 have hle:=σ.le_extNil H.next
 have h1:=hH.placeNil (x:=gj esz ty) (H1:=H) rfl (λ_ _ h=>h) (by omega) rfl rfl rfl ⟨rfl,rfl⟩
 refine⟨σ.extNil H.next,⟨⟨hE.er.df,λt' v hv=>(hE.er.get t' v hv).mono hle⟩,hE.sz,hE.sm⟩,?_,.of_eq rfl⟩
 have hx1:(H.new (gj esz ty)).at b=some x:=by rw[dP hn,if_neg (by omega)];exact hx
 refine h1.recell hx1 hb rfl rfl rfl rfl hlv rfl (λj u hj hu=>?_)
 rw[oZ hi]
 by_cases e:j=i
 ·rw[if_pos e]
  rw[e,hg] at hu
  cases hu
  exact .os0 (σ:=σ.extNil H.next) (Or.inl rfl) _
 ·rw[if_neg e];exact hu
end Go.Proofs.YtdpkgnmmikebdaaGreat