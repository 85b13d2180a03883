/- A part of the proof of OptimizerOptimizes: EvS EvU EvV EvW EvX. No condition. -/
import Derived.Test.YtidhfimbnjaceaaGreatGq09
set_option linter.unusedSimpArgs false
set_option linter.unusedVariables false
set_option linter.constructorNameAsVariable false
set_option maxRecDepth 100000
set_option maxHeartbeats 4000000
namespace Go.Proofs.YtidhfimbnjaceaaGreat
open Go.RowKit
/-! what follows an operation,closed till its value is there-/
def zI(P:Program)(l:List AO)(e:Tr AV)(d:Option Nat)(Q:Tr AV->AH->Prop)(v:AV)(H:AH):Prop:=j8 P l (bu e d v) H Q
theorem w5(P:Program)(l:List AO)(e:Tr AV)(d:Option Nat)(Q:Tr AV->AH->Prop)(v:AV)(H:AH):zI P l e d Q v H=j8 P l (bu e d v) H Q:=id rfl
theorem xp(P:Program)(e:Tr AV)(H:AH)(Q:Tr AV->AH->Prop):j8 P [] e H Q=Q e H:=id rfl
def Vl(P:Program)(d:Option Nat)(k:AK)(l:List AO)(e:Tr AV)(H:AH)(Q:Tr AV->AH->Prop):Option Bool->Prop
 |some true=>gK P e H k (zI P l e d Q)
 |some false=>j8 P l (bu e d (.tup [])) H Q
 |none=>False
theorem xn(P:Program)(d:Option Nat)(k:AK)(l:List AO)(e:Tr AV)(H:AH)(Q:Tr AV->AH->Prop):Vl P d k l e H Q (some true)=gK P e H k (zI P l e d Q):=id rfl
theorem ve(P:Program)(d:Option Nat)(k:AK)(l:List AO)(e:Tr AV)(H:AH)(Q:Tr AV->AH->Prop):Vl P d k l e H Q (some false)=j8 P l (bu e d (.tup [])) H Q:=id rfl
theorem vi(P:Program)(d:Option Nat)(g:Option (Nat×Bool))(k:AK)(l:List AO)(e:Tr AV)(H:AH)(Q:Tr AV->AH->Prop):j8 P (⟨d,g,k⟩::l) e H Q=Vl P d k l e H Q (dC e g):=by
 show(match dC e g with
  |some t=>(t=true->gK P e H k (zI P l e d Q))/\(t=false->j8 P l (bu e d (.tup [])) H Q)
  |none=>False)=_
 cases dC e g with
 |none=>rfl
 |some t=>cases t<;>simp[Vl]
def yh(r:Option (AV×AH))(Q:AV->AH->Prop):Prop:=match r with
  |some (v,H')=>Q v H'
  |none=>False
theorem s6(v:AV)(H:AH)(Q:AV->AH->Prop):yh (some (v,H)) Q=Q v H:=id rfl
theorem s7(Q:AV->AH->Prop):yh none Q=False:=id rfl
theorem UX(P:Program)(e:Tr AV)(H:AH)(x:AP)(Q:AV->AH->Prop):gK P e H (.ap x) Q=yh (x.run e H) Q:=id rfl
def snA(neg:Bool)(H:AH)(Q:AV->AH->Prop):Option AV->Prop
 |some (.fs _ n _)=>∀t,(t=(!neg)->n=0)->Q (.b t) H
 |_=>False
theorem UV(P:Program)(e:Tr AV)(H:AH)(neg:Bool)(x:AX)(Q:AV->AH->Prop):gK P e H (.sn neg x) Q=snA neg H Q (x.ev e):=id rfl
theorem HU(neg:Bool)(H:AH)(Q:AV->AH->Prop)(esz n:Nat)(row:Nat->Nat->AV):snA neg H Q (some (.fs esz n row))=∀t,(t=(!neg)->n=0)->Q (.b t) H:=rfl
theorem UW(P:Program)(e:Tr AV)(H:AH)(f:AX)(args:List AX)(Q:AV->AH->Prop):gK P e H (.cl f args) Q=match f.ev e,zd e args with
  |some (.f g first cap),some vs=>k9 P g (first++vs++cap) H Q
  |_,_=>False:=id rfl
def sE(P:Program)(H0:AH)(m:Nat)(nc:Bool)(l:List (Nat×AO))(e:Tr AV)(d:Option Nat)(Q:Tr AV->AH->Prop)(v:AV)(H:AH):Prop:=fS P H0 m nc l (bu e d v) H Q
theorem w6(P:Program)(H0:AH)(m:Nat)(nc:Bool)(l:List (Nat×AO))(e:Tr AV)(d:Option Nat)(Q:Tr AV->AH->Prop)(v:AV)(H:AH):sE P H0 m nc l e d Q v H=fS P H0 m nc l (bu e d v) H Q:=id rfl
def tI(P:Program)(H0:AH)(m:Nat)(nc:Bool)(k:Nat)(l:List (Nat×AO))(e:Tr AV)(d:Option Nat)(Q:Tr AV->AH->Prop)(v:AV)(H:AH):Prop:=(k=3\/m<=H.low)/\fS P H0 m nc l (bu e d v) H Q
theorem u6(P:Program)(H0:AH)(m:Nat)(nc:Bool)(k:Nat)(l:List (Nat×AO))(e:Tr AV)(d:Option Nat)(Q:Tr AV->AH->Prop)(v:AV)(H:AH):tI P H0 m nc k l e d Q v H=((k=3\/m<=H.low)/\fS P H0 m nc l (bu e d v) H Q):=id rfl
theorem xq(P:Program)(H0:AH)(m:Nat)(nc:Bool)(e:Tr AV)(H:AH)(Q:Tr AV->AH->Prop):fS P H0 m nc [] e H Q=Q e H:=id rfl
def Vm(P:Program)(H0:AH)(m:Nat)(nc:Bool)(k:Nat)(d:Option Nat)(a:AK)(l:List (Nat×AO))(e:Tr AV)(H:AH)(Q:Tr AV->AH->Prop):Option Bool->Prop
 |some true=>if k=1 then jz H0 m nc e a/\gK P e H a (sE P H0 m nc l e d Q)
    else if k=2 then jh a=true/\gK P e H a (sE P H0 m nc l e d Q)
    else gK P e H a (tI P H0 m (nc&& !qF a) k l e d Q)
 |some false=>(k=0->m<=H.low)/\fS P H0 m nc l (bu e d (.tup [])) H Q
 |none=>False
theorem xo(P:Program)(H0:AH)(m:Nat)(nc:Bool)(k:Nat)(d:Option Nat)(a:AK)(l:List (Nat×AO))(e:Tr AV)(H:AH)(Q:Tr AV->AH->Prop):Vm P H0 m nc k d a l e H Q (some true)=if k=1 then jz H0 m nc e a/\gK P e H a (sE P H0 m nc l e d Q)
    else if k=2 then jh a=true/\gK P e H a (sE P H0 m nc l e d Q)
    else gK P e H a (tI P H0 m (nc&& !qF a) k l e d Q):=id rfl
theorem vf(P:Program)(H0:AH)(m:Nat)(nc:Bool)(k:Nat)(d:Option Nat)(a:AK)(l:List (Nat×AO))(e:Tr AV)(H:AH)(Q:Tr AV->AH->Prop):Vm P H0 m nc k d a l e H Q (some false)=((k=0->m<=H.low)/\fS P H0 m nc l (bu e d (.tup [])) H Q):=id rfl
theorem vj(P:Program)(H0:AH)(m:Nat)(nc:Bool)(k:Nat)(d:Option Nat)(g:Option (Nat×Bool))(a:AK)(l:List (Nat×AO))(e:Tr AV)(H:AH)(Q:Tr AV->AH->Prop):fS P H0 m nc ((k,⟨d,g,a⟩)::l) e H Q=Vm P H0 m nc k d a l e H Q (dC e g):=by
 show(match dC e g with
  |some t=>
   (t=true->if k=1 then jz H0 m nc e a/\gK P e H a (sE P H0 m nc l e d Q)
    else if k=2 then jh a=true/\gK P e H a (sE P H0 m nc l e d Q)
    else gK P e H a (tI P H0 m (nc&& !qF a) k l e d Q))/\
   (t=false->(k=0->m<=H.low)/\fS P H0 m nc l (bu e d (.tup [])) H Q)
  |none=>False)=_
 cases dC e g with
 |none=>rfl
 |some t=>cases t<;>simp[Vm]
def tH(P:Program)(m:Nat)(T:AT)(e:Tr AV)(d:Option Nat)(Q:Tr AV->AH->Prop)(v:AV)(H:AH):Prop:=m<=H.low/\fe P m T (bu e d v) H Q
theorem u5(P:Program)(m:Nat)(T:AT)(e:Tr AV)(d:Option Nat)(Q:Tr AV->AH->Prop)(v:AV)(H:AH):tH P m T e d Q v H=(m<=H.low/\fe P m T (bu e d v) H Q):=id rfl
theorem vg(P:Program)(m:Nat)(e:Tr AV)(H:AH)(Q:Tr AV->AH->Prop):fe P m .fin e H Q=Q e H:=id rfl
theorem sM(P:Program)(m:Nat)(e:Tr AV)(H:AH)(Q:Tr AV->AH->Prop):fe P m .none e H Q=True:=id rfl
def Vk(P:Program)(m:Nat)(d:Option Nat)(a:AK)(r:AT)(e:Tr AV)(H:AH)(Q:Tr AV->AH->Prop):Option Bool->Prop
 |some true=>gK P e H a (tH P m r e d Q)
 |some false=>m<=H.low/\fe P m r (bu e d (.tup [])) H Q
 |none=>False
theorem xm(P:Program)(m:Nat)(d:Option Nat)(a:AK)(r:AT)(e:Tr AV)(H:AH)(Q:Tr AV->AH->Prop):Vk P m d a r e H Q (some true)=gK P e H a (tH P m r e d Q):=id rfl
theorem vd(P:Program)(m:Nat)(d:Option Nat)(a:AK)(r:AT)(e:Tr AV)(H:AH)(Q:Tr AV->AH->Prop):Vk P m d a r e H Q (some false)=(m<=H.low/\fe P m r (bu e d (.tup [])) H Q):=id rfl
theorem vh(P:Program)(m:Nat)(d:Option Nat)(g:Option (Nat×Bool))(a:AK)(r more:AT)(e:Tr AV)(H:AH)(Q:Tr AV->AH->Prop):fe P m (.alt ⟨d,g,a⟩ r more) e H Q=(Vk P m d a r e H Q (dC e g)/\fe P m more e H Q):=by
 show((match dC e g with
   |some t=>(t=true->gK P e H a (tH P m r e d Q))/\(t=false->m<=H.low/\fe P m r (bu e d (.tup [])) H Q)
   |none=>False)/\fe P m more e H Q)=_
 cases dC e g with
 |none=>rfl
 |some t=>cases t<;>simp[Vk]
theorem xI(H0:AH)(m:Nat)(nc:Bool)(e:Tr AV)(n:Nat)(row:Bool)(x:AX):jz H0 m nc e (.ap (.ld n row x))=match x.ev e with
  |some (.p b _)=>b<m/\(H0.at b).isSome=true
  |some (.fp _ _ _)=>nc=true
  |_=>False:=id rfl
theorem H6(k:IntKind)(a b:Int):ij (binOp .lss 0 (.int k a) (.int k b))=some (.b (decide (a<b))):=by cases k<;>rfl
theorem H7(k:IntKind)(a b:Int):ij (binOp .leq 0 (.int k a) (.int k b))=some (.b (decide (a<=b))):=by cases k<;>rfl
theorem H8(k:IntKind)(a b:Int):ij (binOp .gtr 0 (.int k a) (.int k b))=some (.b (decide (b<a))):=by cases k<;>rfl
theorem H9(k:IntKind)(a b:Int):ij (binOp .geq 0 (.int k a) (.int k b))=some (.b (decide (b<=a))):=by cases k<;>rfl
theorem Ia(k:IntKind)(a b:Int):ij (binOp .eql 0 (.int k a) (.int k b))=some (.b (decide (a=b))):=by
 cases k<;>(show some (AV.b (a==b))=_;congr)
theorem H4(k:IntKind)(a b:Int):ij (binOp .neq 0 (.int k a) (.int k b))=some (.b (!decide (a=b))):=by
 cases k<;>(show some (AV.b (a != b))=_;congr)
theorem Ib(k:IntKind)(a b:Int):ij (binOp .add 0 (.int k a) (.int k b))=some (.n k (k.wrap (a+b))):=by cases k<;>rfl
theorem HY(k:IntKind)(a b:Int):ij (binOp .sub 0 (.int k a) (.int k b))=some (.n k (k.wrap (a-b))):=by cases k<;>rfl
theorem H5(k:IntKind)(a b:Int):ij (binOp .mul 0 (.int k a) (.int k b))=some (.n k (k.wrap (a*b))):=by cases k<;>rfl
theorem H3(b:Bool):ij (Op.unary .not (.bool b))=some (.b (!b)):=rfl
theorem b8{x:Int}(h: -9223372036854775808<=x/\x<=9223372036854775807):IntKind.wrap .i64 x=x:=by
 rw[IntKind.wrap_i64];omega
theorem t6(e:Tr AV):dC e none=some true:=rfl
theorem Wk.arg(n:Nat)(args:List AV)(H:AH)(h:args.length<100000):Wk n (ja args) H (au (aZ 0 args)) H:=by
 intro B σ a w hE hH
 refine⟨σ,⟨⟨hE.er.df,λt v hv=>hE.er.get t v ?_⟩,hE.sz,hE.sm⟩,hH,.refl _ _⟩
 rw[rD _ _ _ (by omega)] at hv
 rw[ir _ _ (by omega)]
 split at hv
 ·simpa using hv
 ·cases hv
theorem tu{x:AB}{i:Nat}(h:i<1000000)(v:AV)(j:Nat):(x.set i v).get j=if j=i then v else x.get j:=AB.get_set x i j v (by omega)
theorem j7(n esz ty:Nat)(d:Nat->AV)(l:List AV)(o lv:Bool)(z i:Nat)(h:l.length<1000000):AB.get ⟨n,esz,ty,d,ja l,o,lv,z⟩ i=l[i]?.getD (d i):=by
 simp only[AB.get]
 rw[ir l i (by omega)]
theorem zM(n esz ty:Nat)(d:Nat->AV)(o lv:Bool)(z i:Nat):AB.get ⟨n,esz,ty,d,.nil,o,lv,z⟩ i=d i:=id rfl
theorem Wk.nil{n:Nat}{e:Tr AV}{H:AH}(t esz ty:Nat)(ht:e.get t=some .sl0)(hs:t<1000000)(hn:H.next<1000000):Wk n e H (bu e (some t) (.os H.next 0)) (H.new (lh esz ty)):=by
 intro B σ a w hE hH
 have hle:=σ.le_extNil H.next
 refine⟨σ.extNil H.next,⟨⟨hE.er.df,λt' v hv=>?_⟩,hE.sz,hE.sm⟩,hH.placeNil rfl (λ_ _ h=>h) (by omega) rfl rfl rfl,λ_ _=>rfl⟩
 simp only[bu] at hv
 rw[Tr.get_set 48 e t _ t' (by omega)] at hv
 by_cases h:t'=t
 ·subst h
  rw[if_pos rfl] at hv
  cases hv
  have:=hE.er.get t' _ ht
  generalize a.tmps.getD t' undef=u at this
  cases this
  exact .os0 (σ:=σ.extNil H.next) (Or.inl rfl) _
 ·rw[if_neg h] at hv
  exact(hE.er.get t' v hv).mono hle
theorem ug(ty esz n z:Nat)(row:Nat->Nat->AV):(am ty esz n z row).size=n*esz:=id rfl
theorem wv(ty esz n z:Nat)(row:Nat->Nat->AV):(am ty esz n z row).esz=esz:=id rfl
theorem zo(ty esz n z:Nat)(row:Nat->Nat->AV):(am ty esz n z row).ty=ty:=id rfl
theorem wt(ty esz n z:Nat)(row:Nat->Nat->AV):(am ty esz n z row).opn=true:=id rfl
theorem uh(ty esz n z:Nat)(row:Nat->Nat->AV):(am ty esz n z row).live=true:=id rfl
theorem wu(ty esz n z:Nat)(row:Nat->Nat->AV):(am ty esz n z row).fzn=z:=id rfl
theorem uO(esz ty:Nat):(lh esz ty).size=0:=id rfl
theorem wM(esz ty:Nat):(lh esz ty).esz=esz:=id rfl
theorem zy(esz ty:Nat):(lh esz ty).ty=ty:=id rfl
theorem wK(esz ty:Nat):(lh esz ty).opn=true:=id rfl
theorem uP(esz ty:Nat):(lh esz ty).live=true:=id rfl
theorem wL(esz ty:Nat):(lh esz ty).fzn=0:=id rfl
theorem yt{l:List AB}(h:l.length<1000000)(x:AB)(b:Nat):(ao (x::l)).at b=if b=l.length then(if x.live then some x else none) else(ao l).at b:=by
 rw[n8,pB (by rw[ba];exact h),ba]
theorem qB:∀l:List AB,(ao l).low=2^40
 |[]=>rfl
 |x::l=>qB l
theorem uW(esz ty:Nat)(l:List AV):(aq esz ty l).size=l.length:=id rfl
theorem wW(esz ty:Nat)(l:List AV):(aq esz ty l).esz=esz:=id rfl
theorem zB(esz ty:Nat)(l:List AV):(aq esz ty l).ty=ty:=id rfl
theorem wU(esz ty:Nat)(l:List AV):(aq esz ty l).opn=false:=id rfl
theorem uX(esz ty:Nat)(l:List AV):(aq esz ty l).live=true:=id rfl
theorem wV(esz ty:Nat)(l:List AV):(aq esz ty l).fzn=0:=id rfl
theorem UP(x:Bool):AV.one (.b x)=true:=id rfl
theorem Aa(x:Bool):AV.cells (.b x)=[.b x]:=id rfl
theorem UN(k:IntKind)(x:Int):AV.one (.n k x)=true:=id rfl
theorem z8(k:IntKind)(x:Int):AV.cells (.n k x)=[.n k x]:=id rfl
theorem UL(x:ByteArray):AV.one (.s x)=true:=id rfl
theorem z6(x:ByteArray):AV.cells (.s x)=[.s x]:=id rfl
theorem Im:AV.one (.p0)=true:=id rfl
theorem x8:AV.cells (.p0)=[.p0]:=id rfl
theorem UM(b o:Nat):AV.one (.p b o)=true:=id rfl
theorem z7(b o:Nat):AV.cells (.p b o)=[.p b o]:=id rfl
theorem zx:AV.one (.sl0)=true:=id rfl
theorem vw:AV.cells (.sl0)=[.sl0]:=id rfl
theorem Il(b o l c:Nat):AV.one (.sl b o l c)=true:=id rfl
theorem x7(b o l c:Nat):AV.cells (.sl b o l c)=[.sl b o l c]:=id rfl
theorem It:AV.one (.f0)=true:=id rfl
theorem ye:AV.cells (.f0)=[.f0]:=id rfl
theorem UO(g:FuncId)(l1 l2:List AV):AV.one (.f g l1 l2)=true:=id rfl
theorem z9(g:FuncId)(l1 l2:List AV):AV.cells (.f g l1 l2)=[.f g l1 l2]:=id rfl
theorem Iu(v:Value):AV.one (.cv v)=true:=id rfl
theorem yf(v:Value):AV.cells (.cv v)=[.cv v]:=id rfl
theorem Iq(z n:Nat)(r:Nat->Nat->AV):AV.one (.fs z n r)=true:=id rfl
theorem yc(z n:Nat)(r:Nat->Nat->AV):AV.cells (.fs z n r)=[.fs z n r]:=id rfl
theorem Ir(z:Nat)(r:Nat->AV)(j:Nat):AV.one (.fp z r j)=true:=id rfl
theorem yd(z:Nat)(r:Nat->AV)(j:Nat):AV.cells (.fp z r j)=[.fp z r j]:=id rfl
theorem Ip(b n:Nat):AV.one (.os b n)=true:=id rfl
theorem x9(b n:Nat):AV.cells (.os b n)=[.os b n]:=id rfl
theorem vx(l:List AV):AV.cells (.agg l)=l:=id rfl
def AB.fr(x:AB):AB:={x with fzn:=max x.size x.fzn}
theorem yp{H:AH}{b:Nat}(h:b<1000000)(b':Nat):(H.mark b).at b'=if b'=b then(H.at b).map AB.fr else H.at b':=yq h b'
theorem xv(x:AB)(i:Nat):x.fr.get i=x.get i:=id rfl
theorem zR(x:AB):x.fr.size=x.size:=id rfl
theorem IC(x:AB):x.fr.esz=x.esz:=id rfl
theorem UY(x:AB):x.fr.ty=x.ty:=id rfl
theorem IB(x:AB):x.fr.opn=x.opn:=id rfl
theorem zS(x:AB):x.fr.live=x.live:=id rfl
theorem jw(x:AB):x.fr.fzn=max x.size x.fzn:=id rfl
def mr(esz ty:Nat)(l:List AV):AB:=⟨l.length,esz,ty,λ_=> .u,ja l,false,true,l.length⟩
theorem eE(esz ty:Nat)(l:List AV):(mr esz ty l).size=l.length:=id rfl
theorem wT(esz ty:Nat)(l:List AV):(mr esz ty l).esz=esz:=id rfl
theorem zA(esz ty:Nat)(l:List AV):(mr esz ty l).ty=ty:=id rfl
theorem wS(esz ty:Nat)(l:List AV):(mr esz ty l).opn=false:=id rfl
theorem uV(esz ty:Nat)(l:List AV):(mr esz ty l).live=true:=id rfl
theorem fJ(esz ty:Nat)(l:List AV):(mr esz ty l).fzn=l.length:=id rfl
theorem dp(esz ty:Nat)(l:List AV)(i:Nat)(h:l.length<1000000):(mr esz ty l).get i=l[i]?.getD .u:=jX esz ty l i h
theorem ez.lstz{r:Nat->Option Nat}{M:List Nat}{H:AH}{b esz ty:Nat}{l:List AV}{x:AB}(hx:H.at b=some x)(h1:x.ty=ty)(h2:x.esz=esz)(h3:x.opn=false)(h4:x.size=l.length)(h5:x.fzn<=l.length)(hl:l.length<1000000)(hg:∀i,i<l.length->x.get i=l[i]?.getD .u)(hp:l.all (AV.pu 3)=true):ez r M H b (mr esz ty l):=by
 refine⟨x,hx,h1.symm,h2.symm,h3.symm,rfl,.inl h4.symm,by rw[h4];show _<=l.length;split<;>omega,λi hi=>?_⟩
 have hi':i<l.length:=hi
 rw[hg i hi',dp esz ty l i hl,List.getElem?_eq_getElem hi']
 exact .cv (.rfl (List.all_eq_true.1 hp _ (List.getElem_mem hi')))
theorem jd.get{M:List Nat}{H:AH}:∀{l l':List AV},jd M H l l'->l.length=l'.length/\∀(i:Nat) (v v':AV),l[i]? =some v->l'[i]? =some v'->Cv M H v v'
 |[],[],_=>⟨rfl,λi v v' h=>by simp at h⟩
 |[],_::_,h=>h.elim
 |_::_,[],h=>h.elim
 |x::l,x'::l',h=>by
  obtain⟨h1,h2⟩:=h
  obtain⟨e1,e2⟩:=h2.get
  refine⟨by simp[e1],λi v v' hv hv'=>?_⟩
  cases i with
  |zero=>simp at hv hv';subst hv;subst hv';exact h1
  |succ i=>exact e2 i v v' (by simpa using hv) (by simpa using hv')
theorem Cv.fn{M:List Nat}{H:AH}{g:FuncId}{l1 l2 l1' l2':List AV}(h1:jd M H l1 l1')(h2:jd M H l2 l2'):Cv M H (.f g l1 l2) (.f g l1' l2'):= .f h1.get.1 h2.get.1 h1.get.2 h2.get.2
theorem Cv.box{M:List Nat}{H:AH}{b:Nat}{x:AB}{l:List AV}(hm:M.contains b=true)(hx:H.at b=some x)(hs:x.size=l.length)(h0:0<l.length)(hg:∀j,j<l.length->x.get j=l[j]?.getD .u)(hc:l.all AV.cell=true):Cv M H (.p b 0) (.fp l.length (λj=>l[j]?.getD .u) 0):=
 .p (o:=0) (j:=0) (by simpa using hm) hx (by omega) (by omega) (λq hq=>by rw[Nat.zero_add];exact hg q hq) (λq hq=>by
  rw[List.getElem?_eq_getElem hq]
  exact List.all_eq_true.1 hc _ (List.getElem_mem hq))
theorem app_size(x:AB)(o:Nat)(s:dm):(x.app o s).size=o+s.len:=AB.app_size x o s
theorem Ai(x:AB)(o:Nat)(s:dm):(x.app o s).esz=x.esz:=(AB.app_rest x o s).1
theorem I1(x:AB)(o:Nat)(s:dm):(x.app o s).ty=x.ty:=(AB.app_rest x o s).2.1
theorem Ag(x:AB)(o:Nat)(s:dm):(x.app o s).opn=true:=(AB.app_rest x o s).2.2.1
theorem yN(x:AB)(o:Nat)(s:dm):(x.app o s).live=true:=(AB.app_rest x o s).2.2.2.1
theorem Ah(x:AB)(o:Nat)(s:dm):(x.app o s).fzn=x.fzn:=(AB.app_rest x o s).2.2.2.2
theorem k8(x:AB)(n esz:Nat)(l:List AV)(hl:l.length=esz)(hlim:(n+1)*esz<2^40)(i j:Nat)(hi:i<n+1)(hj:j<esz):(x.app (n*esz) (.li l)).get (i*esz+j)=if i<n then x.get (i*esz+j) else l[j]?.getD .u:=by
 have h1:=iA hi hj
 rw[Nat.add_mul] at hlim h1
 rw[AB.app_get _ _ _ _ (by simp only[dm.len,hl];omega) (by simp only[dm.len,hl];omega)]
 by_cases h:i<n
 ·have:=iA h hj
  rw[if_neg (by omega),if_pos h]
 ·have:i=n:=by omega
  subst this
  rw[if_pos (by omega),if_neg (by omega)]
  simp only[dm.at]
  congr 2
  omega
theorem eg{ty esz n z:Nat}{row row2:Nat->Nat->AV}{l:List AV}(hl:l.length=esz)(hlim:(n+1)*esz<2^40)(h1:∀i j,i<n->j<esz->row2 i j=row i j)(h2:∀j,j<esz->row2 n j=l[j]?.getD .u):
  ∀i j,i<n+1->j<esz->((am ty esz n z row).app (n*esz) (.li l)).get (i*esz+j)=row2 i j:=by
 intro i j hi hj
 rw[k8 _ n esz l hl hlim i j hi hj]
 by_cases h:i<n
 ·rw[if_pos h,aH i j hj,h1 i j h hj]
 ·have:i=n:=by omega
  subst this
  rw[if_neg h,h2 j hj]
theorem ez.rows{r:Nat->Option Nat}{M:List Nat}{H:AH}{b ty esz n z:Nat}{row:Nat->Nat->AV}{x:AB}(hx:H.at b=some x)(h1:x.ty=ty)(h2:x.esz=esz)(h3:x.opn=true)(h4:n*esz<=x.size)(h5:(if b ∈ M then max x.size x.fzn else x.fzn)<=z)(h0:0<esz)
  (hr:∀i j,i<n->j<esz->x.get (i*esz+j)=row i j) (hc:∀i j,i<n->j<esz->(row i j).pu 3=true):ez r M H b (am ty esz n z row):=by
 refine⟨x,hx,h1.symm,h2.symm,h3.symm,rfl,.inr ⟨h3,h4⟩,h5,λi hi=>?_⟩
 have hi':i<n*esz:=hi
 have hq:i / esz<n:=Nat.div_lt_of_lt_mul (by rw[Nat.mul_comm];exact hi')
 have hm:i%esz<esz:=Nat.mod_lt _ h0
 have hdm:i / esz*esz+i%esz=i:=by
  have:=Nat.div_add_mod i esz
  rw[Nat.mul_comm] at this
  exact this
 have e1:(am ty esz n z row).get i=row (i / esz) (i%esz):=rfl
 have e2:=hr _ _ hq hm
 rw[hdm] at e2
 rw[e1,e2]
 exact .cv (.rfl (hc _ _ hq hm))
theorem uN(v:AV):dH [v]=v:=id rfl
theorem uM(v v':AV)(l:List AV):dH (v::v'::l)= .tup (v::v'::l):=id rfl
theorem zs:∀(k:Nat) (v:AV),v.pu k=true->v.pu (k+1)=true:=by
 intro k
 induction k with
 |zero=>intro v h;cases v<;>simp_all [AV.pu]
 |succ k ih=>
  intro v h
  cases v with
  |f g l1 l2=>
   simp only[AV.pu,Bool.and_eq_true,List.all_eq_true] at h ⊢
   exact⟨λx hx=>ih x (h.1 x hx),λx hx=>ih x (h.2 x hx)⟩
  |agg l=>simp only[AV.pu,List.all_eq_true] at h ⊢;exact λx hx=>ih x (h x hx)
  |tup l=>simp only[AV.pu,List.all_eq_true] at h ⊢;exact λx hx=>ih x (h x hx)
  |_=>simp_all [AV.pu]
theorem kI.nil{H:AH}:kI [] [] H:=trivial
theorem kI.v{H:AH}{x v:AV}{rs:List RT}{l:List AV}(h:v=x)(hp:x.pu 3=true)(h':kI rs l H):kI (.v x::rs) (v::l) H:=⟨⟨h,hp⟩,h'⟩
theorem kI.o0{H:AH}{ty esz z:Nat}{row:Nat->Nat->AV}{rs:List RT}{l:List AV}(ha:pG rs=true)(h':kI rs l H):kI (.o ty esz 0 z row::rs) (.sl0::l) H:=⟨.inl ⟨rfl,rfl⟩,ha,h'⟩
theorem kI.o{H:AH}{ty esz n z b:Nat}{x:AB}{row:Nat->Nat->AV}{rs:List RT}{l:List AV}(hx:H.at b=some x)(h1:x.ty=ty)(h2:x.esz=esz)(h3:x.opn=true)(h0:0<esz)(h4:n*esz<=x.size)(h5:x.fzn<=z)
  (hr:∀i j,i<n->j<esz->x.get (i*esz+j)=row i j) (hc:∀i j,i<n->j<esz->(row i j).cell=true) (ha:pG rs=true) (h':kI rs l H):kI (.o ty esz n z row::rs) (.os b n::l) H:=
 ⟨.inr ⟨b,rfl,by simp,x,hx,h1,h2,h0,h3,h4,h5,hr,hc⟩,ha,h'⟩
theorem kI.a{H:AH}{c:List gF}{vs:List AV}{rs:List RT}{l:List AV}(h0:c.length<=8)(h:tY H [] c vs)(ha:pG rs=true)(h':kI rs l H):kI (.a c::rs) (.agg vs::l) H:=⟨⟨h0,vs,rfl,h⟩,ha,h'⟩
theorem tY.nil{H:AH}{u:List Nat}:tY H u [] []:=trivial
theorem tY.v{H:AH}{u:List Nat}{x v:AV}{rs:List gF}{l:List AV}(h:v=x)(hp:x.pu 3=true)(h':tY H u rs l):tY H u (.v x::rs) (v::l):=⟨⟨h,hp⟩,h'⟩
theorem tY.o{H:AH}{u:List Nat}{ty esz n z b:Nat}{x:AB}{row:Nat->Nat->AV}{rs:List gF}{l:List AV}(hx:H.at b=some x)(hu:u.contains b=false)(h1:x.ty=ty)(h2:x.esz=esz)(h3:x.opn=true)(h0:0<esz)(h4:n*esz<=x.size)(h5:x.fzn<=z)
  (hr:∀i j,i<n->j<esz->x.get (i*esz+j)=row i j) (hc:∀i j,i<n->j<esz->(row i j).cell=true) (h':tY H (b::u) rs l):tY H u (.o ty esz n z row::rs) (.os b n::l):=
 ⟨.inr ⟨b,rfl,by simpa using hu,x,hx,h1,h2,h0,h3,h4,h5,hr,hc⟩,h'⟩
theorem ic(x:AB)(o:Nat)(l:List AV)(i:Nat)(h:o+l.length<1000000000)(hi:i<o+l.length):(x.app o (.li l)).get i=if o<=i then l[i-o]?.getD .u else x.get i:=AB.app_get x o (.li l) i (by simp only[dm.len];omega) hi
theorem jd.nil{M:List Nat}{H:AH}:jd M H [] []:=trivial
theorem jd.cons{M:List Nat}{H:AH}{v v2:AV}{l l2:List AV}(h:Cv M H v v2)(h':jd M H l l2):jd M H (v::l) (v2::l2):=⟨h,h'⟩
theorem jd.same{M:List Nat}{H:AH}:∀{l:List AV},l.all (AV.pu 3)=true->jd M H l l
 |[],_=>trivial
 |v::l,h=>by
  simp only[List.all_cons,Bool.and_eq_true] at h
  exact⟨.rfl h.1,jd.same h.2⟩
theorem cj{l:List AV}(h:l.all (AV.pu 2)=true):l.all (AV.pu 3)=true:=by
 simp only[List.all_eq_true] at h ⊢
 exact λx hx=>zs 2 x (h x hx)
theorem ah{v x:AV}{H:AH}(h:v=x)(hp:x.pu 3=true):∃l1,v=dH l1/\kI [.v x] l1 H:=⟨[v],rfl,⟨h,hp⟩,trivial⟩
theorem bB{a b:AV}{l:List AV}{rs:List RT}{H:AH}(h:kI rs (a::b::l) H):∃l1,AV.tup (a::b::l)=dH l1/\kI rs l1 H:=⟨a::b::l,rfl,h⟩
def AV.sc:Nat->AV->Bool
 |_,.b _|_,.n _ _|_,.s _|_,.p0|_,.sl0|_,.f0|_,.cv _=>true
 |k+1,.agg l=>l.all (AV.sc k)
 |k+1,.tup l=>l.all (AV.sc k)
 |_,_=>false
theorem VR.sc{σ σ2:Sg}:∀(k:Nat) {v:AV} {x:Value},v.sc k=true->VR σ v x->VR σ2 v x
 |k,v,x,hp,h=>by
  cases h with
  |b x=>exact .b x
  |n k x=>exact .n k x
  |s x=>exact .s x
  |p0=>exact .p0
  |sl0 a=>exact .sl0 a
  |f0=>exact .f0
  |cv _ hv=>exact .cv _ hv
  |agg hl hh=>
   cases k with
   |zero=>simp[AV.sc] at hp
   |succ k=>
    simp only[AV.sc,List.all_eq_true] at hp
    exact .agg hl (λi v hv=>VR.sc k (hp v (List.mem_of_getElem? hv)) (hh i v hv))
  |tup hl hh=>
   cases k with
   |zero=>simp[AV.sc] at hp
   |succ k=>
    simp only[AV.sc,List.all_eq_true] at hp
    exact .tup hl (λi v hv=>VR.sc k (hp v (List.mem_of_getElem? hv)) (hh i v hv))
  |_=>cases k<;>simp[AV.sc] at hp
theorem Ut:∀(k:Nat) (v:AV),v.sc k=true->v.pu k=true:=by
 intro k
 induction k with
 |zero=>intro v h;cases v<;>simp_all [AV.sc,AV.pu]
 |succ k ih=>
  intro v h
  cases v with
  |agg l=>simp only[AV.pu,AV.sc,List.all_eq_true] at h ⊢;exact λx hx=>ih x (h x hx)
  |tup l=>simp only[AV.pu,AV.sc,List.all_eq_true] at h ⊢;exact λx hx=>ih x (h x hx)
  |_=>simp_all [AV.pu,AV.sc]
theorem HR.after_call{B:Nat}{σ:Sg}{H:AH}{w w':World}(h:HR B σ H w)(hb:Below w.heap.size w w'):HR B σ H w':=by
 refine⟨h.new,h.newl,h.old,h.small,Nat.le_trans h.hB hb.size,h.nil,h.nilp,λb x c o hx hs=>?_,h.szs,h.inj,λc fs hf=>?_⟩
 ·obtain⟨cs,e1,e2,e3⟩:=h.blk b x c o hx hs
  exact⟨cs,e1,by rw[hb.block c ((Array.getElem?_eq_some_iff.1 e2).1)];exact e2,e3⟩
 ·obtain⟨cs,t,fr,e1,e2,e3⟩:=h.frz c fs hf
  exact⟨cs,t,fr,by rw[hb.block c (h.fzlt hf)];exact e1,e2,e3⟩
theorem eG{P:Program}{g:FuncId}{args fargs:List AV}{H:AH}{rs:List RT}{Q:AV->AH->Prop}(M:List Nat)(hcv:jd M H args fargs)(h:a7 P g fargs rs)(hnx:H.next+9<2^40)(hsc:∀r ∈ rs,gR (λa=>a.sc 3=true) r)
  (hQ:Q (dH (eF H rs).1) (eF H rs).2):k9 P g args H Q:=by
 refine⟨h.1,λB σ w args' hH ha=>?_⟩
 obtain⟨σ2,q1,q2,q3,q4,q5,q6,q7⟩:=hH.marks M
 have hd:cr (Sg.data σ2.fz) fargs args'.toList:=hcv.ok hH q1 q2 q7 ha
 have hin:xe σ2.fz w:=λc fs hf=>by
  obtain⟨cs,t,fr,e1,e2,_⟩:=q6.frz c fs hf
  exact⟨cs,t,fr,e1,e2⟩
 refine(h.2 σ2.fz w args' hin hd).mono λe w' hp=>?_
 cases e with
 |panicked c=>exact hp.elim
 |outgrown=>exact hp.elim
 |returned u=>
  obtain⟨v,Hc,σ',⟨l,rfl,hr⟩,hv,hHc,hbel,hfz⟩:=hp
  obtain⟨us,hus,hback⟩:=gk hv
  have hblt:∀b c o,σ b=some (c,o)->H.at b≠none->c<w.heap.size:=λb c o hs hne=>by
   cases hx:H.at b with
   |none=>exact absurd hx hne
   |some x=>
    obtain⟨cs,e1,e2,e3⟩:=hH.blk b x c o hx hs
    exact(Array.getElem?_eq_some_iff.1 e2).1
  obtain⟨σ3,p1,p2,p3,p4,p5,p6,p7,p8⟩:=sI (σa:=σ) (good:=λa=>a.sc 3=true) (λ{a u σn} _ hs _ hu=>hu.sc 3 hs) hHc (hH.after_call hbel) (λc fs hc hf=>by have:=hH.fzlt hf;omega) hH.hB hblt hnx rs l us hr hsc hus
  refine⟨_,_,σ3,hQ,hback (iL rs l _ hr) p2,p1,⟨λb hb=>p5 b hb,p3,p6,by rw[p7];exact Nat.le_refl _,?_,λc hc=> .inl (hbel.block c hc),λb c o hb hs hc=>?_⟩,λc hc=>by rw[p4]⟩
  ·exact⟨hbel.os,hbel.tape,hbel.output,hbel.size,λk hk=>hbel.block k (by have:=hH.hB;omega)⟩
  ·have:=p8 b c o hb hs
   omega
theorem mB{P:Program}(hm:P.follows .mixedOrders=true){T:FuncId->Option AF}(hT:yT P T){lf k:Nat}{f:FuncId}{args:List AV}{v:AV}{H':AH}(hr:lc T lf k f args ⟨.nil,0,2^40⟩=some (v,H'))(hv:v.sc 3=true):a7 P f args [.v v]:=by
 refine⟨(oJ 0 hm hT lf k).fn hr,λφ w args' hφ ha=>?_⟩
 refine Calls.mono ((oJ w.heap.size hm hT lf k).run hr _ w args' (HR.empty w hφ) ha) (λe w' hp=>?_)
 cases e with
 |panicked c=>exact hp.elim
 |outgrown=>exact hp.elim
 |returned u=>
  obtain⟨σ',q1,q2,q3⟩:=hp
  have hw:xe φ w':=λc fs hf=>by
   obtain⟨cs,t,fr,h1,h2⟩:=hφ c fs hf
   exact⟨cs,t,fr,by rw[q3.bel.block c (Array.getElem?_eq_some_iff.1 h1).1];exact h1,h2⟩
  refine⟨v,⟨.nil,0,2^40⟩,Sg.data φ,⟨[v],rfl,⟨rfl,Ut 3 v hv⟩,trivial⟩,q1.sc 3 hv,?_,q3.bel,λ_ _=>rfl⟩
  exact HR.emptyAt w' q3.bel.size hw
def AH.setLow(H:AH)(l:Nat):AH:={H with low:=l}
theorem vD(H:AH)(l b:Nat):(H.setLow l).at b=H.at b:=id rfl
theorem cX(H:AH)(l:Nat):(H.setLow l).next=H.next:=id rfl
theorem sA(H:AH)(l:Nat):(H.setLow l).low=l:=id rfl
theorem m7(H:AH)(l l':Nat):(H.setLow l).setLow l'=H.setLow l':=id rfl
theorem wX(H:AH)(b:Nat):(H.mark b).low=H.low:=AH.mark_low H b
theorem GA.mix1{P:Program}{n:Nat}{hints:cU}{e:Tr AV}{H:AH}{Q:AE->Tr AV->AH->Prop}(hm:P.follows .mixedOrders=true){l:List (Nat×AO)}(h:fS P (H.setLow (2^40)) H.next true l e (H.setLow (2^40)) (λe' H'=>Q .normal e' (H'.setLow (min H.low H'.low)))):GA P n hints (.mix l) e H Q:=
 GA.mix hm H.next (by rw[Nat.sub_self];trivial) h
theorem GA.mixm{P:Program}{n:Nat}{hints:cU}{e:Tr AV}{H:AH}{Q:AE->Tr AV->AH->Prop}(hm:P.follows .mixedOrders=true)(m:Nat){l:List (Nat×AO)}(htop:eC H m (H.next-m))(h:fS P (H.setLow (2^40)) m true l e (H.setLow (2^40)) (λe' H'=>Q .normal e' (H'.setLow (min H.low H'.low)))):GA P n hints (.mix l) e H Q:=
 GA.mix hm m htop h
theorem GA.frkm{P:Program}{n:Nat}{hints:cU}{e:Tr AV}{H:AH}{Q:AE->Tr AV->AH->Prop}(hm:P.follows .mixedOrders=true)(m:Nat){l:List (Nat×AO)}{T:AT}(htop:eC H m (H.next-m))(h:fS P (H.setLow (2^40)) m true l e (H.setLow (2^40)) (λe' H'=>fe P m T e' H' (λe' H'=>Q .normal e' (H'.setLow (min H.low H'.low))))):GA P n hints (.frk l T) e H Q:=
 GA.frk hm m htop h
theorem GA.cut{P:Program}{n:Nat}{hints:cU}{e:Tr AV}{H:AH}{Q:AE->Tr AV->AH->Prop}{x y:AC}(e2:Tr AV)(H2:AH)(h:GA P n hints x e H (jC (λe' H'=>Wk n e' H' e2 H2) (λ_ _ _=>False)))(h':GA P n hints y e2 H2 Q):GA P n hints (.seq x y) e H Q:=
 GA.seq (h.mono λa e' H' hq=>by
  cases a with
  |normal=>exact GA.wk hq h'
  |exit i=>exact hq.elim
  |ret=>exact hq.elim)
theorem ez.lst{r:Nat->Option Nat}{M:List Nat}{H:AH}{b esz ty:Nat}{l:List AV}(hx:H.at b=some (aq esz ty l))(hM:M.contains b=false)(hl:l.length<1000000)(hp:l.all (AV.pu 3)=true):ez r M H b (aq esz ty l):=by
 refine⟨aq esz ty l,hx,rfl,rfl,rfl,rfl,.inl rfl,by rw[if_neg (by simpa using hM)];exact Nat.le_refl _,λi hi=>?_⟩
 have hi':i<l.length:=hi
 rw[jX esz ty l i hl,List.getElem?_eq_getElem hi']
 exact .cv (.rfl (List.all_eq_true.1 hp _ (List.getElem_mem hi')))
theorem ez.keep{r:Nat->Option Nat}{M:List Nat}{H:AH}{b ty esz n z:Nat}{row:Nat->Nat->AV}(hx:H.at b=some (am ty esz n z row))(hM:M.contains b=false)(h0:0<esz)(hc:∀i j,i<n->j<esz->(row i j).pu 3=true):ez r M H b (am ty esz n z row):=
 ez.rows hx rfl rfl rfl (Nat.le_refl _) (by rw[if_neg (by simpa using hM)];exact Nat.le_refl _) h0 (λi j _ hj=>aH i j hj) hc
theorem aD.nil{r:Nat->Option Nat}{M:List Nat}{H:AH}:aD r M H [] []:=trivial
theorem aD.cons{r:Nat->Option Nat}{M:List Nat}{H:AH}{b:Nat}{ρ:List Nat}{x:AB}{bl:List AB}(h1:ρ.contains b=false)(h2:ez r M H b x)(h3:aD r M H ρ bl):aD r M H (b::ρ) (x::bl):=⟨by simpa using h1,h2,h3⟩
def qV(P:Program)(n:Nat)(hints:cU)(cc:AX)(x y:AC)(e:Tr AV)(H:AH)(Q:AE->Tr AV->AH->Prop):Prop:=match cc.ev e with
 |some (.b t)=>(t=true->GA P n hints x e H Q)/\(t=false->GA P n hints y e H Q)
 |_=>False
theorem GA.cond'{P:Program}{n:Nat}{hints:cU}{e:Tr AV}{H:AH}{Q:AE->Tr AV->AH->Prop}{cc:AX}{x y:AC}(h:qV P n hints cc x y e H Q):GA P n hints (.cond cc x y) e H Q:=by
 unfold qV at h
 split at h
 ·rename_i t ht
  exact GA.cond ht h.1 h.2
 ·exact h.elim
theorem Wv.n{r:Nat->Option Nat}{M:List Nat}{H:AH}{k:IntKind}{a b:Int}(h:a=b):Wv r M H (.n k a) (.n k b):=by subst h;exact .cv (.rfl rfl)
theorem Wv.same{r:Nat->Option Nat}{M:List Nat}{H:AH}{v:AV}(h:v.pu 3=true):Wv r M H v v:= .cv (.rfl h)
theorem aa{a b:Prop}(h1:a)(h2:b):a/\b:=⟨h1,h2⟩
theorem af{P:Program}(hm:P.follows .mixedOrders=true){f:FuncId}{hints:cU}{F:AF}(hF:bj P hints f=some F){args:List AV}(hlen:args.length<=F.nt/\F.nt<100000){Q:AV->AH->Prop}
  (h:GA P F.nt hints F.code (au (aZ 0 args)) (ao []) (xH F.res Q)):tg P f args Q:=
 zL hm hF hlen.1 (GA.wk (Wk.arg _ _ _ (by omega)) h)
theorem Uv(x:Bool):ij (pure (.bool x))=some (.b x):=id rfl
theorem Uu(k:IntKind)(x:Int):ij (pure (.int k x))=some (.n k x):=id rfl
theorem UU(a b:Int):(a==b)=decide (a=b):=by rw[Bool.eq_iff_iff];simp
theorem Yb(a b:Int):(a != b)= !decide (a=b):=by rw[bne,UU]
def Yc:AC->Bool
 |.loop _=>false
 |.frk _ _=>false
 |_=>true
attribute [reducible] Yc
def GS(P:Program)(n:Nat)(hints:cU)(ac:AC)(e:Tr AV)(H:AH)(Q:AE->Tr AV->AH->Prop):Prop:=match ac with
 |.skip=>Q .normal e H
 |.exit i=>Q (.exit i) e H
 |.ret=>Q .ret e H
 |.seq x y=>GA P n hints x e H (jC (λe' H'=>GA P n hints y e' H' Q) Q)
 |.cond c x y=>qV P n hints c x y e H Q
 |.block id x=>GA P n hints x e H (px id Q)
 |.reg l=>j8 P l e H (λe' H'=>Q .normal e' H')
 |.mix l=>fS P (H.setLow (2^40)) H.next true l e (H.setLow (2^40)) (λe' H'=>Q .normal e' (H'.setLow (min H.low H'.low)))
 |.loop _=>False
 |.frk _ _=>False
theorem GA.go{P:Program}{n:Nat}{hints:cU}{ac:AC}{e:Tr AV}{H:AH}{Q:AE->Tr AV->AH->Prop}(hm:P.follows .mixedOrders=true)(hg:Yc ac=true)(h:GS P n hints ac e H Q):GA P n hints ac e H Q:=by
 cases ac with
 |skip=>exact GA.skip h
 |exit i=>exact GA.exit h
 |ret=>exact GA.ret h
 |seq x y=>exact GA.seq h
 |cond c x y=>exact GA.cond' h
 |block id x=>exact GA.block h
 |reg l=>exact GA.reg h
 |mix l=>exact GA.mix1 hm h
 |loop x=>cases hg
 |frk l T=>cases hg
section
variable {P:Program} {n:Nat} {hints:cU} {e:Tr AV} {H:AH} {Q:AE->Tr AV->AH->Prop}
theorem GS.skip:GS P n hints .skip e H Q=Q .normal e H:=id rfl
theorem GS.exit(i:Nat):GS P n hints (.exit i) e H Q=Q (.exit i) e H:=id rfl
theorem GS.ret:GS P n hints .ret e H Q=Q .ret e H:=id rfl
theorem GS.seq(x y:AC):GS P n hints (.seq x y) e H Q=GA P n hints x e H (jC (λe' H'=>GA P n hints y e' H' Q) Q):=id rfl
theorem GS.cond(c:AX)(x y:AC):GS P n hints (.cond c x y) e H Q=qV P n hints c x y e H Q:=id rfl
theorem GS.block(id:Nat)(x:AC):GS P n hints (.block id x) e H Q=GA P n hints x e H (px id Q):=_root_.id rfl
theorem GS.reg(l:List AO):GS P n hints (.reg l) e H Q=j8 P l e H (λe' H'=>Q .normal e' H'):=id rfl
theorem GS.mix(l:List (Nat×AO)):GS P n hints (.mix l) e H Q=fS P (H.setLow (2^40)) H.next true l e (H.setLow (2^40)) (λe' H'=>Q .normal e' (H'.setLow (min H.low H'.low))):=id rfl
end
/-! what every step uses-/
attribute [go_sem] GS.skip GS.exit GS.ret GS.seq GS.cond GS.block GS.reg GS.mix Uv Uu UU Yb jC px ww xH qV xp vi xn ve xo vf xm vd beq_false beq_true UX
 UW UV HU w5 xq vj w6 u6 xI jh qF AP.kind vg sM vh u5 eC iy
 AX.ev zd AP.run t6 dC cA xG mM pm iT vx UP Aa UN z8 UL z6 Im x8 UM
 z7 zx vw Il x7 It ye UO z9 Iu yf Iq yc Ir yd Ip x9
 List.cons_append List.nil_append List.append_nil Option.map_some Option.map_none List.all_cons List.all_nil List.length_cons List.length_nil
 Bool.and_true Bool.true_and Bool.and_self H6 H7 H8 H9 Ia H4 Ib HY H5 H3 lY rZ gh
 ub xr uZ xC zf wH tn AH.load AH.loadN pB bW yn dI yr dU yt ba
 qB yo zE zC zD wN IY wh zQ wY zW HL zv if_true if_false ite_true ite_false true_and
 and_true forall_const false_implies implies_true Bool.true_eq_false Bool.false_eq_true Option.some.injEq AV.b.injEq exists_eq_left' exists_eq_left
 decide_eq_true_eq decide_eq_false_iff_not Bool.not_eq_true' Bool.not_eq_false' Option.isSome_some not_true_eq_false not_false_eq_true Int.not_lt
 Int.not_le tu j7 zM zn List.getElem?_cons_zero List.getElem?_cons_succ Option.getD_some Int.toNat_natCast Nat.zero_add Nat.add_zero
 Nat.mul_one Nat.zero_le beq_iff_eq beq_eq_false_iff_ne ne_eq ug wv zo wt uh wu app_size Ai I1 Ag
 yN Ah AH.append dm.len i9 uN uM eF ln dW yp xv zR IC UY IB zS jw
 AH.mark_next AH.mark_low true_or or_true Bool.not_false Bool.not_true Bool.and_false Nat.le_refl Nat.min_self beq_self_eq_true lj maxLen
 Bool.and_eq_true vD cX sA m7 wX s6 s7 false_and and_false mI List.isEmpty_cons
 List.isEmpty_nil List.take_zero List.take_succ_cons List.drop_zero List.drop_succ_cons List.take_nil List.drop_nil uO wM zy
 wK uP wL List.length_append uW wW zB wU uX wV jX eE wT zA wS
 uV fJ dp
/-! arguments that are found-/
theorem bi{P:Prop}(h:P:=by first|trivial|exact Wv.same rfl|exact Wv.p rfl|exact Wv.os rfl|exact Wv.sl rfl|exact Wv.n (by omega)|exact Wv.n (b8 (by omega))|exact Wv.n (by rw[b8 (by omega)];omega)):P:=h
theorem dn{P:Prop}(h:P:=by first|exact True.intro|exact Wv.same rfl|exact Wv.p rfl|exact Wv.os rfl|exact Wv.sl rfl|exact Wv.n (by omega)|exact Wv.n (b8 (by omega))|exact Wv.n (by rw[b8 (by omega)];omega)):P:=h
theorem ez.ls{r:Nat->Option Nat}{M:List Nat}{H:AH}{b esz ty:Nat}{l:List AV}(hx:H.at b=some (aq esz ty l):=by simp only[go_sem,simprocAttr]<;>rfl)(hM:M.contains b=false:=by rfl)(hl:l.length<1000000:=by simp)(hp:l.all (AV.pu 3)=true:=by rfl):ez r M H b (aq esz ty l):= .lst hx hM hl hp
theorem ez.k1{r:Nat->Option Nat}{M:List Nat}{H:AH}{b ty esz n z:Nat}{row:Nat->Nat->AV}(hx:H.at b=some (am ty esz n z row):=by simp only[go_sem,simprocAttr])(hM:M.contains b=false:=by rfl)(h0:0<esz:=by decide)(hc:∀i j,i<n->j<esz->(row i j).pu 3=true:=by intro _ _ _ _;rfl):ez r M H b (am ty esz n z row):= .keep hx hM h0 hc
theorem ez.k5{r:Nat->Option Nat}{M:List Nat}{H:AH}{b ty n z:Nat}{row:Nat->Nat->AV}(hx:H.at b=some (am ty 5 n z row):=by simp only[go_sem,simprocAttr])(hM:M.contains b=false:=by rfl)(hc:∀i j,i<n->j<5->(row i j).pu 3=true:=by intro _ j _ hj;rcases(show j=0\/j=1\/j=2\/j=3\/j=4 by omega) with rfl|rfl|rfl|rfl|rfl<;>rfl):ez r M H b (am ty 5 n z row):= .keep hx hM (by decide) hc
theorem cV{P:Program}{g:FuncId}{a fa:AV}{H:AH}{rs:List RT}{Q:AV->AH->Prop}(h:a7 P g [fa] rs)(hQ:Q (dH (eF (dW H []) rs).1) (eF (dW H []) rs).2)(ha:Cv [] H a fa:=by exact .rfl (by rfl))(hnx:H.next+9<2^40:=by simp only[go_sem,simprocAttr]):k9 P g [a] H Q:=ai [] (.cons ha .nil) h hnx hQ
theorem fm{P:Program}{g:FuncId}{a b fa fb:AV}{H:AH}{rs:List RT}{Q:AV->AH->Prop}(h:a7 P g [fa,fb] rs)(hQ:Q (dH (eF (dW H []) rs).1) (eF (dW H []) rs).2)(ha:Cv [] H a fa:=by exact .rfl (by rfl))(hb:Cv [] H b fb:=by exact .rfl (by rfl))(hnx:H.next+9<2^40:=by simp only[go_sem,simprocAttr]):k9 P g [a,b] H Q:=ai [] (.cons ha (.cons hb .nil)) h hnx hQ
theorem pO{P:Program}{g:FuncId}{a b c d k:AV}{H:AH}{rs:List RT}{Q:AV->AH->Prop}(h:a7 P g [a,b,c,d,k] rs)(hQ:Q (dH (eF (dW H []) rs).1) (eF (dW H []) rs).2)(ha:a.pu 3=true:=by rfl)(hb:b.pu 3=true:=by rfl)(hc:c.pu 3=true:=by rfl)(hd:d.pu 3=true:=by rfl)(hk:k.pu 3=true:=by rfl)(hnx:H.next+9<2^40:=by simp only[go_sem,simprocAttr]):k9 P g [a,b,c,d,k] H Q:=ai [] (.cons (.rfl ha) (.cons (.rfl hb) (.cons (.rfl hc) (.cons (.rfl hd) (.cons (.rfl hk) .nil))))) h hnx hQ
theorem ez.k2{r:Nat->Option Nat}{M:List Nat}{H:AH}{b ty esz n z:Nat}{row:Nat->Nat->AV}(hc:∀i j,i<n->j<esz->(row i j).pu 3=true)(hx:H.at b=some (am ty esz n z row):=by simp only[go_sem,simprocAttr])(hM:M.contains b=false:=by rfl)(h0:0<esz:=by decide):ez r M H b (am ty esz n z row):= .keep hx hM h0 hc
theorem ez.r0{r:Nat->Option Nat}{M:List Nat}{H:AH}{b ty esz n z:Nat}{row:Nat->Nat->AV}{x:AB}(hx:H.at b=some x:=by simp only[go_sem,simprocAttr];rfl)(h1:x.ty=ty:=by rfl)(h2:x.esz=esz:=by rfl)(h3:x.opn=true:=by rfl)(h4:n*esz<=x.size:=by simp)(h5:(if b ∈ M then max x.size x.fzn else x.fzn)<=z:=by decide)(h0:0<esz:=by decide)(hr:∀i j,i<n->j<esz->x.get (i*esz+j)=row i j:=by intro i j h;simp at h)(hc:∀i j,i<n->j<esz->(row i j).pu 3=true:=by intro i j h;simp at h):ez r M H b (am ty esz n z row):= .rows hx h1 h2 h3 h4 h5 h0 hr hc
theorem ez.r1{r:Nat->Option Nat}{M:List Nat}{H:AH}{b ty esz n z:Nat}{row:Nat->Nat->AV}{x:AB}(hx:H.at b=some x:=by simp only[go_sem,simprocAttr];rfl)(h1:x.ty=ty:=by rfl)(h2:x.esz=esz:=by rfl)(h3:x.opn=true:=by rfl)(h4:n*esz<=x.size:=by decide)(h5:(if b ∈ M then max x.size x.fzn else x.fzn)<=z:=by decide)(h0:0<esz:=by decide)(hr:∀i j,i<n->j<esz->x.get (i*esz+j)=row i j:=by intro i j h;simp at h)(hc:∀i j,i<n->j<esz->(row i j).pu 3=true:=by intro i j h;simp at h):ez r M H b (am ty esz n z row):= .rows hx h1 h2 h3 h4 h5 h0 hr hc
end Go.Proofs.YtidhfimbnjaceaaGreat
namespace Go.Proofs.YtidhfimbnjaceaaGreat
open Go.RowKit
theorem HR.after{w w':World}{φ:Fz}(hφ:xe φ w)(h:Below w.heap.size w w'):HR w.heap.size (Sg.data φ) ⟨.nil,0,2^40⟩ w':=by
 have e:=HR.empty w hφ
 exact⟨e.new,e.newl,e.old,e.small,h.size,e.nil,e.nilp,λb x c o hx hs=>(by cases hs),e.szs,λb b' x x' c o o' _ _ hs _=>(by cases hs),λc fs hf=>by
  obtain⟨cs,t,fr,h1,h2⟩:=hφ c fs hf
  have hc:c<w.heap.size:=(Array.getElem?_eq_some_iff.1 h1).1
  exact⟨cs,t,fr,by rw[h.block c hc];exact h1,h2,λb x o _ hs=>(by cases hs)⟩⟩
theorem HJ{σ:Sg}{k:IntKind}{x:Int}{v:Value}(h:VR σ (.n k x) v):v= .int k x:=by cases h;rfl
theorem xj{P:Program}{f:FuncId}(hf:zT P f){k1 k2 k3 j1 j2:IntKind}{a b c x y:Int}
  (h:∀w,Calls P f #[.int k1 a,.int k2 b,.int k3 c] w λe w'=>e= .returned (.tuple #[.int j1 x,.int j2 y])/\Below w.heap.size w w'):
  a7 P f [.n k1 a,.n k2 b,.n k3 c] [.v (.n j1 x),.v (.n j2 y)]:=by
 refine⟨hf,λφ w args' hφ ha=>?_⟩
 have hargs:args'= #[.int k1 a,.int k2 b,.int k3 c]:=by
  apply Array.toList_inj.1
  have hn:args'.toList.length=3:=ha.1.symm
  match hl:args'.toList,hn with
  |[v1,v2,v3],_=>
   rw[hl] at ha
   have e1:=HJ (ha.2 0 _ rfl)
   have e2:=HJ (ha.2 1 _ rfl)
   have e3:=HJ (ha.2 2 _ rfl)
   simp only[List.getD_cons_zero,List.getD_cons_succ] at e1 e2 e3
   rw[e1,e2,e3]
 rw[hargs]
 refine(h w).mono λe w' hq=>?_
 obtain⟨rfl,hbel⟩:=hq
 exact⟨.tup [.n j1 x,.n j2 y],⟨.nil,0,2^40⟩,Sg.data φ,⟨[.n j1 x,.n j2 y],rfl,⟨rfl,rfl⟩,⟨rfl,rfl⟩,trivial⟩,cr.tup (cs:=[.int j1 x,.int j2 y]) (.cons (.n _ _) (.cons (.n _ _) .nil)),HR.after hφ hbel,hbel,λc _=>rfl⟩
def iE(md:Region.Mode)(ops:Array Oper)(fl pu:List Nat):List (Nat×Nat)->Array Bool->Bool
 |[],listed=>(Region.ready md ops listed).isEmpty
 |(0,j)::rest,listed=>decide (Region.ready md ops listed=[j])&&(rest.all (·.1 != 1)|| !oG md ops fl j)&&iE md ops fl pu rest (listed.setIfInBounds j true)
 |(1,i)::rest,listed=>(Region.ready md ops listed).contains i&&Region.free md ops listed i&&fl.contains i&&iE md ops fl pu rest (listed.setIfInBounds i true)
 |(_+2,i)::rest,listed=>(Region.ready md ops listed).contains i&&Region.free md ops listed i&&pu.contains i&&iE md ops fl pu rest (listed.setIfInBounds i true)
theorem i5(md:Region.Mode)(ops:Array Oper)(fl pu:List Nat):∀(l:List (Nat×Nat)) (listed:Array Bool),iE md ops fl pu l listed=gi md ops fl pu l listed
 |[],_=>rfl
 |(0,j)::rest,listed=>by
  unfold iE gi
  rw[i5 md ops fl pu rest,Bool.or_comm]
 |(1,j)::rest,listed=>by
  unfold iE gi
  rw[i5 md ops fl pu rest]
 |(_+2,j)::rest,listed=>by
  unfold iE gi
  rw[i5 md ops fl pu rest]
def tE(md:Region.Mode)(ops:Array Oper)(fl pu:List Nat)(l:List (Nat×Nat)):Bool:=
 Region.noSelect ops&&decide (l.length=ops.size)&&l.all (λi=>decide (i.2<ops.size))&&iE md ops fl pu l (Array.replicate ops.size false)
theorem wR(md:Region.Mode)(ops:Array Oper)(fl pu:List Nat)(l:List (Nat×Nat)):tE md ops fl pu l=qA md ops fl pu l:=by
 unfold tE qA
 rw[i5]
def gD(P:Program)(n:Nat)(hints:cU):Code->Option AC
 |.skip=>some .skip
 |.region id ops dr=>if dr=true then match hints id with
   |some (fl,pu,pl,none)=>if tE .any ops fl pu (pl.map fv)=true then(dV P n ops fl pl).map .mix else none
   |some (fl,pu,pl,some T)=>if qM .any ops fl pu pl T=true/\pl.all (λp=>p.1==1||p.1==2)=true then(dV P n ops fl pl).bind λl=>(re P n ops T).map λt=> .frk l t else none
   |none=>none
  else(jl P n ops ops.toList).map .reg
 |.seq a b=>(gD P n hints a).bind λx=>(gD P n hints b).map λy=> .seq x y
 |.cond c a b=>(bv c).bind λc=>(gD P n hints a).bind λx=>(gD P n hints b).map λy=> .cond c x y
 |.block id b=>(gD P n hints b).map (.block id ·)
 |.loop b=>(gD P n hints b).map .loop
 |.exit id=>some (.exit id)
 |.ret=>some .ret
 |_=>none
theorem yS(P:Program)(n:Nat)(hints:cU)(c:Code):gD P n hints c=cT P n hints c:=by
 induction c with
 |region id ops dr=>
  unfold gD cT
  simp only[wR]
  congr 1
 |seq a b iha ihb=>unfold gD cT;rw[iha,ihb]
 |cond c a b iha ihb=>unfold gD cT;rw[iha,ihb]
 |block id b ih=>unfold gD cT;rw[ih]
 |loop b ih=>unfold gD cT;rw[ih]
 |_=>rfl
def A1(P:Program)(hints:cU)(f:FuncId):Option AF:=(P.funcs[f]?).bind λfn=>fn.body.bind λc=>(gD P fn.ntmps hints c).bind λac=>(jK P fn.results.toList).bind λr=>
 if(fn.name== "runtime.NumGoroutine")=false/\fn.ntmps<2^40 then some ⟨fn.ntmps,ac,r⟩ else none
theorem yR(P:Program)(hints:cU)(f:FuncId):A1 P hints f=bj P hints f:=by
 unfold A1 bj
 simp only[yS]
def vC(P:Program)(ops:Array Oper):List Nat×List Nat×List (Nat×Nat):=
 let pl:=mR P ops ops.size (Array.replicate ops.size false) []
 ((pl.filter (·.1==1)).map (·.2),(pl.filter (·.1==2)).map (·.2),pl)
def yP(P:Program)(ops:Array Oper):List Nat×List Nat×List (Nat×Nat)×Option PT:=
 let(fl,pu,pl):=vC P ops
 if tE .any ops fl pu (pl.map fv) then(fl,pu,pl,none) else qL P ops
def xh(P:Program)(f:FuncId):cU:=λid=>match(P.funcs[f]?).bind (·.body) with
 |some c=>((dT c).find? (·.1==id)).map λx=>yP P x.2
 |none=>none
def dl(a:AK)(e:Tr AV)(H:AH):Option (AV×AH):=match a with
 |.ap x=>x.run e H
 |_=>none
theorem aM(x:AP)(e:Tr AV)(H:AH):dl (.ap x) e H=x.run e H:=id rfl
def U1(H0:AH)(m:Nat)(e0:Tr AV):AK->Prop
 |.ap (.ld _ _ x)=>match x.ev e0 with
  |some (.p b _)=>b<m/\(H0.at b).isSome=true
  |some (.fp _ _ _)=>True
  |_=>False
 |_=>False
theorem bt(H0:AH)(m:Nat)(e0:Tr AV)(n:Nat)(row:Bool)(x:AX):U1 H0 m e0 (.ap (.ld n row x))=match x.ev e0 with
  |some (.p b _)=>b<m/\(H0.at b).isSome=true
  |some (.fp _ _ _)=>True
  |_=>False:=id rfl
def cH(P:Program)(H0:AH)(m:Nat):List (Nat×AO)->Tr AV->Tr AV->AH->(Tr AV->AH->Prop)->Prop
 |[],_,e,H,Q=>Q e H
 |(k,o)::l,e0,e,H,Q=>match dC e o.gd with
  |some true=>
   if k=1 then U1 H0 m e0 o.k/\(match dl o.k e0 H0 with
     |some (v,_)=>cH P H0 m l (bu e0 o.dst v) (bu e o.dst v) H Q
     |none=>False)
   else if k=2 then jh o.k=true/\(match dl o.k e0 H0 with
     |some (.u,_)|none=>(match dl o.k e H with
      |some (v,_)=>cH P H0 m l (bu e0 o.dst .u) (bu e o.dst v) H Q
      |none=>False)
     |some (v,_)=>cH P H0 m l (bu e0 o.dst v) (bu e o.dst v) H Q)
   else gK P e H o.k (λv H'=>m<=H'.low/\cH P H0 m l (bu e0 o.dst .u) (bu e o.dst v) H' Q)
  |some false=>m<=H.low/\cH P H0 m l (bu e0 o.dst (.tup [])) (bu e o.dst (.tup [])) H Q
  |none=>False
def Vi(P:Program)(H0:AH)(m:Nat)(l:List (Nat×AO))(d:Option Nat)(e0 e:Tr AV)(H:AH)(Q:Tr AV->AH->Prop):Option (AV×AH)->Prop
 |some (v,_)=>cH P H0 m l (bu e0 d v) (bu e d v) H Q
 |none=>False
def AL(P:Program)(H0:AH)(m:Nat)(l:List (Nat×AO))(d:Option Nat)(e0 e:Tr AV)(H:AH)(Q:Tr AV->AH->Prop):Option (AV×AH)->Prop
 |some (v,_)=>cH P H0 m l (bu e0 d .u) (bu e d v) H Q
 |none=>False
def rK(P:Program)(H0:AH)(m:Nat)(l:List (Nat×AO))(d:Option Nat)(a:AK)(e0 e:Tr AV)(H:AH)(Q:Tr AV->AH->Prop):Option (AV×AH)->Prop
 |some (.u,_)|none=>AL P H0 m l d e0 e H Q (dl a e H)
 |some (v,_)=>cH P H0 m l (bu e0 d v) (bu e d v) H Q
def w7(P:Program)(H0:AH)(m:Nat)(l:List (Nat×AO))(d:Option Nat)(e0 e:Tr AV)(Q:Tr AV->AH->Prop)(v:AV)(H:AH):Prop:=m<=H.low/\cH P H0 m l (bu e0 d .u) (bu e d v) H Q
def Vj(P:Program)(H0:AH)(m:Nat)(k:Nat)(d:Option Nat)(a:AK)(l:List (Nat×AO))(e0 e:Tr AV)(H:AH)(Q:Tr AV->AH->Prop):Option Bool->Prop
 |some true=>if k=1 then U1 H0 m e0 a/\Vi P H0 m l d e0 e H Q (dl a e0 H0) else if k=2 then jh a=true/\rK P H0 m l d a e0 e H Q (dl a e0 H0) else gK P e H a (w7 P H0 m l d e0 e Q)
 |some false=>m<=H.low/\cH P H0 m l (bu e0 d (.tup [])) (bu e d (.tup [])) H Q
 |none=>False
section
variable (P:Program) (H0:AH) (m:Nat) (l:List (Nat×AO)) (d:Option Nat) (a:AK) (e0 e:Tr AV) (H H1:AH) (Q:Tr AV->AH->Prop)
theorem ax:cH P H0 m [] e0 e H Q=Q e H:=id rfl
theorem bA(k:Nat)(g:Option (Nat×Bool)):cH P H0 m ((k,⟨d,g,a⟩)::l) e0 e H Q=Vj P H0 m k d a l e0 e H Q (dC e g):=by
 rw[cH]
 simp only
 cases dC e g with
 |none=>rfl
 |some t=>
  cases t
  ·rfl
  ·simp only[Vj]
   have hl:(match dl a e0 H0 with
     |some (v,_)=>cH P H0 m l (bu e0 d v) (bu e d v) H Q
     |none=>False)=Vi P H0 m l d e0 e H Q (dl a e0 H0):=by
    cases dl a e0 H0<;>rfl
   have hp:(match dl a e0 H0 with
     |some (.u,_)|none=>(match dl a e H with
      |some (v,_)=>cH P H0 m l (bu e0 d .u) (bu e d v) H Q
      |none=>False)
     |some (v,_)=>cH P H0 m l (bu e0 d v) (bu e d v) H Q)=rK P H0 m l d a e0 e H Q (dl a e0 H0):=by
    cases dl a e0 H0 with
    |none=>first|rfl|(simp only[rK,AL];done)|(simp only[rK,AL];cases dl a e H<;>rfl)
    |some r=>
     obtain⟨v,H1⟩:=r
     cases v<;>first|rfl|(simp only[rK,AL];done)|(simp only[rK,AL];cases dl a e H<;>rfl)
   first
    |(rw[<-hl,<-hp];rfl)
    |(simp only[<-hl,<-hp])
theorem aL(k:Nat):Vj P H0 m k d a l e0 e H Q (some true)=if k=1 then U1 H0 m e0 a/\Vi P H0 m l d e0 e H Q (dl a e0 H0) else if k=2 then jh a=true/\rK P H0 m l d a e0 e H Q (dl a e0 H0) else gK P e H a (w7 P H0 m l d e0 e Q):=id rfl
theorem aw(k:Nat):Vj P H0 m k d a l e0 e H Q (some false)=(m<=H.low/\cH P H0 m l (bu e0 d (.tup [])) (bu e d (.tup [])) H Q):=id rfl
theorem av(v:AV):w7 P H0 m l d e0 e Q v H=(m<=H.low/\cH P H0 m l (bu e0 d .u) (bu e d v) H Q):=id rfl
theorem aK(v:AV):Vi P H0 m l d e0 e H Q (some (v,H1))=cH P H0 m l (bu e0 d v) (bu e d v) H Q:=id rfl
theorem aJ(v:AV):AL P H0 m l d e0 e H Q (some (v,H1))=cH P H0 m l (bu e0 d .u) (bu e d v) H Q:=id rfl
theorem aI:rK P H0 m l d a e0 e H Q none=AL P H0 m l d e0 e H Q (dl a e H):=id rfl
theorem bN:rK P H0 m l d a e0 e H Q (some (.u,H1))=AL P H0 m l d e0 e H Q (dl a e H):=id rfl
theorem bP(k:IntKind)(x:Int):rK P H0 m l d a e0 e H Q (some (.n k x,H1))=cH P H0 m l (bu e0 d (.n k x)) (bu e d (.n k x)) H Q:=id rfl
theorem bQ(x:Bool):rK P H0 m l d a e0 e H Q (some (.b x,H1))=cH P H0 m l (bu e0 d (.b x)) (bu e d (.b x)) H Q:=id rfl
theorem bO(b o:Nat):rK P H0 m l d a e0 e H Q (some (.p b o,H1))=cH P H0 m l (bu e0 d (.p b o)) (bu e d (.p b o)) H Q:=id rfl
theorem br(z:Nat)(r:Nat->AV)(j:Nat):rK P H0 m l d a e0 e H Q (some (.fp z r j,H1))=cH P H0 m l (bu e0 d (.fp z r j)) (bu e d (.fp z r j)) H Q:=id rfl
theorem bq(z n:Nat)(r:Nat->Nat->AV):rK P H0 m l d a e0 e H Q (some (.fs z n r,H1))=cH P H0 m l (bu e0 d (.fs z n r)) (bu e d (.fs z n r)) H Q:=id rfl
theorem aW(x:List AV):rK P H0 m l d a e0 e H Q (some (.tup x,H1))=cH P H0 m l (bu e0 d (.tup x)) (bu e d (.tup x)) H Q:=id rfl
theorem aX(x:List AV):rK P H0 m l d a e0 e H Q (some (.agg x,H1))=cH P H0 m l (bu e0 d (.agg x)) (bu e d (.agg x)) H Q:=id rfl
end
section
variable {P:Program} {B n m:Nat} {σ0:Sg} {H0:AH} {w0:World} {ops:Array Oper} {fl:List Nat} {Q:Exit->Act->World->Prop}
theorem gw(h0:HR B σ0 H0 w0)(htop:eC H0 m (H0.next-m))(hp:∀c a w,¬Q (.panic c) a w):∀(pl:List (Nat×Nat)) (l':List (Nat×AO)) {σ:Sg} {e0 e:Tr AV} {H:AH} {a:Act} {w:World} {Q':Tr AV->AH->Prop},dV P n ops fl pl=some l'->pl.all (·.1 != 3)=true->cH P H0 m l' e0 e H Q'->EN n σ0 e0 a->EN n σ e a->HR B σ H w->
  Fr B σ0 σ H0 H w0 w->dB m σ0 H0 w0 w->lB B σ0 σ->
  (∀e' H' a' w' σ',Q' e' H'->EN n σ' e' a'->HR B σ' H' w'->Fr B σ0 σ' H0 H' w0 w'->lB B σ0 σ'->Q .normal a' w')->a9 P .any ops Q (dB m σ0 H0 w0) fl (az ops (pl.map fv)) a w
 |[],l',σ,e0,e,H,a,w,Q',hl,h3',hr,hE0,hE,h,hF,hG,hzb,hQ=>by
  simp only[dV,Option.some.injEq] at hl
  subst hl
  show a9 P .any ops Q (dB m σ0 H0 w0) fl [] a w
  exact jp (hQ e H a w σ hr hE h hF hzb)
 |(k,j)::pl,l',σ,e0,e,H,a,w,Q',hl,h3',hr,hE0,hE,h,hF,hG,hzb,hQ=>by
  simp only[List.all_cons,Bool.and_eq_true] at h3'
  obtain⟨hk30,h3'⟩:=h3'
  simp only[dV] at hl
  split at hl
  rotate_left
  ·cases hl
  rename_i o ho
  obtain⟨x,hx,hl⟩:=Option.bind_eq_some_iff.1 hl
  split at hl
  rotate_left
  ·cases hl
  rename_i hk3
  obtain⟨hk3,_⟩:=hk3
  have hk2':k<=2:=by
   have:k≠3:=by simpa using hk30
   omega
  obtain⟨r,hl2,rfl⟩:=Option.map_eq_some_iff.1 hl
  unfold pE at hx
  split at hx
  rotate_left
  ·cases hx
  rename_i hd
  obtain⟨g,hg,hx⟩:=Option.bind_eq_some_iff.1 hx
  obtain⟨ak,hk,rfl⟩:=Option.map_eq_some_iff.1 hx
  have hunk:fv (k,j)=(k,j):=by
   have:k=0\/k=1\/k=2:=by omega
   rcases this with rfl|rfl|rfl<;>rfl
  have hgp:az ops (((k,j)::pl).map fv)=(k,j,o)::az ops (pl.map fv):=by
   rw[List.map_cons,hunk]
   simp[az,ho]
  rw[hgp]
  rw[cH] at hr
  simp only at hr
  split at hr
  ·
   rename_i hw
   have hwant:=ed hE.er hg hw
   split at hr
   ·rename_i hk1
    subst hk1
    obtain⟨hearly,hr⟩:=hr
    cases ak with
    |cl f args=>exact hearly.elim
    |sn neg x=>exact hearly.elim
    |ap ap0=>
     cases ap0<;>try exact hearly.elim
     rename_i nn row xx
     simp only[dl] at hr
     split at hr
     rotate_left
     ·exact hr.elim
     rename_i v H1 hrun
     obtain⟨q1,_,_,_,c,u,q2,q34,q5,q6⟩:=ta (mV hk) rfl hE0.er h0 hrun
     cases q2
     have htop':=eC.get _ _ htop
     have hclt:c<w0.heap.size/\∀b o,m<=b->b<H0.next->σ0 b≠some (c,o):=by
      rcases q34 with⟨b,off,oc,q3,q4⟩|⟨_,_,_,fs,q3,q4,q40⟩
      ·simp only[U1,q3] at hearly
       obtain⟨hbm,hearly⟩:=hearly
       obtain⟨xb,hxb⟩:=Option.isSome_iff_exists.1 hearly
       obtain⟨cs0,p2,p3,p4⟩:=h0.blk b xb c oc hxb q4
       refine⟨(Array.getElem?_eq_some_iff.1 p3).1,λb' o' h1 h2 h3=>?_⟩
       obtain⟨x',hx',_⟩:=htop' b' h1 (by omega)
       have:=h0.inj b b' xb x' c oc o' hxb hx' q4 h3
       omega
      ·refine⟨h0.fzlt q4,λb' o' h1 h2 h3=>?_⟩
       obtain⟨x',hx',hx0⟩:=htop' b' h1 (by omega)
       obtain⟨cs',t',fr',_,_,m3⟩:=h0.frz c fs q4
       have:=m3 b' x' o' hx' h3
       omega
     have hcell:∀{w':World},dB m σ0 H0 w0 w'->∀i,w'.cell? ⟨c,i,none⟩=w0.cell? ⟨c,i,none⟩:=λhw' i=>by
      have:=hw' c hclt.1 hclt.2
      simp only[World.cell?,this]
     unfold a9
     rw[if_pos hwant]
     refine⟨u,λw' hw'=>q6 w' (λi=>hcell hw' i),?_⟩
     exact gw h0 htop hp pl r hl2 h3' hr (hE0.put q5 hd) (hE.put (q5.mono hF.ext) hd) h hF hG hzb hQ
   ·split at hr
    ·
     rename_i hk1 hk2
     subst hk2
     obtain⟨hpure,hr⟩:=hr
     cases ak with
     |cl f args=>cases hpure
     |sn neg x=>cases hpure
     |ap xx=>
      have hkind:xx.kind=2:=by simpa [jh] using hpure
      have now:(match dl (.ap xx) e H with
       |some (v,_)=>cH P H0 m r (bu e0 o.dst .u) (bu e o.dst v) H Q'
       |none=>False)->a9 P .any ops Q (dB m σ0 H0 w0) fl ((2,j,o)::az ops (pl.map fv)) a w:=by
       intro hr
       simp only[dl] at hr
       split at hr
       rotate_left
       ·exact hr.elim
       rename_i v H1 hrun
       obtain⟨q1,u,q2,q3⟩:=pC (mV hk) hkind hE.er h hrun
       subst q1
       unfold a9
       rw[if_pos hwant]
       exact⟨u,q3,gw h0 htop hp pl r hl2 h3' hr (hE0.put (.u u) hd) (hE.put q2 hd) h hF hG hzb hQ⟩
      split at hr
      ·exact now hr
      ·exact now hr
      ·rename_i v H1 hne hrun
       simp only[dl] at hrun
       obtain⟨q1,u,q2,q3⟩:=pC (mV hk) hkind hE0.er h0 hrun
       unfold a9
       rw[if_pos hwant]
       exact⟨u,q3,gw h0 htop hp pl r hl2 h3' hr (hE0.put q2 hd) (hE.put (q2.mono hF.ext) hd) h hF hG hzb hQ⟩
    ·rename_i hk1 hk2
     have hk0:k=0:=by omega
     subst hk0
     refine im (eB hwant ?_)
     refine qJ hk hE.er h hr λv H1 u w1 σ1 q0 q1 q2 q3 q5 q4=>?_
     have hF1:=hF.trans q3 h
     have hg1:=dB.of_fr hF1 q0.1
     exact⟨hg1,gw h0 htop hp pl r hl2 h3' q0.2 (hE0.put (.u u) hd) ((hE.mono q3.ext).put q1 hd) q2 hF1 hg1 (hzb.trans q5) hQ⟩
  ·rename_i hw
   obtain⟨hlow,hr⟩:=hr
   have hwant:=ed hE.er hg hw
   have hput:=hE.put (u:=undef) (v:= .tup []) (.tup rfl (λi v h=>by simp at h)) hd
   have hput0:=hE0.put (u:=undef) (v:= .tup []) (.tup rfl (λi v h=>by simp at h)) hd
   have next:=gw h0 htop hp pl r hl2 h3' hr hput0 hput h hF hG hzb hQ
   have:k=0\/k=1\/k=2:=by omega
   rcases this with rfl|rfl|rfl
   ·have hskip:∀R:Exit->Act->World->Prop,R .normal (a.put o.dst undef) w->wpList P ops R [o] a w:=λR hR=>by
     unfold wpList
     rw[hwant,if_neg (by simp)]
     exact hR
    unfold a9
    split
    ·exact hskip _ next
    ·exact hskip _ ⟨dB.of_fr hF hlow,next⟩
   ·unfold a9
    rw[hwant,if_neg (by simp)]
    exact next
   ·unfold a9
    rw[hwant,if_neg (by simp)]
    exact next
  ·exact hr.elim
end
section
variable {P:Program} {n:Nat} {hints:cU} {e:Tr AV} {H:AH} {Q:AE->Tr AV->AH->Prop}
theorem kQ{P:Program}{n:Nat}{ops:Array Oper}{fl:List Nat}:∀{pl:List (Nat×Nat)} {l:List (Nat×AO)},dV P n ops fl pl=some l->pl.all (·.1 != 3)=l.all (·.1 != 3)
 |[],l,h=>by simp only[dV,Option.some.injEq] at h;subst h;rfl
 |(k,j)::pl,l,h=>by
  simp only[dV] at h
  split at h
  rotate_left
  ·cases h
  obtain⟨x,hx,h⟩:=Option.bind_eq_some_iff.1 h
  split at h
  rotate_left
  ·cases h
  obtain⟨r,h2,rfl⟩:=Option.map_eq_some_iff.1 h
  simp only[List.all_cons,kQ h2]
theorem GA.mixv(hm:P.follows .mixedOrders=true){l:List (Nat×AO)}(hk:l.all (·.1 != 3)=true)(h:cH P (H.setLow (2^40)) H.next l e e (H.setLow (2^40)) (λe' H'=>Q .normal e' (H'.setLow (min H.low H'.low)))):GA P n hints (.mix l) e H Q:=λc hc B σ a w R hE hH hp hR=>by
 obtain⟨id,ops,fl,pu,pl,rfl,hB,hl⟩:=dt hc
 have hops:ops=ops.toList.toArray:=by simp
 rw[hops]
 rw[hops] at hB
 have hd:HR B σ (H.setLow (2^40)) w.drew:=⟨hH.new,hH.newl,hH.old,hH.small,hH.hB,hH.nil,hH.nilp,hH.blk,hH.szs,hH.inj,hH.frz⟩
 refine f8 (dB H.next σ (H.setLow (2^40)) w.drew) fl pu (pl.map fv) hm hB (λc a d v w hq=>(hp _ _ _ hq).elim) (dB.refl _ _ _ _) ?_
 rw[<-hops]
 refine gw hd (by rw[show(H.setLow (2^40)).next=H.next from rfl,Nat.sub_self];exact True.intro) hp pl l hl (by rw[kQ hl];exact hk) h hE hE hd (Fr.refl hd) (dB.refl _ _ _ _) (.refl _ _) (λe' H' a' w' σ' q q1 q2 q3 q4=>?_)
 exact hR .normal e' _ a' w' σ' q q1 (q2.relow _) ((Below.refl _ _).drew.trans q3.bel) q4
end
end Go.Proofs.YtidhfimbnjaceaaGreat
namespace Go.Proofs.YtidhfimbnjaceaaGreat
open Go.RowKit
theorem HR.recell{B:Nat}{σ:Sg}{H:AH}{w:World}{b:Nat}{x x':AB}(h:HR B σ H w)(hx:H.at b=some x)(hb:b<1000000)(hsz:x'.size=x.size)(hty:x'.ty=x.ty)(hesz:x'.esz=x.esz)(hop:x'.opn=x.opn)(hlv:x'.live=true)(hfz:x'.fzn=x.fzn)
  (hc:∀i u,i<x.size->VR σ (x.get i) u->VR σ (x'.get i) u):HR B σ (H.upd b x') w:=by
 have look:∀b2 y,(H.upd b x').at b2=some y->(b2=b/\y=x')\/(b2≠b/\H.at b2=some y):=by
  intro b2 y hy
  rw[yn hb] at hy
  by_cases e:b2=b
  ·rw[if_pos e,if_pos hlv] at hy;cases hy;exact .inl ⟨e,rfl⟩
  ·rw[if_neg e] at hy;exact .inr ⟨e,hy⟩
 refine⟨h.new,h.newl,λb2 hb2=>?_,h.small,h.hB,λb2 y hy hn=>?_,h.nilp,λb2 y c o hy hs=>?_,λb2 y hy=>?_,λb2 b3 y y' c o o' k1 k2 k3 k4=>?_,λc fs hf=>?_⟩
 ·cases hy:(H.upd b x').at b2 with
  |none=>rfl
  |some y=>
   rcases look b2 y hy with⟨rfl,_⟩|⟨_,h1⟩
   ·have:=h.old b2 hb2;rw[hx] at this;cases this
   ·have:=h.old b2 hb2;rw[h1] at this;cases this
 ·rcases look b2 y hy with⟨rfl,rfl⟩|⟨_,h1⟩
  ·have:=h.nil b2 x hx hn
   exact⟨by rw[hsz];exact this.1,by rw[hop];exact this.2.1,this.2.2⟩
  ·exact h.nil b2 y h1 hn
 ·rcases look b2 y hy with⟨rfl,rfl⟩|⟨_,h1⟩
  ·obtain⟨cs,g1,g2,g3⟩:=h.blk b2 x c o hx hs
   exact⟨cs,g1,by rw[hty];exact g2,by rw[hsz];exact g3.sz,λe=>by rw[hsz];exact g3.ex e,λk hk=>by rw[hesz];exact g3.op k hk,by rw[hop];exact g3.ob,λi hi=>hc i _ (by rw[<-hsz];exact hi) (g3.cell i (by rw[<-hsz];exact hi))⟩
  ·exact h.blk b2 y c o h1 hs
 ·rcases look b2 y hy with⟨rfl,rfl⟩|⟨_,h1⟩
  ·rw[hsz];exact h.szs b2 x hx
  ·exact h.szs b2 y h1
 ·have f:∀b2 y,(H.upd b x').at b2=some y->∃z,H.at b2=some z:=λb2 y hy=>by
   rcases look b2 y hy with⟨rfl,rfl⟩|⟨_,h1⟩
   ·exact⟨x,hx⟩
   ·exact⟨y,h1⟩
  obtain⟨z1,hz1⟩:=f b2 y k1
  obtain⟨z2,hz2⟩:=f b3 y' k2
  exact h.inj b2 b3 z1 z2 c o o' hz1 hz2 k3 k4
 ·obtain⟨cs,t,fr,g1,g2,g3⟩:=h.frz c fs hf
  refine⟨cs,t,fr,g1,g2,λb2 y o hy hs=>?_⟩
  rcases look b2 y hy with⟨rfl,rfl⟩|⟨_,h1⟩
  ·rw[hfz];exact g3 b2 x o hx hs
  ·exact g3 b2 y o h1 hs
theorem Wk.nilb{n:Nat}{e:Tr AV}{H:AH}(b i esz ty:Nat){x:AB}(hx:H.at b=some x)(hg:x.get i= .sl0)(hi:i<1000000)(hb:b<1000000)(hbn:b<H.next)(hlv:x.live=true)(hn:H.next<1000000):
  Wk n e H e ((H.new (lh esz ty)).upd b (x.set i (.os H.next 0))):=by
 intro B σ a w hE hH
 have hle:=σ.le_extNil H.next
 have h1:=hH.placeNil (x:=lh esz ty) (H1:=H) rfl (λ_ _ h=>h) (by omega) rfl rfl rfl
 refine⟨σ.extNil H.next,⟨⟨hE.er.df,λt' v hv=>(hE.er.get t' v hv).mono hle⟩,hE.sz,hE.sm⟩,?_,λ_ _=>rfl⟩
 have hx1:(H.new (lh esz ty)).at b=some x:=by rw[pB hn,if_neg (by omega)];exact hx
 refine h1.recell hx1 hb rfl rfl rfl rfl hlv rfl (λj u hj hu=>?_)
 rw[tu hi]
 by_cases e:j=i
 ·rw[if_pos e]
  rw[e,hg] at hu
  cases hu
  exact .os0 (σ:=σ.extNil H.next) (Or.inl rfl) _
 ·rw[if_neg e];exact hu
end Go.Proofs.YtidhfimbnjaceaaGreat