/- A part of the proof of CostMemory: EvS Tab EvMh EvZ. No condition. -/
import Derived.Test.YthehakngpbjgjaaGreatGc14
set_option linter.unusedSimpArgs false
set_option linter.unusedVariables false
set_option linter.constructorNameAsVariable false
set_option maxRecDepth 100000
set_option maxHeartbeats 4000000
namespace Go.Proofs.YthehakngpbjgjaaGreat
open Go.RowKit
/-! what follows an operation,closed till its value is there-/
def qd(P:Program)(l:List AO)(e:Tr AV)(d:Option Nat)(Q:Tr AV->AH->Prop)(v:AV)(H:AH):Prop:=cg P l (aF e d v) H Q
theorem lH(P:Program)(l:List AO)(e:Tr AV)(d:Option Nat)(Q:Tr AV->AH->Prop)(v:AV)(H:AH):qd P l e d Q v H=cg P l (aF e d v) H Q:=id rfl
theorem lW(P:Program)(e:Tr AV)(H:AH)(Q:Tr AV->AH->Prop):cg P [] e H Q=Q e H:=id rfl
def QQ(P:Program)(d:Option Nat)(k:AK)(l:List AO)(e:Tr AV)(H:AH)(Q:Tr AV->AH->Prop):Option Bool->Prop
 |some true=>gK P e H k (qd P l e d Q)
 |some false=>cg P l (aF e d (.tup [])) H Q
 |none=>False
theorem lU(P:Program)(d:Option Nat)(k:AK)(l:List AO)(e:Tr AV)(H:AH)(Q:Tr AV->AH->Prop):QQ P d k l e H Q (some true)=gK P e H k (qd P l e d Q):=id rfl
theorem jR(P:Program)(d:Option Nat)(k:AK)(l:List AO)(e:Tr AV)(H:AH)(Q:Tr AV->AH->Prop):QQ P d k l e H Q (some false)=cg P l (aF e d (.tup [])) H Q:=id rfl
theorem jV(P:Program)(d:Option Nat)(g:Option (Nat×Bool))(k:AK)(l:List AO)(e:Tr AV)(H:AH)(Q:Tr AV->AH->Prop):cg P (⟨d,g,k⟩::l) e H Q=QQ P d k l e H Q (aR e g):=by
 show(match aR e g with
  |some t=>(t=true->gK P e H k (qd P l e d Q))/\(t=false->cg P l (aF e d (.tup [])) H Q)
  |none=>False)=_
 cases aR e g with
 |none=>rfl
 |some t=>cases t<;>simp[QQ]
def mI(r:Option (AV×AH))(Q:AV->AH->Prop):Prop:=match r with
  |some (v,H')=>Q v H'
  |none=>False
theorem il(v:AV)(H:AH)(Q:AV->AH->Prop):mI (some (v,H)) Q=Q v H:=id rfl
theorem im(Q:AV->AH->Prop):mI none Q=False:=id rfl
theorem Qy(P:Program)(e:Tr AV)(H:AH)(x:AP)(Q:AV->AH->Prop):gK P e H (.ap x) Q=mI (x.run e H) Q:=id rfl
def Sa(neg:Bool)(H:AH)(Q:AV->AH->Prop):Option AV->Prop
 |some (.fs _ n _)=>∀t,(t=(!neg)->n=0)->Q (.b t) H
 |some .sl0=>∀t,Q (.b t) H
 |_=>False
theorem Qw(P:Program)(e:Tr AV)(H:AH)(neg:Bool)(x:AX)(Q:AV->AH->Prop):gK P e H (.sn neg x) Q=Sa neg H Q (x.ev e):=id rfl
theorem Cj(neg:Bool)(H:AH)(Q:AV->AH->Prop)(esz n:Nat)(row:Nat->Nat->AV):Sa neg H Q (some (.fs esz n row))=∀t,(t=(!neg)->n=0)->Q (.b t) H:=rfl
theorem py(neg:Bool)(H:AH)(Q:AV->AH->Prop):Sa neg H Q (some .sl0)=∀t,Q (.b t) H:=id rfl
theorem Qx(P:Program)(e:Tr AV)(H:AH)(f:AX)(args:List AX)(Q:AV->AH->Prop):gK P e H (.cl f args) Q=match f.ev e,ki e args with
  |some (.f g first cap),some vs=>dm P g (first++vs++cap) H Q
  |_,_=>False:=id rfl
def hU(P:Program)(H0:AH)(m:Nat)(nc:Bool)(l:List (Nat×AO))(e:Tr AV)(d:Option Nat)(Q:Tr AV->AH->Prop)(v:AV)(H:AH):Prop:=bV P H0 m nc l (aF e d v) H Q
theorem lI(P:Program)(H0:AH)(m:Nat)(nc:Bool)(l:List (Nat×AO))(e:Tr AV)(d:Option Nat)(Q:Tr AV->AH->Prop)(v:AV)(H:AH):hU P H0 m nc l e d Q v H=bV P H0 m nc l (aF e d v) H Q:=id rfl
def iZ(P:Program)(H0:AH)(m:Nat)(nc:Bool)(k:Nat)(l:List (Nat×AO))(e:Tr AV)(d:Option Nat)(Q:Tr AV->AH->Prop)(v:AV)(H:AH):Prop:=(k=3\/m<=H.low)/\bV P H0 m nc l (aF e d v) H Q
theorem jN(P:Program)(H0:AH)(m:Nat)(nc:Bool)(k:Nat)(l:List (Nat×AO))(e:Tr AV)(d:Option Nat)(Q:Tr AV->AH->Prop)(v:AV)(H:AH):iZ P H0 m nc k l e d Q v H=((k=3\/m<=H.low)/\bV P H0 m nc l (aF e d v) H Q):=id rfl
theorem lX(P:Program)(H0:AH)(m:Nat)(nc:Bool)(e:Tr AV)(H:AH)(Q:Tr AV->AH->Prop):bV P H0 m nc [] e H Q=Q e H:=id rfl
def QR(P:Program)(H0:AH)(m:Nat)(nc:Bool)(k:Nat)(d:Option Nat)(a:AK)(l:List (Nat×AO))(e:Tr AV)(H:AH)(Q:Tr AV->AH->Prop):Option Bool->Prop
 |some true=>if k=1 then cT H0 m nc e a/\gK P e H a (hU P H0 m nc l e d Q)
    else if k=2 then eK a=true/\gK P e H a (hU P H0 m nc l e d Q)
    else gK P e H a (iZ P H0 m (nc&& !gm a) k l e d Q)
 |some false=>(k=0->m<=H.low)/\bV P H0 m nc l (aF e d (.tup [])) H Q
 |none=>False
theorem lV(P:Program)(H0:AH)(m:Nat)(nc:Bool)(k:Nat)(d:Option Nat)(a:AK)(l:List (Nat×AO))(e:Tr AV)(H:AH)(Q:Tr AV->AH->Prop):QR P H0 m nc k d a l e H Q (some true)=if k=1 then cT H0 m nc e a/\gK P e H a (hU P H0 m nc l e d Q)
    else if k=2 then eK a=true/\gK P e H a (hU P H0 m nc l e d Q)
    else gK P e H a (iZ P H0 m (nc&& !gm a) k l e d Q):=id rfl
theorem jS(P:Program)(H0:AH)(m:Nat)(nc:Bool)(k:Nat)(d:Option Nat)(a:AK)(l:List (Nat×AO))(e:Tr AV)(H:AH)(Q:Tr AV->AH->Prop):QR P H0 m nc k d a l e H Q (some false)=((k=0->m<=H.low)/\bV P H0 m nc l (aF e d (.tup [])) H Q):=id rfl
theorem jW(P:Program)(H0:AH)(m:Nat)(nc:Bool)(k:Nat)(d:Option Nat)(g:Option (Nat×Bool))(a:AK)(l:List (Nat×AO))(e:Tr AV)(H:AH)(Q:Tr AV->AH->Prop):bV P H0 m nc ((k,⟨d,g,a⟩)::l) e H Q=QR P H0 m nc k d a l e H Q (aR e g):=by
 show(match aR e g with
  |some t=>
   (t=true->if k=1 then cT H0 m nc e a/\gK P e H a (hU P H0 m nc l e d Q)
    else if k=2 then eK a=true/\gK P e H a (hU P H0 m nc l e d Q)
    else gK P e H a (iZ P H0 m (nc&& !gm a) k l e d Q))/\
   (t=false->(k=0->m<=H.low)/\bV P H0 m nc l (aF e d (.tup [])) H Q)
  |none=>False)=_
 cases aR e g with
 |none=>rfl
 |some t=>cases t<;>simp[QR]
def iY(P:Program)(m:Nat)(T:AT)(e:Tr AV)(d:Option Nat)(Q:Tr AV->AH->Prop)(v:AV)(H:AH):Prop:=m<=H.low/\bz P m T (aF e d v) H Q
theorem jM(P:Program)(m:Nat)(T:AT)(e:Tr AV)(d:Option Nat)(Q:Tr AV->AH->Prop)(v:AV)(H:AH):iY P m T e d Q v H=(m<=H.low/\bz P m T (aF e d v) H Q):=id rfl
theorem jT(P:Program)(m:Nat)(e:Tr AV)(H:AH)(Q:Tr AV->AH->Prop):bz P m .fin e H Q=Q e H:=id rfl
theorem ib(P:Program)(m:Nat)(e:Tr AV)(H:AH)(Q:Tr AV->AH->Prop):bz P m .none e H Q=True:=id rfl
def QP(P:Program)(m:Nat)(d:Option Nat)(a:AK)(r:AT)(e:Tr AV)(H:AH)(Q:Tr AV->AH->Prop):Option Bool->Prop
 |some true=>gK P e H a (iY P m r e d Q)
 |some false=>m<=H.low/\bz P m r (aF e d (.tup [])) H Q
 |none=>False
theorem lS(P:Program)(m:Nat)(d:Option Nat)(a:AK)(r:AT)(e:Tr AV)(H:AH)(Q:Tr AV->AH->Prop):QP P m d a r e H Q (some true)=gK P e H a (iY P m r e d Q):=id rfl
theorem jQ(P:Program)(m:Nat)(d:Option Nat)(a:AK)(r:AT)(e:Tr AV)(H:AH)(Q:Tr AV->AH->Prop):QP P m d a r e H Q (some false)=(m<=H.low/\bz P m r (aF e d (.tup [])) H Q):=id rfl
theorem jU(P:Program)(m:Nat)(d:Option Nat)(g:Option (Nat×Bool))(a:AK)(r more:AT)(e:Tr AV)(H:AH)(Q:Tr AV->AH->Prop):bz P m (.alt ⟨d,g,a⟩ r more) e H Q=(QP P m d a r e H Q (aR e g)/\bz P m more e H Q):=by
 show((match aR e g with
   |some t=>(t=true->gK P e H a (iY P m r e d Q))/\(t=false->m<=H.low/\bz P m r (aF e d (.tup [])) H Q)
   |none=>False)/\bz P m more e H Q)=_
 cases aR e g with
 |none=>rfl
 |some t=>cases t<;>simp[QP]
theorem my(H0:AH)(m:Nat)(nc:Bool)(e:Tr AV)(n:Nat)(row:Bool)(x:AX):cT H0 m nc e (.ap (.ld n row x))=match x.ev e with
  |some (.p b _)=>b<m/\(H0.at b).isSome=true
  |some (.fp _ _ _)=>nc=true
  |_=>False:=id rfl
theorem Cq(k:IntKind)(a b:Int):bu (binOp .lss 0 (.int k a) (.int k b))=some (.b (decide (a<b))):=by cases k<;>rfl
theorem Cr(k:IntKind)(a b:Int):bu (binOp .leq 0 (.int k a) (.int k b))=some (.b (decide (a<=b))):=by cases k<;>rfl
theorem Cs(k:IntKind)(a b:Int):bu (binOp .gtr 0 (.int k a) (.int k b))=some (.b (decide (b<a))):=by cases k<;>rfl
theorem Ct(k:IntKind)(a b:Int):bu (binOp .geq 0 (.int k a) (.int k b))=some (.b (decide (b<=a))):=by cases k<;>rfl
theorem Cu(k:IntKind)(a b:Int):bu (binOp .eql 0 (.int k a) (.int k b))=some (.b (decide (a=b))):=by
 cases k<;>(show some (AV.b (a==b))=_;congr)
theorem Co(k:IntKind)(a b:Int):bu (binOp .neq 0 (.int k a) (.int k b))=some (.b (!decide (a=b))):=by
 cases k<;>(show some (AV.b (a != b))=_;congr)
theorem Cw(k:IntKind)(a b:Int):bu (binOp .add 0 (.int k a) (.int k b))=some (.n k (k.wrap (a+b))):=by cases k<;>rfl
theorem Ck(k:IntKind)(a b:Int):bu (binOp .sub 0 (.int k a) (.int k b))=some (.n k (k.wrap (a-b))):=by cases k<;>rfl
theorem Cp(k:IntKind)(a b:Int):bu (binOp .mul 0 (.int k a) (.int k b))=some (.n k (k.wrap (a*b))):=by cases k<;>rfl
theorem Cn(b:Bool):bu (Op.unary .not (.bool b))=some (.b (!b)):=rfl
theorem av{x:Int}(h: -9223372036854775808<=x/\x<=9223372036854775807):IntKind.wrap .i64 x=x:=by
 rw[IntKind.wrap_i64];omega
theorem jd(e:Tr AV):aR e none=some true:=rfl
theorem Wk.arg(n:Nat)(args:List AV)(H:AH)(h:args.length<100000):Wk n (cw args) H (aG (a8 0 args)) H:=by
 intro B σ a w hE hH
 refine⟨σ,⟨⟨hE.er.df,λt v hv=>hE.er.get t v ?_⟩,hE.sz,hE.sm⟩,hH,.refl _ _⟩
 rw[gz _ _ _ (by omega)] at hv
 rw[ct _ _ (by omega)]
 split at hv
 ·simpa using hv
 ·cases hv
theorem pz{x:AB}{i:Nat}(h:i<1000000)(v:AV)(j:Nat):(x.set i v).get j=if j=i then v else x.get j:=AB.get_set x i j v (by omega)
theorem lN(n esz ty:Nat)(d:Nat->AV)(l:List AV)(o lv:Bool)(z i:Nat)(h:l.length<1000000):AB.get ⟨n,esz,ty,d,cw l,o,lv,z⟩ i=l[i]?.getD (d i):=by
 simp only[AB.get]
 rw[ct l i (by omega)]
theorem get_nil(n esz ty:Nat)(d:Nat->AV)(o lv:Bool)(z i:Nat):AB.get ⟨n,esz,ty,d,.nil,o,lv,z⟩ i=d i:=id rfl
theorem Wk.nil{n:Nat}{e:Tr AV}{H:AH}(t esz ty:Nat)(ht:e.get t=some .sl0)(hs:t<1000000)(hn:H.next<1000000):Wk n e H (aF e (some t) (.os H.next 0)) (H.new (ft esz ty)):=by
 intro B σ a w hE hH
 have hle:=σ.le_extNil H.next
 refine⟨σ.extNil H.next,⟨⟨hE.er.df,λt' v hv=>?_⟩,hE.sz,hE.sm⟩,hH.placeNil rfl (λ_ _ h=>h) (by omega) rfl rfl rfl ⟨rfl,rfl⟩,.of_eq rfl⟩
 simp only[aF] at hv
 rw[Tr.get_set 48 e t _ t' (by omega)] at hv
 by_cases h:t'=t
 ·subst h
  rw[if_pos rfl] at hv
  cases hv
  have:=hE.er.get t' _ ht
  generalize a.tmps.getD t' undef=u at this
  cases this
  exact .os0 (σ:=σ.extNil H.next) (Or.inl rfl) _
 ·rw[if_neg h] at hv
  exact(hE.er.get t' v hv).mono hle
theorem ji(ty esz n z:Nat)(row:Nat->Nat->AV):(aE ty esz n z row).size=n*esz:=id rfl
theorem kD(ty esz n z:Nat)(row:Nat->Nat->AV):(aE ty esz n z row).esz=esz:=id rfl
theorem pD(ty esz n z:Nat)(row:Nat->Nat->AV):(aE ty esz n z row).ty=ty:=id rfl
theorem kB(ty esz n z:Nat)(row:Nat->Nat->AV):(aE ty esz n z row).opn=true:=id rfl
theorem jj(ty esz n z:Nat)(row:Nat->Nat->AV):(aE ty esz n z row).live=true:=id rfl
theorem kC(ty esz n z:Nat)(row:Nat->Nat->AV):(aE ty esz n z row).fzn=z:=id rfl
theorem jt(esz ty:Nat):(ft esz ty).size=0:=id rfl
theorem kS(esz ty:Nat):(ft esz ty).esz=esz:=id rfl
theorem pQ(esz ty:Nat):(ft esz ty).ty=ty:=id rfl
theorem kQ(esz ty:Nat):(ft esz ty).opn=true:=id rfl
theorem ju(esz ty:Nat):(ft esz ty).live=true:=id rfl
theorem kR(esz ty:Nat):(ft esz ty).fzn=0:=id rfl
theorem mR{l:List AB}(h:l.length<1000000)(x:AB)(b:Nat):(au (x::l)).at b=if b=l.length then(if x.live then some x else none) else(au l).at b:=by
 rw[eS,ip (by rw[bg];exact h),bg]
theorem gh:∀l:List AB,(au l).low=2^40
 |[]=>rfl
 |x::l=>gh l
theorem jD(esz ty:Nat)(l:List AV):(cm esz ty l).size=l.length:=id rfl
theorem lr(esz ty:Nat)(l:List AV):(cm esz ty l).esz=esz:=id rfl
theorem pT(esz ty:Nat)(l:List AV):(cm esz ty l).ty=ty:=id rfl
theorem lp(esz ty:Nat)(l:List AV):(cm esz ty l).opn=false:=id rfl
theorem jE(esz ty:Nat)(l:List AV):(cm esz ty l).live=true:=id rfl
theorem lq(esz ty:Nat)(l:List AV):(cm esz ty l).fzn=0:=id rfl
theorem Qq(x:Bool):AV.one (.b x)=true:=id rfl
theorem qv(x:Bool):AV.cells (.b x)=[.b x]:=id rfl
theorem Qo(k:IntKind)(x:Int):AV.one (.n k x)=true:=id rfl
theorem qt(k:IntKind)(x:Int):AV.cells (.n k x)=[.n k x]:=id rfl
theorem Qm(x:ByteArray):AV.one (.s x)=true:=id rfl
theorem qr(x:ByteArray):AV.cells (.s x)=[.s x]:=id rfl
theorem CQ:AV.one (.p0)=true:=id rfl
theorem mC:AV.cells (.p0)=[.p0]:=id rfl
theorem Qn(b o:Nat):AV.one (.p b o)=true:=id rfl
theorem qs(b o:Nat):AV.cells (.p b o)=[.p b o]:=id rfl
theorem pO:AV.one (.sl0)=true:=id rfl
theorem j3:AV.cells (.sl0)=[.sl0]:=id rfl
theorem CP(b o l c:Nat):AV.one (.sl b o l c)=true:=id rfl
theorem mB(b o l c:Nat):AV.cells (.sl b o l c)=[.sl b o l c]:=id rfl
theorem CU:AV.one (.f0)=true:=id rfl
theorem mG:AV.cells (.f0)=[.f0]:=id rfl
theorem Qp(g:FuncId)(l1 l2:List AV):AV.one (.f g l1 l2)=true:=id rfl
theorem qu(g:FuncId)(l1 l2:List AV):AV.cells (.f g l1 l2)=[.f g l1 l2]:=id rfl
theorem CV(v:Value):AV.one (.cv v)=true:=id rfl
theorem mH(v:Value):AV.cells (.cv v)=[.cv v]:=id rfl
theorem CS(z n:Nat)(r:Nat->Nat->AV):AV.one (.fs z n r)=true:=id rfl
theorem mE(z n:Nat)(r:Nat->Nat->AV):AV.cells (.fs z n r)=[.fs z n r]:=id rfl
theorem CT(z:Nat)(r:Nat->AV)(j:Nat):AV.one (.fp z r j)=true:=id rfl
theorem mF(z:Nat)(r:Nat->AV)(j:Nat):AV.cells (.fp z r j)=[.fp z r j]:=id rfl
theorem CR(b n:Nat):AV.one (.os b n)=true:=id rfl
theorem mD(b n:Nat):AV.cells (.os b n)=[.os b n]:=id rfl
theorem j4(l:List AV):AV.cells (.agg l)=l:=id rfl
def AB.fr(x:AB):AB:={x with fzn:=max x.size x.fzn}
theorem mO{H:AH}{b:Nat}(h:b<1000000)(b':Nat):(H.mark b).at b'=if b'=b then(H.at b).map AB.fr else H.at b':=mP h b'
theorem Dh(x:AB)(i:Nat):x.fr.get i=x.get i:=id rfl
theorem qi(x:AB):x.fr.size=x.size:=id rfl
theorem Dj(x:AB):x.fr.esz=x.esz:=id rfl
theorem Qz(x:AB):x.fr.ty=x.ty:=id rfl
theorem Dg(x:AB):x.fr.opn=x.opn:=id rfl
theorem qj(x:AB):x.fr.live=x.live:=id rfl
theorem Di(x:AB):x.fr.fzn=max x.size x.fzn:=id rfl
def hO(esz ty:Nat)(l:List AV):AB:=⟨l.length,esz,ty,λ_=> .u,cw l,false,true,l.length⟩
theorem jB(esz ty:Nat)(l:List AV):(hO esz ty l).size=l.length:=id rfl
theorem lm(esz ty:Nat)(l:List AV):(hO esz ty l).esz=esz:=id rfl
theorem pS(esz ty:Nat)(l:List AV):(hO esz ty l).ty=ty:=id rfl
theorem lh(esz ty:Nat)(l:List AV):(hO esz ty l).opn=false:=id rfl
theorem jC(esz ty:Nat)(l:List AV):(hO esz ty l).live=true:=id rfl
theorem ll(esz ty:Nat)(l:List AV):(hO esz ty l).fzn=l.length:=id rfl
theorem lj(esz ty:Nat)(l:List AV)(i:Nat)(h:l.length<1000000):(hO esz ty l).get i=l[i]?.getD .u:=fu esz ty l i h
theorem bP.get{M:List Nat}{H:AH}:∀{l l':List AV},bP M H l l'->l.length=l'.length/\∀(i:Nat) (v v':AV),l[i]? =some v->l'[i]? =some v'->Cv M H v v'
 |[],[],_=>⟨rfl,λi v v' h=>by simp at h⟩
 |[],_::_,h=>h.elim
 |_::_,[],h=>h.elim
 |x::l,x'::l',h=>by
  obtain⟨h1,h2⟩:=h
  obtain⟨e1,e2⟩:=h2.get
  refine⟨by simp[e1],λi v v' hv hv'=>?_⟩
  cases i with
  |zero=>simp at hv hv';subst hv;subst hv';exact h1
  |succ i=>exact e2 i v v' (by simpa using hv) (by simpa using hv')
theorem Cv.fn{M:List Nat}{H:AH}{g:FuncId}{l1 l2 l1' l2':List AV}(h1:bP M H l1 l1')(h2:bP M H l2 l2'):Cv M H (.f g l1 l2) (.f g l1' l2'):= .f h1.get.1 h2.get.1 h1.get.2 h2.get.2
theorem Cv.box{M:List Nat}{H:AH}{b:Nat}{x:AB}{l:List AV}(hm:M.contains b=true)(hx:H.at b=some x)(hs:x.size=l.length)(h0:0<l.length)(hg:∀j,j<l.length->x.get j=l[j]?.getD .u)(hc:l.all AV.cell=true):Cv M H (.p b 0) (.fp l.length (λj=>l[j]?.getD .u) 0):=
 .p (o:=0) (j:=0) (by simpa using hm) hx (by omega) (by omega) (λq hq=>by rw[Nat.zero_add];exact hg q hq) (λq hq=>by
  rw[List.getElem?_eq_getElem hq]
  exact List.all_eq_true.1 hc _ (List.getElem_mem hq))
theorem app_size(x:AB)(o:Nat)(s:bk):(x.app o s).size=o+s.len:=AB.app_size x o s
theorem qz(x:AB)(o:Nat)(s:bk):(x.app o s).esz=x.esz:=(AB.app_rest x o s).1
theorem Dw(x:AB)(o:Nat)(s:bk):(x.app o s).ty=x.ty:=(AB.app_rest x o s).2.1
theorem qx(x:AB)(o:Nat)(s:bk):(x.app o s).opn=true:=(AB.app_rest x o s).2.2.1
theorem mU(x:AB)(o:Nat)(s:bk):(x.app o s).live=true:=(AB.app_rest x o s).2.2.2.1
theorem qy(x:AB)(o:Nat)(s:bk):(x.app o s).fzn=x.fzn:=(AB.app_rest x o s).2.2.2.2
theorem gA(x:AB)(n esz:Nat)(l:List AV)(hl:l.length=esz)(hlim:(n+1)*esz<2^40)(i j:Nat)(hi:i<n+1)(hj:j<esz):(x.app (n*esz) (.li l)).get (i*esz+j)=if i<n then x.get (i*esz+j) else l[j]?.getD .u:=by
 have h1:=bO hi hj
 rw[Nat.add_mul] at hlim h1
 rw[AB.app_get _ _ _ _ (by simp only[bk.len,hl];omega) (by simp only[bk.len,hl];omega)]
 by_cases h:i<n
 ·have:=bO h hj
  rw[if_neg (by omega),if_pos h]
 ·have:i=n:=by omega
  subst this
  rw[if_pos (by omega),if_neg (by omega)]
  simp only[bk.at]
  congr 2
  omega
theorem fS{ty esz n z:Nat}{row row2:Nat->Nat->AV}{l:List AV}(hl:l.length=esz)(hlim:(n+1)*esz<2^40)(h1:∀i j,i<n->j<esz->row2 i j=row i j)(h2:∀j,j<esz->row2 n j=l[j]?.getD .u):
  ∀i j,i<n+1->j<esz->((aE ty esz n z row).app (n*esz) (.li l)).get (i*esz+j)=row2 i j:=by
 intro i j hi hj
 rw[gA _ n esz l hl hlim i j hi hj]
 by_cases h:i<n
 ·rw[if_pos h,a9 i j hj,h1 i j h hj]
 ·have:i=n:=by omega
  subst this
  rw[if_neg h,h2 j hj]
theorem ey.rows{r:Nat->Option Nat}{M:List Nat}{H:AH}{b ty esz n z:Nat}{row:Nat->Nat->AV}{x:AB}(hx:H.at b=some x)(h1:x.ty=ty)(h2:x.esz=esz)(h3:x.opn=true)(h4:n*esz<=x.size)(h5:(if b ∈ M then max x.size x.fzn else x.fzn)<=z)(h0:0<esz)
  (hr:∀i j,i<n->j<esz->x.get (i*esz+j)=row i j) (hc:∀i j,i<n->j<esz->(row i j).pu 3=true):ey r M H b (aE ty esz n z row):=by
 refine⟨x,hx,h1.symm,h2.symm,h3.symm,rfl,.inr ⟨h3,h4⟩,h5,λi hi=>?_⟩
 have hi':i<n*esz:=hi
 have hq:i / esz<n:=Nat.div_lt_of_lt_mul (by rw[Nat.mul_comm];exact hi')
 have hm:i%esz<esz:=Nat.mod_lt _ h0
 have hdm:i / esz*esz+i%esz=i:=by
  have:=Nat.div_add_mod i esz
  rw[Nat.mul_comm] at this
  exact this
 have e1:(aE ty esz n z row).get i=row (i / esz) (i%esz):=rfl
 have e2:=hr _ _ hq hm
 rw[hdm] at e2
 rw[e1,e2]
 exact .cv (.rfl (hc _ _ hq hm))
theorem jp(v:AV):aJ [v]=v:=id rfl
theorem jo(v v':AV)(l:List AV):aJ (v::v'::l)= .tup (v::v'::l):=id rfl
theorem QM:∀(k:Nat) (v:AV),v.pu k=true->v.pu (k+1)=true:=by
 intro k
 induction k with
 |zero=>intro v h;cases v<;>simp_all [AV.pu]
 |succ k ih=>
  intro v h
  cases v with
  |f g l1 l2=>
   simp only[AV.pu,Bool.and_eq_true,List.all_eq_true] at h ⊢
   exact⟨λx hx=>ih x (h.1 x hx),λx hx=>ih x (h.2 x hx)⟩
  |agg l=>simp only[AV.pu,List.all_eq_true] at h ⊢;exact λx hx=>ih x (h x hx)
  |tup l=>simp only[AV.pu,List.all_eq_true] at h ⊢;exact λx hx=>ih x (h x hx)
  |_=>simp_all [AV.pu]
theorem ez.nil{H:AH}:ez [] [] H:=trivial
theorem ez.v{H:AH}{x v:AV}{rs:List RT}{l:List AV}(h:v=x)(hp:x.pu 3=true)(h':ez rs l H):ez (.v x::rs) (v::l) H:=⟨⟨h,hp⟩,h'⟩
theorem ez.o0{H:AH}{ty esz z:Nat}{row:Nat->Nat->AV}{rs:List RT}{l:List AV}(ha:fI rs=true)(h':ez rs l H):ez (.o ty esz 0 z row::rs) (.sl0::l) H:=⟨.inl ⟨rfl,rfl⟩,ha,h'⟩
theorem ez.o{H:AH}{ty esz n z b:Nat}{x:AB}{row:Nat->Nat->AV}{rs:List RT}{l:List AV}(hx:H.at b=some x)(h1:x.ty=ty)(h2:x.esz=esz)(h3:x.opn=true)(h0:0<esz)(h4:n*esz<=x.size)(h5:x.fzn<=z)
  (hr:∀i j,i<n->j<esz->x.get (i*esz+j)=row i j) (hc:∀i j,i<n->j<esz->(row i j).cell=true) (ha:fI rs=true) (h':ez rs l H):ez (.o ty esz n z row::rs) (.os b n::l) H:=
 ⟨.inr ⟨b,rfl,by simp,x,hx,h1,h2,h0,h3,h4,h5,hr,hc⟩,ha,h'⟩
theorem ez.a{H:AH}{c:List cN}{vs:List AV}{rs:List RT}{l:List AV}(h0:c.length<=8)(h:gI H [] c vs)(ha:fI rs=true)(h':ez rs l H):ez (.a c::rs) (.agg vs::l) H:=⟨⟨h0,vs,rfl,h⟩,ha,h'⟩
theorem gI.nil{H:AH}{u:List Nat}:gI H u [] []:=trivial
theorem gI.v{H:AH}{u:List Nat}{x v:AV}{rs:List cN}{l:List AV}(h:v=x)(hp:x.pu 3=true)(h':gI H u rs l):gI H u (.v x::rs) (v::l):=⟨⟨h,hp⟩,h'⟩
theorem gI.o0{H:AH}{u:List Nat}{ty esz z:Nat}{row:Nat->Nat->AV}{rs:List cN}{l:List AV}(h':gI H u rs l):gI H u (.o ty esz 0 z row::rs) (.sl0::l):=⟨.inl ⟨rfl,rfl⟩,h'⟩
theorem gI.o{H:AH}{u:List Nat}{ty esz n z b:Nat}{x:AB}{row:Nat->Nat->AV}{rs:List cN}{l:List AV}(hx:H.at b=some x)(hu:u.contains b=false)(h1:x.ty=ty)(h2:x.esz=esz)(h3:x.opn=true)(h0:0<esz)(h4:n*esz<=x.size)(h5:x.fzn<=z)
  (hr:∀i j,i<n->j<esz->x.get (i*esz+j)=row i j) (hc:∀i j,i<n->j<esz->(row i j).cell=true) (h':gI H (b::u) rs l):gI H u (.o ty esz n z row::rs) (.os b n::l):=
 ⟨.inr ⟨b,rfl,by simpa using hu,x,hx,h1,h2,h0,h3,h4,h5,hr,hc⟩,h'⟩
theorem bP.nil{M:List Nat}{H:AH}:bP M H [] []:=trivial
theorem bP.cons{M:List Nat}{H:AH}{v v2:AV}{l l2:List AV}(h:Cv M H v v2)(h':bP M H l l2):bP M H (v::l) (v2::l2):=⟨h,h'⟩
theorem bP.same{M:List Nat}{H:AH}:∀{l:List AV},l.all (AV.pu 3)=true->bP M H l l
 |[],_=>trivial
 |v::l,h=>by
  simp only[List.all_cons,Bool.and_eq_true] at h
  exact⟨.rfl h.1,bP.same h.2⟩
theorem ab{v x:AV}{H:AH}(h:v=x)(hp:x.pu 3=true):∃l1,v=aJ l1/\ez [.v x] l1 H:=⟨[v],rfl,⟨h,hp⟩,trivial⟩
def AV.sc:Nat->AV->Bool
 |_,.b _|_,.n _ _|_,.s _|_,.p0|_,.sl0|_,.f0|_,.cv _=>true
 |k+1,.agg l=>l.all (AV.sc k)
 |k+1,.tup l=>l.all (AV.sc k)
 |_,_=>false
theorem VR.sc{σ σ2:Sg}:∀(k:Nat) {v:AV} {x:Value},v.sc k=true->VR σ v x->VR σ2 v x
 |k,v,x,hp,h=>by
  cases h with
  |b x=>exact .b x
  |n k x=>exact .n k x
  |s x=>exact .s x
  |p0=>exact .p0
  |sl0 a=>exact .sl0 a
  |f0=>exact .f0
  |cv _ hv=>exact .cv _ hv
  |agg hl hh=>
   cases k with
   |zero=>simp[AV.sc] at hp
   |succ k=>
    simp only[AV.sc,List.all_eq_true] at hp
    exact .agg hl (λi v hv=>VR.sc k (hp v (List.mem_of_getElem? hv)) (hh i v hv))
  |tup hl hh=>
   cases k with
   |zero=>simp[AV.sc] at hp
   |succ k=>
    simp only[AV.sc,List.all_eq_true] at hp
    exact .tup hl (λi v hv=>VR.sc k (hp v (List.mem_of_getElem? hv)) (hh i v hv))
  |_=>cases k<;>simp[AV.sc] at hp
theorem P1:∀(k:Nat) (v:AV),v.sc k=true->v.pu k=true:=by
 intro k
 induction k with
 |zero=>intro v h;cases v<;>simp_all [AV.sc,AV.pu]
 |succ k ih=>
  intro v h
  cases v with
  |agg l=>simp only[AV.pu,AV.sc,List.all_eq_true] at h ⊢;exact λx hx=>ih x (h x hx)
  |tup l=>simp only[AV.pu,AV.sc,List.all_eq_true] at h ⊢;exact λx hx=>ih x (h x hx)
  |_=>simp_all [AV.pu,AV.sc]
theorem fC{P:Program}{call:aB}(hC:∀B,aA P B call){f:FuncId}{args:List AV}{v:AV}{H':AH}(hr:call f args ⟨.nil,0,2^40,λ_=>none,[]⟩=some (v,H'))(hv:v.sc 3=true):cF P f args [.v v]:=by
 refine⟨(hC 0).fn hr,λφ w args' hφ ha=>?_⟩
 refine Calls.mono ((hC w.heap.size).run hr _ w args' (HR.empty w hφ) ha) (λe w' hp=>?_)
 cases e with
 |panicked c=>exact hp.elim
 |outgrown=>exact hp.elim
 |returned u=>
  obtain⟨σ',q1,q2,q3⟩:=hp
  have hw:QO φ w':=λc fs hf=>by
   obtain⟨cs,t,fr,h1,h2⟩:=hφ c fs hf
   exact⟨cs,t,fr,by rw[q3.bel.block c (Array.getElem?_eq_some_iff.1 h1).1];exact h1,h2⟩
  refine⟨v,⟨.nil,0,2^40,λ_=>none,[]⟩,Sg.data φ,⟨[v],rfl,⟨rfl,P1 3 v hv⟩,trivial⟩,q1.sc 3 hv,?_,q3.bel,λ_ _=>rfl⟩
  exact HR.emptyAt w' q3.bel.size hw
def AH.setLow(H:AH)(l:Nat):AH:={H with low:=l}
theorem j6(H:AH)(l b:Nat):(H.setLow l).at b=H.at b:=id rfl
theorem f9(H:AH)(l:Nat):(H.setLow l).next=H.next:=id rfl
theorem hP(H:AH)(l:Nat):(H.setLow l).low=l:=id rfl
theorem eA(H:AH)(l l':Nat):(H.setLow l).setLow l'=H.setLow l':=id rfl
theorem lu(H:AH)(b:Nat):(H.mark b).low=H.low:=AH.mark_low H b
theorem GA.mix1{P:Program}{n:Nat}{hints:aU}{e:Tr AV}{H:AH}{Q:AE->Tr AV->AH->Prop}(hm:P.follows .mixedOrders=true){l:List (Nat×AO)}(h:bV P (H.setLow (2^40)) H.next true l e (H.setLow (2^40)) (λe' H'=>Q .normal e' (H'.setLow (min H.low H'.low)))):GA P n hints (.mix l) e H Q:=
 GA.mix hm H.next (by rw[Nat.sub_self];trivial) h
theorem ey.lst{r:Nat->Option Nat}{M:List Nat}{H:AH}{b esz ty:Nat}{l:List AV}(hx:H.at b=some (cm esz ty l))(hM:M.contains b=false)(hl:l.length<1000000)(hp:l.all (AV.pu 3)=true):ey r M H b (cm esz ty l):=by
 refine⟨cm esz ty l,hx,rfl,rfl,rfl,rfl,.inl rfl,by rw[if_neg (by simpa using hM)];exact Nat.le_refl _,λi hi=>?_⟩
 have hi':i<l.length:=hi
 rw[fu esz ty l i hl,List.getElem?_eq_getElem hi']
 exact .cv (.rfl (List.all_eq_true.1 hp _ (List.getElem_mem hi')))
theorem ey.keep{r:Nat->Option Nat}{M:List Nat}{H:AH}{b ty esz n z:Nat}{row:Nat->Nat->AV}(hx:H.at b=some (aE ty esz n z row))(hM:M.contains b=false)(h0:0<esz)(hc:∀i j,i<n->j<esz->(row i j).pu 3=true):ey r M H b (aE ty esz n z row):=
 ey.rows hx rfl rfl rfl (Nat.le_refl _) (by rw[if_neg (by simpa using hM)];exact Nat.le_refl _) h0 (λi j _ hj=>a9 i j hj) hc
theorem bD.nil{r:Nat->Option Nat}{M:List Nat}{H:AH}:bD r M H [] []:=trivial
theorem bD.cons{r:Nat->Option Nat}{M:List Nat}{H:AH}{b:Nat}{ρ:List Nat}{x:AB}{bl:List AB}(h1:ρ.contains b=false)(h2:ey r M H b x)(h3:bD r M H ρ bl):bD r M H (b::ρ) (x::bl):=⟨by simpa using h1,h2,h3⟩
def gy(P:Program)(n:Nat)(hints:aU)(cc:AX)(x y:AC)(e:Tr AV)(H:AH)(Q:AE->Tr AV->AH->Prop):Prop:=match cc.ev e with
 |some (.b t)=>(t=true->GA P n hints x e H Q)/\(t=false->GA P n hints y e H Q)
 |_=>False
theorem GA.cond'{P:Program}{n:Nat}{hints:aU}{e:Tr AV}{H:AH}{Q:AE->Tr AV->AH->Prop}{cc:AX}{x y:AC}(h:gy P n hints cc x y e H Q):GA P n hints (.cond cc x y) e H Q:=by
 unfold gy at h
 split at h
 ·rename_i t ht
  exact GA.cond ht h.1 h.2
 ·exact h.elim
theorem Wv.n{r:Nat->Option Nat}{M:List Nat}{H:AH}{k:IntKind}{a b:Int}(h:a=b):Wv r M H (.n k a) (.n k b):=by subst h;exact .cv (.rfl rfl)
theorem Wv.same{r:Nat->Option Nat}{M:List Nat}{H:AH}{v:AV}(h:v.pu 3=true):Wv r M H v v:= .cv (.rfl h)
theorem aw{a b:Prop}(h1:a)(h2:b):a/\b:=⟨h1,h2⟩
theorem ar{P:Program}[IdleOK P](hm:P.follows .mixedOrders=true){f:FuncId}{hints:aU}{F:AF}(hF:ae P hints f=some F){args:List AV}(hlen:args.length<=F.nt/\F.nt<100000){Q:AV->AH->Prop}
  (h:GA P F.nt hints F.code (aG (a8 0 args)) (au []) (gw F.res Q)):ka P f args Q:=
 qe hm hF hlen.1 (GA.wk (Wk.arg _ _ _ (by omega)) h)
theorem P3(x:Bool):bu (pure (.bool x))=some (.b x):=id rfl
theorem P2(k:IntKind)(x:Int):bu (pure (.int k x))=some (.n k x):=id rfl
theorem Qv(a b:Int):(a==b)=decide (a=b):=by rw[Bool.eq_iff_iff];simp
theorem Sf(a b:Int):(a != b)= !decide (a=b):=by rw[bne,Qv]
def Sh:AC->Bool
 |.loop _=>false
 |.frk _ _=>false
 |.dfr _ _ _=>false
 |.mxl _=>false
 |.rf _ _ _ _ _=>false
 |_=>true
attribute [reducible] Sh
def GS(P:Program)(n:Nat)(hints:aU)(ac:AC)(e:Tr AV)(H:AH)(Q:AE->Tr AV->AH->Prop):Prop:=match ac with
 |.skip=>Q .normal e H
 |.exit i=>Q (.exit i) e H
 |.ret=>Q .ret e H
 |.seq x y=>GA P n hints x e H (iI (λe' H'=>GA P n hints y e' H' Q) Q)
 |.cond c x y=>gy P n hints c x y e H Q
 |.block id x=>GA P n hints x e H (fF id Q)
 |.reg l=>cg P l e H (λe' H'=>Q .normal e' H')
 |.mix l=>bV P (H.setLow (2^40)) H.next true l e (H.setLow (2^40)) (λe' H'=>Q .normal e' (H'.setLow (min H.low H'.low)))
 |.loop _=>False
 |.frk _ _=>False
 |.dfr _ _ _=>False
 |.mxl _=>False
 |.rf _ _ _ _ _=>False
 |.die=>False
theorem GA.go{P:Program}{n:Nat}{hints:aU}{ac:AC}{e:Tr AV}{H:AH}{Q:AE->Tr AV->AH->Prop}(hm:P.follows .mixedOrders=true)(hg:Sh ac=true)(h:GS P n hints ac e H Q):GA P n hints ac e H Q:=by
 cases ac with
 |skip=>exact GA.skip h
 |exit i=>exact GA.exit h
 |ret=>exact GA.ret h
 |seq x y=>exact GA.seq h
 |cond c x y=>exact GA.cond' h
 |block id x=>exact GA.block h
 |reg l=>exact GA.reg h
 |mix l=>exact GA.mix1 hm h
 |loop x=>cases hg
 |frk l T=>cases hg
 |dfr _ _ _=>cases hg
 |mxl _=>cases hg
 |rf _ _ _ _ _=>cases hg
 |die=>exact(show False from h).elim
section
variable {P:Program} {n:Nat} {hints:aU} {e:Tr AV} {H:AH} {Q:AE->Tr AV->AH->Prop}
theorem GS.skip:GS P n hints .skip e H Q=Q .normal e H:=id rfl
theorem GS.exit(i:Nat):GS P n hints (.exit i) e H Q=Q (.exit i) e H:=id rfl
theorem GS.ret:GS P n hints .ret e H Q=Q .ret e H:=id rfl
theorem GS.seq(x y:AC):GS P n hints (.seq x y) e H Q=GA P n hints x e H (iI (λe' H'=>GA P n hints y e' H' Q) Q):=id rfl
theorem GS.cond(c:AX)(x y:AC):GS P n hints (.cond c x y) e H Q=gy P n hints c x y e H Q:=id rfl
theorem GS.block(id:Nat)(x:AC):GS P n hints (.block id x) e H Q=GA P n hints x e H (fF id Q):=_root_.id rfl
theorem GS.reg(l:List AO):GS P n hints (.reg l) e H Q=cg P l e H (λe' H'=>Q .normal e' H'):=id rfl
theorem GS.mix(l:List (Nat×AO)):GS P n hints (.mix l) e H Q=bV P (H.setLow (2^40)) H.next true l e (H.setLow (2^40)) (λe' H'=>Q .normal e' (H'.setLow (min H.low H'.low))):=id rfl
end
/-! what every step uses-/
attribute [go_sem] GS.skip GS.exit GS.ret GS.seq GS.cond GS.block GS.reg GS.mix P3 P2 Qv Sf iI fF kE gw gy lW jV lU jR lV jS lS jQ beq_false beq_true Qy
 Qx Qw Cj py lH lX jW lI jN my eK gm AP.kind jT ib jU jM cP bQ
 AX.ev ki AP.run AP.r_mv AP.r_pick AP.r_ld AP.r_st AP.r_nc AP.r_bin AP.r_un AP.r_cvi AP.r_fa AP.r_fd AP.r_ia AP.r_iaa AP.r_ext AP.r_len AP.r_cpc AP.r_clr AP.r_mf AP.r_al AP.r_bx AP.r_bd AP.r_bs AP.r_ms AP.r_sl AP.r_se AP.r_eq AP.r_lns AP.r_sx AP.r_ix AP.r_app AP.r_apm am jd aR ja ml dg dR cC j4 Qq qv Qo qt Qm qr CQ mC Qn
 qs pO j3 CP mB CU mG Qp qu CV mH CS mE CT mF CR mD
 List.cons_append List.nil_append List.append_nil Option.map_some Option.map_none List.all_cons List.all_nil List.length_cons List.length_nil
 Bool.and_true Bool.true_and Bool.and_self Cq Cr Cs Ct Cu Co Cw Ck Cp Cn dW gP kH
 je lY jK l9 pw kK iG AH.load AH.loadN ip kU Dt kT mQ jv mR bg
 gh mN pW pU pV kV Du kv qh lC qm Ci pM if_true if_false ite_true ite_false true_and
 and_true forall_const false_implies implies_true Bool.true_eq_false Bool.false_eq_true Option.some.injEq AV.b.injEq exists_eq_left' exists_eq_left
 decide_eq_true_eq decide_eq_false_iff_not Bool.not_eq_true' Bool.not_eq_false' Option.isSome_some not_true_eq_false not_false_eq_true Int.not_lt
 Int.not_le pz lN get_nil pC List.getElem?_cons_zero List.getElem?_cons_succ Option.getD_some Int.toNat_natCast Nat.zero_add Nat.add_zero
 Nat.mul_one Nat.zero_le beq_iff_eq beq_eq_false_iff_ne ne_eq ji kD pD kB jj kC app_size qz Dw qx
 mU qy AH.append bk.len cE jp jo a7 du aM mO Dh qi Dj Qz Dg qj Di
 AH.mark_next AH.mark_low true_or or_true Bool.not_false Bool.not_true Bool.and_false Nat.le_refl Nat.min_self beq_self_eq_true dK maxLen
 Bool.and_eq_true j6 f9 hP eA lu il im false_and and_false ek List.isEmpty_cons
 List.isEmpty_nil List.take_zero List.take_succ_cons List.drop_zero List.drop_succ_cons List.take_nil List.drop_nil jt kS pQ
 kQ ju kR List.length_append jD lr pT lp jE lq fu jB lm pS lh
 jC ll lj
/-! arguments that are found-/
theorem cI{P:Prop}(h:P:=by first|trivial|exact Wv.same rfl|exact Wv.p rfl|exact Wv.os rfl|exact Wv.sl rfl|exact Wv.n (by omega)|exact Wv.n (av (by omega))|exact Wv.n (by rw[av (by omega)];omega)):P:=h
theorem wku{P:Prop}(h:P:=by first|exact True.intro|exact Wv.same rfl|exact Wv.p rfl|exact Wv.os rfl|exact Wv.sl rfl|exact Wv.n (by omega)|exact Wv.n (av (by omega))|exact Wv.n (by rw[av (by omega)];omega)):P:=h
theorem ey.ls{r:Nat->Option Nat}{M:List Nat}{H:AH}{b esz ty:Nat}{l:List AV}(hx:H.at b=some (cm esz ty l):=by simp only[go_sem,simprocAttr]<;>rfl)(hM:M.contains b=false:=by rfl)(hl:l.length<1000000:=by simp)(hp:l.all (AV.pu 3)=true:=by rfl):ey r M H b (cm esz ty l):= .lst hx hM hl hp
theorem ey.k1{r:Nat->Option Nat}{M:List Nat}{H:AH}{b ty esz n z:Nat}{row:Nat->Nat->AV}(hx:H.at b=some (aE ty esz n z row):=by simp only[go_sem,simprocAttr])(hM:M.contains b=false:=by rfl)(h0:0<esz:=by decide)(hc:∀i j,i<n->j<esz->(row i j).pu 3=true:=by intro _ _ _ _;rfl):ey r M H b (aE ty esz n z row):= .keep hx hM h0 hc
theorem ey.k5{r:Nat->Option Nat}{M:List Nat}{H:AH}{b ty n z:Nat}{row:Nat->Nat->AV}(hx:H.at b=some (aE ty 5 n z row):=by simp only[go_sem,simprocAttr])(hM:M.contains b=false:=by rfl)(hc:∀i j,i<n->j<5->(row i j).pu 3=true:=by intro _ j _ hj;rcases(show j=0\/j=1\/j=2\/j=3\/j=4 by omega) with rfl|rfl|rfl|rfl|rfl<;>rfl):ey r M H b (aE ty 5 n z row):= .keep hx hM (by decide) hc
theorem gqa{P:Program}{g:FuncId}{a fa:AV}{H:AH}{rs:List RT}{Q:AV->AH->Prop}(h:cF P g [fa] rs)(hQ:Q (aJ (a7 (aM H []) rs).1) (a7 (aM H []) rs).2)(ha:Cv [] H a fa:=by exact .rfl (by rfl))(hnx:H.next+9<2^40:=by simp only[go_sem,simprocAttr]):dm P g [a] H Q:=ah [] (.cons ha .nil) h hnx hQ
theorem gqb{P:Program}{g:FuncId}{a b fa fb:AV}{H:AH}{rs:List RT}{Q:AV->AH->Prop}(h:cF P g [fa,fb] rs)(hQ:Q (aJ (a7 (aM H []) rs).1) (a7 (aM H []) rs).2)(ha:Cv [] H a fa:=by exact .rfl (by rfl))(hb:Cv [] H b fb:=by exact .rfl (by rfl))(hnx:H.next+9<2^40:=by simp only[go_sem,simprocAttr]):dm P g [a,b] H Q:=ah [] (.cons ha (.cons hb .nil)) h hnx hQ
theorem gqe{P:Program}{g:FuncId}{a b c d k:AV}{H:AH}{rs:List RT}{Q:AV->AH->Prop}(h:cF P g [a,b,c,d,k] rs)(hQ:Q (aJ (a7 (aM H []) rs).1) (a7 (aM H []) rs).2)(ha:a.pu 3=true:=by rfl)(hb:b.pu 3=true:=by rfl)(hc:c.pu 3=true:=by rfl)(hd:d.pu 3=true:=by rfl)(hk:k.pu 3=true:=by rfl)(hnx:H.next+9<2^40:=by simp only[go_sem,simprocAttr]):dm P g [a,b,c,d,k] H Q:=ah [] (.cons (.rfl ha) (.cons (.rfl hb) (.cons (.rfl hc) (.cons (.rfl hd) (.cons (.rfl hk) .nil))))) h hnx hQ
theorem ey.k2{r:Nat->Option Nat}{M:List Nat}{H:AH}{b ty esz n z:Nat}{row:Nat->Nat->AV}(hc:∀i j,i<n->j<esz->(row i j).pu 3=true)(hx:H.at b=some (aE ty esz n z row):=by simp only[go_sem,simprocAttr])(hM:M.contains b=false:=by rfl)(h0:0<esz:=by decide):ey r M H b (aE ty esz n z row):= .keep hx hM h0 hc
theorem ey.r0{r:Nat->Option Nat}{M:List Nat}{H:AH}{b ty esz n z:Nat}{row:Nat->Nat->AV}{x:AB}(hx:H.at b=some x:=by simp only[go_sem,simprocAttr];rfl)(h1:x.ty=ty:=by rfl)(h2:x.esz=esz:=by rfl)(h3:x.opn=true:=by rfl)(h4:n*esz<=x.size:=by simp)(h5:(if b ∈ M then max x.size x.fzn else x.fzn)<=z:=by decide)(h0:0<esz:=by decide)(hr:∀i j,i<n->j<esz->x.get (i*esz+j)=row i j:=by intro i j h;simp at h)(hc:∀i j,i<n->j<esz->(row i j).pu 3=true:=by intro i j h;simp at h):ey r M H b (aE ty esz n z row):= .rows hx h1 h2 h3 h4 h5 h0 hr hc
theorem ey.r1{r:Nat->Option Nat}{M:List Nat}{H:AH}{b ty esz n z:Nat}{row:Nat->Nat->AV}{x:AB}(hx:H.at b=some x:=by simp only[go_sem,simprocAttr];rfl)(h1:x.ty=ty:=by rfl)(h2:x.esz=esz:=by rfl)(h3:x.opn=true:=by rfl)(h4:n*esz<=x.size:=by decide)(h5:(if b ∈ M then max x.size x.fzn else x.fzn)<=z:=by decide)(h0:0<esz:=by decide)(hr:∀i j,i<n->j<esz->x.get (i*esz+j)=row i j:=by intro i j h;simp at h)(hc:∀i j,i<n->j<esz->(row i j).pu 3=true:=by intro i j h;simp at h):ey r M H b (aE ty esz n z row):= .rows hx h1 h2 h3 h4 h5 h0 hr hc
end Go.Proofs.YthehakngpbjgjaaGreat
namespace Go.Proofs.YthehakngpbjgjaaGreat
open Go.RowKit
inductive BT where
 |lf (k:Nat) (F:AF)
 |nd (k:Nat) (l r:BT)
def BT.get:BT->FuncId->Option AF
 |.lf k F,f=>bif Nat.beq k f then some F else none
 |.nd k l r,f=>bif Nat.ble k f then r.get f else l.get f
def BT.ok(P:Program):BT->Prop
 |.lf k F=>ae P (aa P k) k=some F
 |.nd _ l r=>l.ok P/\r.ok P
theorem BT.tab{P:Program}:∀{t:BT},t.ok P->gC P t.get
 |.lf k F,h,f,F',hF=>by
  unfold BT.get at hF
  cases hk:Nat.beq k f with
  |false=>rw[hk] at hF;cases hF
  |true=>
   rw[hk] at hF
   cases hF
   have:=Nat.eq_of_beq_eq_true hk
   subst this
   exact⟨_,h⟩
 |.nd k l r,h,f,F',hF=>by
  unfold BT.get at hF
  cases hk:Nat.ble k f with
  |false=>rw[hk] at hF;exact BT.tab h.1 f F' hF
  |true=>rw[hk] at hF;exact BT.tab h.2 f F' hF
def AH.addOb(H:AH)(N:Nat->Option OB):AH:={H with ob:=λr=>match H.ob r with
 |some x=>some x
 |none=>N r}
theorem fy:∀(l:List cN) (H:AH),(du H l).2.ob=H.ob
 |[],_=>rfl
 |.v x::l,H=>fy l H
 |.o ty esz n z row::l,H=>fy l (H.new (aE ty esz n z row))
theorem i3:∀(rs:List RT) (H:AH),(a7 H rs).2.ob=H.ob
 |[],_=>rfl
 |.v x::rs,H=>i3 rs H
 |.o ty esz n z row::rs,H=>rfl
 |.a l::rs,H=>fy l H
theorem HR.addOb{B:Nat}{σ:Sg}{H:AH}{w:World}(h:HR B σ H w){ob N:Nat->Option OB}(he:H.ob=ob)(hN:∀r x,N r=some x->Sl B w r x)(hc:∀b d c o,az H.mp b=some d->σ.nm b=some (c,o)->N c=none)(hni:∀r y,N r≠some (.it y)):HR B σ (H.addOb N) w:=
 ⟨h.new,h.newl,h.old,h.small,h.hB,h.nil,h.nilp,h.blk,h.szs,h.inj,h.frz,⟨λr x hx=>by
  have hx:(match H.ob r with|some x=>some x|none=>N r)=some x:=hx
  split at hx
  ·rename_i y hy;cases hx;exact h.ob.o r x hy
  ·exact hN r x hx,λb d hb=>by
  obtain⟨c,es,clock,k1,k2,k3,k4,k5⟩:=h.ob.m b d hb
  refine⟨c,es,clock,k1,k2,k3,⟨?_,λr y hy=>?_⟩,k5⟩
  ·show(match H.ob c with|some x=>some x|none=>N c)=none
   rw[k4.1];exact hc b d c _ hb k1
  ·have hy:(match H.ob r with|some x=>some x|none=>N r)=some (.it y):=hy
   split at hy
   ·rename_i z hz;cases hy;exact k4.2 r y hz
   ·exact absurd hy (hni r y),h.ob.i⟩⟩
theorem Cv.ownb{M:List Nat}{H:AH}{b ty esz n z:Nat}{row:Nat->Nat->AV}(hx:H.at b=some (aE ty esz n z row))(hc:∀i j,i<n->j<esz->(row i j).cell=true)(hm:b ∈ M):Cv M H (.os b n) (.fs esz n row):=
 .os hm hx (Nat.le_refl _) (λi j _ hj=>a9 i j hj) hc
end Go.Proofs.YthehakngpbjgjaaGreat