/- A part of the proof of AllocateNeeds: EvS EvMh EvX EvU. No condition. -/
import Derived.Test.YteopfmnnhlhbmaaHn12
set_option linter.unusedSimpArgs false
set_option linter.unusedVariables false
set_option linter.constructorNameAsVariable false
set_option maxRecDepth 100000
set_option maxHeartbeats 4000000
namespace Go.Proofs.Yteopfmnnhlhbmaa
open Go.RowKit
/-! what follows an operation,closed till its value is there-/
def Bn(P:Program)(l:List AO)(e:Tr AV)(d:Option Nat)(Q:Tr AV->AH->Prop)(v:AV)(H:AH):Prop:=eF P l (cq e d v) H Q
theorem ya(P:Program)(l:List AO)(e:Tr AV)(d:Option Nat)(Q:Tr AV->AH->Prop)(v:AV)(H:AH):Bn P l e d Q v H=eF P l (cq e d v) H Q:=id rfl
theorem yr(P:Program)(e:Tr AV)(H:AH)(Q:Tr AV->AH->Prop):eF P [] e H Q=Q e H:=id rfl
def Pt(P:Program)(d:Option Nat)(k:AK)(l:List AO)(e:Tr AV)(H:AH)(Q:Tr AV->AH->Prop):Option Bool->Prop
 |some true=>gK P e H k (Bn P l e d Q)
 |some false=>eF P l (cq e d (.tup [])) H Q
 |none=>False
theorem yp(P:Program)(d:Option Nat)(k:AK)(l:List AO)(e:Tr AV)(H:AH)(Q:Tr AV->AH->Prop):Pt P d k l e H Q (some true)=gK P e H k (Bn P l e d Q):=id rfl
theorem vD(P:Program)(d:Option Nat)(k:AK)(l:List AO)(e:Tr AV)(H:AH)(Q:Tr AV->AH->Prop):Pt P d k l e H Q (some false)=eF P l (cq e d (.tup [])) H Q:=id rfl
theorem vH(P:Program)(d:Option Nat)(g:Option (Nat×Bool))(k:AK)(l:List AO)(e:Tr AV)(H:AH)(Q:Tr AV->AH->Prop):eF P (⟨d,g,k⟩::l) e H Q=Pt P d k l e H Q (dq e g):=by
 show(match dq e g with
  |some t=>(t=true->gK P e H k (Bn P l e d Q))/\(t=false->eF P l (cq e d (.tup [])) H Q)
  |none=>False)=_
 cases dq e g with
 |none=>rfl
 |some t=>cases t<;>simp[Pt]
def zq(r:Option (AV×AH))(Q:AV->AH->Prop):Prop:=match r with
  |some (v,H')=>Q v H'
  |none=>False
theorem sZ(v:AV)(H:AH)(Q:AV->AH->Prop):zq (some (v,H)) Q=Q v H:=id rfl
theorem s5(Q:AV->AH->Prop):zq none Q=False:=id rfl
theorem O4(P:Program)(e:Tr AV)(H:AH)(x:AP)(Q:AV->AH->Prop):gK P e H (.ap x) Q=zq (x.run e H) Q:=id rfl
def snA(neg:Bool)(H:AH)(Q:AV->AH->Prop):Option AV->Prop
 |some (.fs _ n _)=>∀t,(t=(!neg)->n=0)->Q (.b t) H
 |_=>False
theorem O1(P:Program)(e:Tr AV)(H:AH)(neg:Bool)(x:AX)(Q:AV->AH->Prop):gK P e H (.sn neg x) Q=snA neg H Q (x.ev e):=id rfl
theorem Ga(neg:Bool)(H:AH)(Q:AV->AH->Prop)(esz n:Nat)(row:Nat->Nat->AV):snA neg H Q (some (.fs esz n row))=∀t,(t=(!neg)->n=0)->Q (.b t) H:=rfl
theorem O3(P:Program)(e:Tr AV)(H:AH)(f:AX)(args:List AX)(Q:AV->AH->Prop):gK P e H (.cl f args) Q=match f.ev e,yG e args with
  |some (.f g first cap),some vs=>cN P g (first++vs++cap) H Q
  |_,_=>False:=id rfl
def sr(P:Program)(H0:AH)(m:Nat)(nc:Bool)(l:List (Nat×AO))(e:Tr AV)(d:Option Nat)(Q:Tr AV->AH->Prop)(v:AV)(H:AH):Prop:=ea P H0 m nc l (cq e d v) H Q
theorem yb(P:Program)(H0:AH)(m:Nat)(nc:Bool)(l:List (Nat×AO))(e:Tr AV)(d:Option Nat)(Q:Tr AV->AH->Prop)(v:AV)(H:AH):sr P H0 m nc l e d Q v H=ea P H0 m nc l (cq e d v) H Q:=id rfl
def tR(P:Program)(H0:AH)(m:Nat)(nc:Bool)(k:Nat)(l:List (Nat×AO))(e:Tr AV)(d:Option Nat)(Q:Tr AV->AH->Prop)(v:AV)(H:AH):Prop:=(k=3\/m<=H.low)/\ea P H0 m nc l (cq e d v) H Q
theorem vu(P:Program)(H0:AH)(m:Nat)(nc:Bool)(k:Nat)(l:List (Nat×AO))(e:Tr AV)(d:Option Nat)(Q:Tr AV->AH->Prop)(v:AV)(H:AH):tR P H0 m nc k l e d Q v H=((k=3\/m<=H.low)/\ea P H0 m nc l (cq e d v) H Q):=id rfl
theorem yu(P:Program)(H0:AH)(m:Nat)(nc:Bool)(e:Tr AV)(H:AH)(Q:Tr AV->AH->Prop):ea P H0 m nc [] e H Q=Q e H:=id rfl
def Pu(P:Program)(H0:AH)(m:Nat)(nc:Bool)(k:Nat)(d:Option Nat)(a:AK)(l:List (Nat×AO))(e:Tr AV)(H:AH)(Q:Tr AV->AH->Prop):Option Bool->Prop
 |some true=>if k=1 then iR H0 m nc e a/\gK P e H a (sr P H0 m nc l e d Q)
    else if k=2 then nB a=true/\gK P e H a (sr P H0 m nc l e d Q)
    else gK P e H a (tR P H0 m (nc&& !qA a) k l e d Q)
 |some false=>(k=0->m<=H.low)/\ea P H0 m nc l (cq e d (.tup [])) H Q
 |none=>False
theorem yq(P:Program)(H0:AH)(m:Nat)(nc:Bool)(k:Nat)(d:Option Nat)(a:AK)(l:List (Nat×AO))(e:Tr AV)(H:AH)(Q:Tr AV->AH->Prop):Pu P H0 m nc k d a l e H Q (some true)=if k=1 then iR H0 m nc e a/\gK P e H a (sr P H0 m nc l e d Q)
    else if k=2 then nB a=true/\gK P e H a (sr P H0 m nc l e d Q)
    else gK P e H a (tR P H0 m (nc&& !qA a) k l e d Q):=id rfl
theorem vE(P:Program)(H0:AH)(m:Nat)(nc:Bool)(k:Nat)(d:Option Nat)(a:AK)(l:List (Nat×AO))(e:Tr AV)(H:AH)(Q:Tr AV->AH->Prop):Pu P H0 m nc k d a l e H Q (some false)=((k=0->m<=H.low)/\ea P H0 m nc l (cq e d (.tup [])) H Q):=id rfl
theorem vI(P:Program)(H0:AH)(m:Nat)(nc:Bool)(k:Nat)(d:Option Nat)(g:Option (Nat×Bool))(a:AK)(l:List (Nat×AO))(e:Tr AV)(H:AH)(Q:Tr AV->AH->Prop):ea P H0 m nc ((k,⟨d,g,a⟩)::l) e H Q=Pu P H0 m nc k d a l e H Q (dq e g):=by
 show(match dq e g with
  |some t=>
   (t=true->if k=1 then iR H0 m nc e a/\gK P e H a (sr P H0 m nc l e d Q)
    else if k=2 then nB a=true/\gK P e H a (sr P H0 m nc l e d Q)
    else gK P e H a (tR P H0 m (nc&& !qA a) k l e d Q))/\
   (t=false->(k=0->m<=H.low)/\ea P H0 m nc l (cq e d (.tup [])) H Q)
  |none=>False)=_
 cases dq e g with
 |none=>rfl
 |some t=>cases t<;>simp[Pu]
def tQ(P:Program)(m:Nat)(T:AT)(e:Tr AV)(d:Option Nat)(Q:Tr AV->AH->Prop)(v:AV)(H:AH):Prop:=m<=H.low/\ef P m T (cq e d v) H Q
theorem vt(P:Program)(m:Nat)(T:AT)(e:Tr AV)(d:Option Nat)(Q:Tr AV->AH->Prop)(v:AV)(H:AH):tQ P m T e d Q v H=(m<=H.low/\ef P m T (cq e d v) H Q):=id rfl
theorem vF(P:Program)(m:Nat)(e:Tr AV)(H:AH)(Q:Tr AV->AH->Prop):ef P m .fin e H Q=Q e H:=id rfl
theorem sD(P:Program)(m:Nat)(e:Tr AV)(H:AH)(Q:Tr AV->AH->Prop):ef P m .none e H Q=True:=id rfl
def Ps(P:Program)(m:Nat)(d:Option Nat)(a:AK)(r:AT)(e:Tr AV)(H:AH)(Q:Tr AV->AH->Prop):Option Bool->Prop
 |some true=>gK P e H a (tQ P m r e d Q)
 |some false=>m<=H.low/\ef P m r (cq e d (.tup [])) H Q
 |none=>False
theorem yo(P:Program)(m:Nat)(d:Option Nat)(a:AK)(r:AT)(e:Tr AV)(H:AH)(Q:Tr AV->AH->Prop):Ps P m d a r e H Q (some true)=gK P e H a (tQ P m r e d Q):=id rfl
theorem vC(P:Program)(m:Nat)(d:Option Nat)(a:AK)(r:AT)(e:Tr AV)(H:AH)(Q:Tr AV->AH->Prop):Ps P m d a r e H Q (some false)=(m<=H.low/\ef P m r (cq e d (.tup [])) H Q):=id rfl
theorem vG(P:Program)(m:Nat)(d:Option Nat)(g:Option (Nat×Bool))(a:AK)(r more:AT)(e:Tr AV)(H:AH)(Q:Tr AV->AH->Prop):ef P m (.alt ⟨d,g,a⟩ r more) e H Q=(Ps P m d a r e H Q (dq e g)/\ef P m more e H Q):=by
 show((match dq e g with
   |some t=>(t=true->gK P e H a (tQ P m r e d Q))/\(t=false->m<=H.low/\ef P m r (cq e d (.tup [])) H Q)
   |none=>False)/\ef P m more e H Q)=_
 cases dq e g with
 |none=>rfl
 |some t=>cases t<;>simp[Ps]
theorem yS(H0:AH)(m:Nat)(nc:Bool)(e:Tr AV)(n:Nat)(row:Bool)(x:AX):iR H0 m nc e (.ap (.ld n row x))=match x.ev e with
  |some (.p b _)=>b<m/\(H0.at b).isSome=true
  |some (.fp _ _ _)=>nc=true
  |_=>False:=id rfl
theorem Gg(k:IntKind)(a b:Int):gf (binOp .lss 0 (.int k a) (.int k b))=some (.b (decide (a<b))):=by cases k<;>rfl
theorem Gh(k:IntKind)(a b:Int):gf (binOp .leq 0 (.int k a) (.int k b))=some (.b (decide (a<=b))):=by cases k<;>rfl
theorem Gi(k:IntKind)(a b:Int):gf (binOp .gtr 0 (.int k a) (.int k b))=some (.b (decide (b<a))):=by cases k<;>rfl
theorem Gj(k:IntKind)(a b:Int):gf (binOp .geq 0 (.int k a) (.int k b))=some (.b (decide (b<=a))):=by cases k<;>rfl
theorem Gk(k:IntKind)(a b:Int):gf (binOp .eql 0 (.int k a) (.int k b))=some (.b (decide (a=b))):=by
 cases k<;>(show some (AV.b (a==b))=_;congr)
theorem Gd(k:IntKind)(a b:Int):gf (binOp .neq 0 (.int k a) (.int k b))=some (.b (!decide (a=b))):=by
 cases k<;>(show some (AV.b (a != b))=_;congr)
theorem Gl(k:IntKind)(a b:Int):gf (binOp .add 0 (.int k a) (.int k b))=some (.n k (k.wrap (a+b))):=by cases k<;>rfl
theorem Gb(k:IntKind)(a b:Int):gf (binOp .sub 0 (.int k a) (.int k b))=some (.n k (k.wrap (a-b))):=by cases k<;>rfl
theorem Gf(k:IntKind)(a b:Int):gf (binOp .mul 0 (.int k a) (.int k b))=some (.n k (k.wrap (a*b))):=by cases k<;>rfl
theorem Gc(b:Bool):gf (Op.unary .not (.bool b))=some (.b (!b)):=rfl
theorem aU{x:Int}(h: -9223372036854775808<=x/\x<=9223372036854775807):IntKind.wrap .i64 x=x:=by
 rw[IntKind.wrap_i64];omega
theorem z8{x:Int}(h:0<=x/\x<=4294967295):IntKind.wrap .u32 x=x:=by
 rw[IntKind.wrap_u32];omega
theorem uw(e:Tr AV):dq e none=some true:=rfl
theorem Wk.arg(n:Nat)(args:List AV)(H:AH)(h:args.length<100000):Wk n (eB args) H (aE (bI 0 args)) H:=by
 intro B σ a w hE hH
 refine⟨σ,⟨⟨hE.er.df,λt v hv=>hE.er.get t v ?_⟩,hE.sz,hE.sm⟩,hH,.refl _ _⟩
 rw[mD _ _ _ (by omega)] at hv
 rw[fh _ _ (by omega)]
 split at hv
 ·simpa using hv
 ·cases hv
theorem oq{x:AB}{i:Nat}(h:i<1000000)(v:AV)(j:Nat):(x.set i v).get j=if j=i then v else x.get j:=AB.get_set x i j v (by omega)
theorem jz(n esz ty:Nat)(d:Nat->AV)(l:List AV)(o lv:Bool)(z i:Nat)(h:l.length<1000000):AB.get ⟨n,esz,ty,d,eB l,o,lv,z⟩ i=l[i]?.getD (d i):=by
 simp only[AB.get]
 rw[fh l i (by omega)]
theorem Bq(n esz ty:Nat)(d:Nat->AV)(o lv:Bool)(z i:Nat):AB.get ⟨n,esz,ty,d,.nil,o,lv,z⟩ i=d i:=id rfl
theorem Wk.nil{n:Nat}{e:Tr AV}{H:AH}(t esz ty:Nat)(ht:e.get t=some .sl0)(hs:t<1000000)(hn:H.next<1000000):Wk n e H (cq e (some t) (.os H.next 0)) (H.new (gh esz ty)):=by
 intro B σ a w hE hH
 have hle:=σ.le_extNil H.next
 refine⟨σ.extNil H.next,⟨⟨hE.er.df,λt' v hv=>?_⟩,hE.sz,hE.sm⟩,hH.placeNil rfl (λ_ _ h=>h) (by omega) rfl rfl rfl rfl,.of_eq rfl⟩
 simp only[cq] at hv
 rw[Tr.get_set 48 e t _ t' (by omega)] at hv
 by_cases h:t'=t
 ·subst h
  rw[if_pos rfl] at hv
  cases hv
  have:=hE.er.get t' _ ht
  generalize a.tmps.getD t' undef=u at this
  cases this
  exact .os0 (σ:=σ.extNil H.next) (Or.inl rfl) _
 ·rw[if_neg h] at hv
  exact(hE.er.get t' v hv).mono hle
theorem fm(ty esz n z:Nat)(row:Nat->Nat->AV):(aH ty esz n z row).size=n*esz:=id rfl
theorem xc(ty esz n z:Nat)(row:Nat->Nat->AV):(aH ty esz n z row).esz=esz:=id rfl
theorem Al(ty esz n z:Nat)(row:Nat->Nat->AV):(aH ty esz n z row).ty=ty:=id rfl
theorem w8(ty esz n z:Nat)(row:Nat->Nat->AV):(aH ty esz n z row).opn=true:=id rfl
theorem uG(ty esz n z:Nat)(row:Nat->Nat->AV):(aH ty esz n z row).live=true:=id rfl
theorem xa(ty esz n z:Nat)(row:Nat->Nat->AV):(aH ty esz n z row).fzn=z:=id rfl
theorem uS(esz ty:Nat):(gh esz ty).size=0:=id rfl
theorem xz(esz ty:Nat):(gh esz ty).esz=esz:=id rfl
theorem A1(esz ty:Nat):(gh esz ty).ty=ty:=id rfl
theorem xw(esz ty:Nat):(gh esz ty).opn=true:=id rfl
theorem uT(esz ty:Nat):(gh esz ty).live=true:=id rfl
theorem xy(esz ty:Nat):(gh esz ty).fzn=0:=id rfl
theorem zz{l:List AB}(h:l.length<1000000)(x:AB)(b:Nat):(aN (x::l)).at b=if b=l.length then(if x.live then some x else none) else(aN l).at b:=by
 rw[ik,iW (by rw[ag];exact h),ag]
theorem lV:∀l:List AB,(aN l).low=2^40
 |[]=>rfl
 |x::l=>lV l
theorem vg(esz ty:Nat)(l:List AV):(bg esz ty l).size=l.length:=id rfl
theorem xU(esz ty:Nat)(l:List AV):(bg esz ty l).esz=esz:=id rfl
theorem Bc(esz ty:Nat)(l:List AV):(bg esz ty l).ty=ty:=id rfl
theorem xS(esz ty:Nat)(l:List AV):(bg esz ty l).opn=false:=id rfl
theorem vh(esz ty:Nat)(l:List AV):(bg esz ty l).live=true:=id rfl
theorem xT(esz ty:Nat)(l:List AV):(bg esz ty l).fzn=0:=id rfl
theorem OT(x:Bool):AV.one (.b x)=true:=id rfl
theorem BU(x:Bool):AV.cells (.b x)=[.b x]:=id rfl
theorem OQ(k:IntKind)(x:Int):AV.one (.n k x)=true:=id rfl
theorem BP(k:IntKind)(x:Int):AV.cells (.n k x)=[.n k x]:=id rfl
theorem OO(x:ByteArray):AV.one (.s x)=true:=id rfl
theorem BN(x:ByteArray):AV.cells (.s x)=[.s x]:=id rfl
theorem GD:AV.one (.p0)=true:=id rfl
theorem zg:AV.cells (.p0)=[.p0]:=id rfl
theorem OP(b o:Nat):AV.one (.p b o)=true:=id rfl
theorem BO(b o:Nat):AV.cells (.p b o)=[.p b o]:=id rfl
theorem AN:AV.one (.sl0)=true:=id rfl
theorem vS:AV.cells (.sl0)=[.sl0]:=id rfl
theorem GC(b o l c:Nat):AV.one (.sl b o l c)=true:=id rfl
theorem zf(b o l c:Nat):AV.cells (.sl b o l c)=[.sl b o l c]:=id rfl
theorem GI:AV.one (.f0)=true:=id rfl
theorem zk:AV.cells (.f0)=[.f0]:=id rfl
theorem OS(g:FuncId)(l1 l2:List AV):AV.one (.f g l1 l2)=true:=id rfl
theorem BQ(g:FuncId)(l1 l2:List AV):AV.cells (.f g l1 l2)=[.f g l1 l2]:=id rfl
theorem GJ(v:Value):AV.one (.cv v)=true:=id rfl
theorem zl(v:Value):AV.cells (.cv v)=[.cv v]:=id rfl
theorem GG(z n:Nat)(r:Nat->Nat->AV):AV.one (.fs z n r)=true:=id rfl
theorem zi(z n:Nat)(r:Nat->Nat->AV):AV.cells (.fs z n r)=[.fs z n r]:=id rfl
theorem GH(z:Nat)(r:Nat->AV)(j:Nat):AV.one (.fp z r j)=true:=id rfl
theorem zj(z:Nat)(r:Nat->AV)(j:Nat):AV.cells (.fp z r j)=[.fp z r j]:=id rfl
theorem GF(b n:Nat):AV.one (.os b n)=true:=id rfl
theorem zh(b n:Nat):AV.cells (.os b n)=[.os b n]:=id rfl
theorem vT(l:List AV):AV.cells (.agg l)=l:=id rfl
def AB.fr(x:AB):AB:={x with fzn:=max x.size x.fzn}
theorem zw{H:AH}{b:Nat}(h:b<1000000)(b':Nat):(H.mark b).at b'=if b'=b then(H.at b).map AB.fr else H.at b':=zx h b'
theorem Hk(x:AB)(i:Nat):x.fr.get i=x.get i:=id rfl
theorem Bt(x:AB):x.fr.size=x.size:=id rfl
theorem Hm(x:AB):x.fr.esz=x.esz:=id rfl
theorem O6(x:AB):x.fr.ty=x.ty:=id rfl
theorem Hj(x:AB):x.fr.opn=x.opn:=id rfl
theorem Bu(x:AB):x.fr.live=x.live:=id rfl
theorem Hl(x:AB):x.fr.fzn=max x.size x.fzn:=id rfl
def sb(esz ty:Nat)(l:List AV):AB:=⟨l.length,esz,ty,λ_=> .u,eB l,false,true,l.length⟩
theorem ve(esz ty:Nat)(l:List AV):(sb esz ty l).size=l.length:=id rfl
theorem xR(esz ty:Nat)(l:List AV):(sb esz ty l).esz=esz:=id rfl
theorem Bb(esz ty:Nat)(l:List AV):(sb esz ty l).ty=ty:=id rfl
theorem xO(esz ty:Nat)(l:List AV):(sb esz ty l).opn=false:=id rfl
theorem vf(esz ty:Nat)(l:List AV):(sb esz ty l).live=true:=id rfl
theorem xQ(esz ty:Nat)(l:List AV):(sb esz ty l).fzn=l.length:=id rfl
theorem xP(esz ty:Nat)(l:List AV)(i:Nat)(h:l.length<1000000):(sb esz ty l).get i=l[i]?.getD .u:=jr esz ty l i h
theorem kA.get{M:List Nat}{H:AH}:∀{l l':List AV},kA M H l l'->l.length=l'.length/\∀(i:Nat) (v v':AV),l[i]? =some v->l'[i]? =some v'->Cv M H v v'
 |[],[],_=>⟨rfl,λi v v' h=>by simp at h⟩
 |[],_::_,h=>h.elim
 |_::_,[],h=>h.elim
 |x::l,x'::l',h=>by
  obtain⟨h1,h2⟩:=h
  obtain⟨e1,e2⟩:=h2.get
  refine⟨by simp[e1],λi v v' hv hv'=>?_⟩
  cases i with
  |zero=>simp at hv hv';subst hv;subst hv';exact h1
  |succ i=>exact e2 i v v' (by simpa using hv) (by simpa using hv')
theorem Cv.fn{M:List Nat}{H:AH}{g:FuncId}{l1 l2 l1' l2':List AV}(h1:kA M H l1 l1')(h2:kA M H l2 l2'):Cv M H (.f g l1 l2) (.f g l1' l2'):= .f h1.get.1 h2.get.1 h1.get.2 h2.get.2
theorem Cv.box{M:List Nat}{H:AH}{b:Nat}{x:AB}{l:List AV}(hm:M.contains b=true)(hx:H.at b=some x)(hs:x.size=l.length)(h0:0<l.length)(hg:∀j,j<l.length->x.get j=l[j]?.getD .u)(hc:l.all AV.cell=true):Cv M H (.p b 0) (.fp l.length (λj=>l[j]?.getD .u) 0):=
 .p (o:=0) (j:=0) (by simpa using hm) hx (by omega) (by omega) (λq hq=>by rw[Nat.zero_add];exact hg q hq) (λq hq=>by
  rw[List.getElem?_eq_getElem hq]
  exact List.all_eq_true.1 hc _ (List.getElem_mem hq))
theorem app_size(x:AB)(o:Nat)(s:cg):(x.app o s).size=o+s.len:=AB.app_size x o s
theorem um(x:AB)(o:Nat)(s:cg):(x.app o s).esz=x.esz:=(AB.app_rest x o s).1
theorem zD(x:AB)(o:Nat)(s:cg):(x.app o s).ty=x.ty:=(AB.app_rest x o s).2.1
theorem ul(x:AB)(o:Nat)(s:cg):(x.app o s).opn=true:=(AB.app_rest x o s).2.2.1
theorem zE(x:AB)(o:Nat)(s:cg):(x.app o s).live=true:=(AB.app_rest x o s).2.2.2.1
theorem cz(x:AB)(o:Nat)(s:cg):(x.app o s).fzn=x.fzn:=(AB.app_rest x o s).2.2.2.2
theorem kw(x:AB)(n esz:Nat)(l:List AV)(hl:l.length=esz)(hlim:(n+1)*esz<2^40)(i j:Nat)(hi:i<n+1)(hj:j<esz):(x.app (n*esz) (.li l)).get (i*esz+j)=if i<n then x.get (i*esz+j) else l[j]?.getD .u:=by
 have h1:=fc hi hj
 rw[Nat.add_mul] at hlim h1
 rw[AB.app_get _ _ _ _ (by simp only[cg.len,hl];omega) (by simp only[cg.len,hl];omega)]
 by_cases h:i<n
 ·have:=fc h hj
  rw[if_neg (by omega),if_pos h]
 ·have:i=n:=by omega
  subst this
  rw[if_pos (by omega),if_neg (by omega)]
  simp only[cg.at]
  congr 2
  omega
theorem wT{ty esz n z:Nat}{row row2:Nat->Nat->AV}{l:List AV}(hl:l.length=esz)(hlim:(n+1)*esz<2^40)(h1:∀i j,i<n->j<esz->row2 i j=row i j)(h2:∀j,j<esz->row2 n j=l[j]?.getD .u):
  ∀i j,i<n+1->j<esz->((aH ty esz n z row).app (n*esz) (.li l)).get (i*esz+j)=row2 i j:=by
 intro i j hi hj
 rw[kw _ n esz l hl hlim i j hi hj]
 by_cases h:i<n
 ·rw[if_pos h,aL i j hj,h1 i j h hj]
 ·have:i=n:=by omega
  subst this
  rw[if_neg h,h2 j hj]
theorem cZ.rows{r:Nat->Option Nat}{M:List Nat}{H:AH}{b ty esz n z:Nat}{row:Nat->Nat->AV}{x:AB}(hx:H.at b=some x)(h1:x.ty=ty)(h2:x.esz=esz)(h3:x.opn=true)(h4:n*esz<=x.size)(h5:(if b ∈ M then max x.size x.fzn else x.fzn)<=z)(h0:0<esz)
  (hr:∀i j,i<n->j<esz->x.get (i*esz+j)=row i j) (hc:∀i j,i<n->j<esz->(row i j).pu 3=true):cZ r M H b (aH ty esz n z row):=by
 refine⟨x,hx,h1.symm,h2.symm,h3.symm,rfl,.inr ⟨h3,h4⟩,h5,λi hi=>?_⟩
 have hi':i<n*esz:=hi
 have hq:i / esz<n:=Nat.div_lt_of_lt_mul (by rw[Nat.mul_comm];exact hi')
 have hm:i%esz<esz:=Nat.mod_lt _ h0
 have hdm:i / esz*esz+i%esz=i:=by
  have:=Nat.div_add_mod i esz
  rw[Nat.mul_comm] at this
  exact this
 have e1:(aH ty esz n z row).get i=row (i / esz) (i%esz):=rfl
 have e2:=hr _ _ hq hm
 rw[hdm] at e2
 rw[e1,e2]
 exact .cv (.rfl (hc _ _ hq hm))
theorem uO(v:AV):bB [v]=v:=id rfl
theorem uN(v v':AV)(l:List AV):bB (v::v'::l)= .tup (v::v'::l):=id rfl
theorem Po:∀(k:Nat) (v:AV),v.pu k=true->v.pu (k+1)=true:=by
 intro k
 induction k with
 |zero=>intro v h;cases v<;>simp_all [AV.pu]
 |succ k ih=>
  intro v h
  cases v with
  |f g l1 l2=>
   simp only[AV.pu,Bool.and_eq_true,List.all_eq_true] at h ⊢
   exact⟨λx hx=>ih x (h.1 x hx),λx hx=>ih x (h.2 x hx)⟩
  |agg l=>simp only[AV.pu,List.all_eq_true] at h ⊢;exact λx hx=>ih x (h x hx)
  |tup l=>simp only[AV.pu,List.all_eq_true] at h ⊢;exact λx hx=>ih x (h x hx)
  |_=>simp_all [AV.pu]
theorem dS.nil{H:AH}:dS [] [] H:=trivial
theorem dS.v{H:AH}{x v:AV}{rs:List RT}{l:List AV}(h:v=x)(hp:x.pu 3=true)(h':dS rs l H):dS (.v x::rs) (v::l) H:=⟨⟨h,hp⟩,h'⟩
theorem dS.o0{H:AH}{ty esz z:Nat}{row:Nat->Nat->AV}{rs:List RT}{l:List AV}(ha:po rs=true)(h':dS rs l H):dS (.o ty esz 0 z row::rs) (.sl0::l) H:=⟨.inl ⟨rfl,rfl⟩,ha,h'⟩
theorem dS.o{H:AH}{ty esz n z b:Nat}{x:AB}{row:Nat->Nat->AV}{rs:List RT}{l:List AV}(hx:H.at b=some x)(h1:x.ty=ty)(h2:x.esz=esz)(h3:x.opn=true)(h0:0<esz)(h4:n*esz<=x.size)(h5:x.fzn<=z)
  (hr:∀i j,i<n->j<esz->x.get (i*esz+j)=row i j) (hc:∀i j,i<n->j<esz->(row i j).cell=true) (ha:po rs=true) (h':dS rs l H):dS (.o ty esz n z row::rs) (.os b n::l) H:=
 ⟨.inr ⟨b,rfl,by simp,x,hx,h1,h2,h0,h3,h4,h5,hr,hc⟩,ha,h'⟩
theorem dS.a{H:AH}{c:List eK}{vs:List AV}{rs:List RT}{l:List AV}(h0:c.length<=8)(h:rn H [] c vs)(ha:po rs=true)(h':dS rs l H):dS (.a c::rs) (.agg vs::l) H:=⟨⟨h0,vs,rfl,h⟩,ha,h'⟩
theorem rn.nil{H:AH}{u:List Nat}:rn H u [] []:=trivial
theorem rn.v{H:AH}{u:List Nat}{x v:AV}{rs:List eK}{l:List AV}(h:v=x)(hp:x.pu 3=true)(h':rn H u rs l):rn H u (.v x::rs) (v::l):=⟨⟨h,hp⟩,h'⟩
theorem rn.o0{H:AH}{u:List Nat}{ty esz z:Nat}{row:Nat->Nat->AV}{rs:List eK}{l:List AV}(h':rn H u rs l):rn H u (.o ty esz 0 z row::rs) (.sl0::l):=⟨.inl ⟨rfl,rfl⟩,h'⟩
theorem rn.o{H:AH}{u:List Nat}{ty esz n z b:Nat}{x:AB}{row:Nat->Nat->AV}{rs:List eK}{l:List AV}(hx:H.at b=some x)(hu:u.contains b=false)(h1:x.ty=ty)(h2:x.esz=esz)(h3:x.opn=true)(h0:0<esz)(h4:n*esz<=x.size)(h5:x.fzn<=z)
  (hr:∀i j,i<n->j<esz->x.get (i*esz+j)=row i j) (hc:∀i j,i<n->j<esz->(row i j).cell=true) (h':rn H (b::u) rs l):rn H u (.o ty esz n z row::rs) (.os b n::l):=
 ⟨.inr ⟨b,rfl,by simpa using hu,x,hx,h1,h2,h0,h3,h4,h5,hr,hc⟩,h'⟩
theorem mE(x:AB)(o:Nat)(l:List AV)(i:Nat)(h:o+l.length<1000000000)(hi:i<o+l.length):(x.app o (.li l)).get i=if o<=i then l[i-o]?.getD .u else x.get i:=AB.app_get x o (.li l) i (by simp only[cg.len];omega) hi
theorem kA.nil{M:List Nat}{H:AH}:kA M H [] []:=trivial
theorem kA.cons{M:List Nat}{H:AH}{v v2:AV}{l l2:List AV}(h:Cv M H v v2)(h':kA M H l l2):kA M H (v::l) (v2::l2):=⟨h,h'⟩
theorem kA.same{M:List Nat}{H:AH}:∀{l:List AV},l.all (AV.pu 3)=true->kA M H l l
 |[],_=>trivial
 |v::l,h=>by
  simp only[List.all_cons,Bool.and_eq_true] at h
  exact⟨.rfl h.1,kA.same h.2⟩
theorem bJ{v x:AV}{H:AH}(h:v=x)(hp:x.pu 3=true):∃l1,v=bB l1/\dS [.v x] l1 H:=⟨[v],rfl,⟨h,hp⟩,trivial⟩
theorem kZ{a b:AV}{l:List AV}{rs:List RT}{H:AH}(h:dS rs (a::b::l) H):∃l1,AV.tup (a::b::l)=bB l1/\dS rs l1 H:=⟨a::b::l,rfl,h⟩
def AV.sc:Nat->AV->Bool
 |_,.b _|_,.n _ _|_,.s _|_,.p0|_,.sl0|_,.f0|_,.cv _=>true
 |k+1,.agg l=>l.all (AV.sc k)
 |k+1,.tup l=>l.all (AV.sc k)
 |_,_=>false
theorem VR.sc{σ σ2:Sg}:∀(k:Nat) {v:AV} {x:Value},v.sc k=true->VR σ v x->VR σ2 v x
 |k,v,x,hp,h=>by
  cases h with
  |b x=>exact .b x
  |n k x=>exact .n k x
  |s x=>exact .s x
  |p0=>exact .p0
  |sl0 a=>exact .sl0 a
  |f0=>exact .f0
  |cv _ hv=>exact .cv _ hv
  |agg hl hh=>
   cases k with
   |zero=>simp[AV.sc] at hp
   |succ k=>
    simp only[AV.sc,List.all_eq_true] at hp
    exact .agg hl (λi v hv=>VR.sc k (hp v (List.mem_of_getElem? hv)) (hh i v hv))
  |tup hl hh=>
   cases k with
   |zero=>simp[AV.sc] at hp
   |succ k=>
    simp only[AV.sc,List.all_eq_true] at hp
    exact .tup hl (λi v hv=>VR.sc k (hp v (List.mem_of_getElem? hv)) (hh i v hv))
  |_=>cases k<;>simp[AV.sc] at hp
theorem Oo:∀(k:Nat) (v:AV),v.sc k=true->v.pu k=true:=by
 intro k
 induction k with
 |zero=>intro v h;cases v<;>simp_all [AV.sc,AV.pu]
 |succ k ih=>
  intro v h
  cases v with
  |agg l=>simp only[AV.pu,AV.sc,List.all_eq_true] at h ⊢;exact λx hx=>ih x (h x hx)
  |tup l=>simp only[AV.pu,AV.sc,List.all_eq_true] at h ⊢;exact λx hx=>ih x (h x hx)
  |_=>simp_all [AV.pu,AV.sc]
theorem l6{P:Program}(hm:P.follows .mixedOrders=true){T:FuncId->Option AF}(hT:zR P T){lf k:Nat}{f:FuncId}{args:List AV}{v:AV}{H':AH}(hr:kE T lf k f args ⟨.nil,0,2^40,λ_=>none⟩=some (v,H'))(hv:v.sc 3=true):bR P f args [.v v]:=by
 refine⟨(ow 0 hm hT lf k).fn hr,λφ w args' hφ ha=>?_⟩
 refine Calls.mono ((ow w.heap.size hm hT lf k).run hr _ w args' (HR.empty w hφ) ha) (λe w' hp=>?_)
 cases e with
 |panicked c=>exact hp.elim
 |outgrown=>exact hp.elim
 |returned u=>
  obtain⟨σ',q1,q2,q3⟩:=hp
  have hw:pE φ w':=λc fs hf=>by
   obtain⟨cs,t,fr,h1,h2⟩:=hφ c fs hf
   exact⟨cs,t,fr,by rw[q3.bel.block c (Array.getElem?_eq_some_iff.1 h1).1];exact h1,h2⟩
  refine⟨v,⟨.nil,0,2^40,λ_=>none⟩,Sg.data φ,⟨[v],rfl,⟨rfl,Oo 3 v hv⟩,trivial⟩,q1.sc 3 hv,?_,q3.bel,λ_ _=>rfl⟩
  exact HR.emptyAt w' q3.bel.size hw
def AH.setLow(H:AH)(l:Nat):AH:={H with low:=l}
theorem vV(H:AH)(l b:Nat):(H.setLow l).at b=H.at b:=id rfl
theorem ah(H:AH)(l:Nat):(H.setLow l).next=H.next:=id rfl
theorem sd(H:AH)(l:Nat):(H.setLow l).low=l:=id rfl
theorem mR(H:AH)(l l':Nat):(H.setLow l).setLow l'=H.setLow l':=id rfl
theorem xW(H:AH)(b:Nat):(H.mark b).low=H.low:=AH.mark_low H b
theorem GA.mix1{P:Program}{n:Nat}{hints:bz}{e:Tr AV}{H:AH}{Q:AE->Tr AV->AH->Prop}(hm:P.follows .mixedOrders=true){l:List (Nat×AO)}(h:ea P (H.setLow (2^40)) H.next true l e (H.setLow (2^40)) (λe' H'=>Q .normal e' (H'.setLow (min H.low H'.low)))):GA P n hints (.mix l) e H Q:=
 GA.mix hm H.next (by rw[Nat.sub_self];trivial) h
theorem GA.mixm{P:Program}{n:Nat}{hints:bz}{e:Tr AV}{H:AH}{Q:AE->Tr AV->AH->Prop}(hm:P.follows .mixedOrders=true)(m:Nat){l:List (Nat×AO)}(htop:eC H m (H.next-m))(h:ea P (H.setLow (2^40)) m true l e (H.setLow (2^40)) (λe' H'=>Q .normal e' (H'.setLow (min H.low H'.low)))):GA P n hints (.mix l) e H Q:=
 GA.mix hm m htop h
theorem GA.frkm{P:Program}{n:Nat}{hints:bz}{e:Tr AV}{H:AH}{Q:AE->Tr AV->AH->Prop}(hm:P.follows .mixedOrders=true)(m:Nat){l:List (Nat×AO)}{T:AT}(htop:eC H m (H.next-m))(h:ea P (H.setLow (2^40)) m true l e (H.setLow (2^40)) (λe' H'=>ef P m T e' H' (λe' H'=>Q .normal e' (H'.setLow (min H.low H'.low))))):GA P n hints (.frk l T) e H Q:=
 GA.frk hm m htop h
theorem GA.cut{P:Program}{n:Nat}{hints:bz}{e:Tr AV}{H:AH}{Q:AE->Tr AV->AH->Prop}{x y:AC}(e2:Tr AV)(H2:AH)(h:GA P n hints x e H (eT (λe' H'=>Wk n e' H' e2 H2) (λ_ _ _=>False)))(h':GA P n hints y e2 H2 Q):GA P n hints (.seq x y) e H Q:=
 GA.seq (h.mono λa e' H' hq=>by
  cases a with
  |normal=>exact GA.wk hq h'
  |exit i=>exact hq.elim
  |ret=>exact hq.elim)
theorem cZ.lst{r:Nat->Option Nat}{M:List Nat}{H:AH}{b esz ty:Nat}{l:List AV}(hx:H.at b=some (bg esz ty l))(hM:M.contains b=false)(hl:l.length<1000000)(hp:l.all (AV.pu 3)=true):cZ r M H b (bg esz ty l):=by
 refine⟨bg esz ty l,hx,rfl,rfl,rfl,rfl,.inl rfl,by rw[if_neg (by simpa using hM)];exact Nat.le_refl _,λi hi=>?_⟩
 have hi':i<l.length:=hi
 rw[jr esz ty l i hl,List.getElem?_eq_getElem hi']
 exact .cv (.rfl (List.all_eq_true.1 hp _ (List.getElem_mem hi')))
theorem cZ.keep{r:Nat->Option Nat}{M:List Nat}{H:AH}{b ty esz n z:Nat}{row:Nat->Nat->AV}(hx:H.at b=some (aH ty esz n z row))(hM:M.contains b=false)(h0:0<esz)(hc:∀i j,i<n->j<esz->(row i j).pu 3=true):cZ r M H b (aH ty esz n z row):=
 cZ.rows hx rfl rfl rfl (Nat.le_refl _) (by rw[if_neg (by simpa using hM)];exact Nat.le_refl _) h0 (λi j _ hj=>aL i j hj) hc
theorem bh.nil{r:Nat->Option Nat}{M:List Nat}{H:AH}:bh r M H [] []:=trivial
theorem bh.cons{r:Nat->Option Nat}{M:List Nat}{H:AH}{b:Nat}{ρ:List Nat}{x:AB}{bl:List AB}(h1:ρ.contains b=false)(h2:cZ r M H b x)(h3:bh r M H ρ bl):bh r M H (b::ρ) (x::bl):=⟨by simpa using h1,h2,h3⟩
def qV(P:Program)(n:Nat)(hints:bz)(cc:AX)(x y:AC)(e:Tr AV)(H:AH)(Q:AE->Tr AV->AH->Prop):Prop:=match cc.ev e with
 |some (.b t)=>(t=true->GA P n hints x e H Q)/\(t=false->GA P n hints y e H Q)
 |_=>False
theorem GA.cond'{P:Program}{n:Nat}{hints:bz}{e:Tr AV}{H:AH}{Q:AE->Tr AV->AH->Prop}{cc:AX}{x y:AC}(h:qV P n hints cc x y e H Q):GA P n hints (.cond cc x y) e H Q:=by
 unfold qV at h
 split at h
 ·rename_i t ht
  exact GA.cond ht h.1 h.2
 ·exact h.elim
theorem Wv.n{r:Nat->Option Nat}{M:List Nat}{H:AH}{k:IntKind}{a b:Int}(h:a=b):Wv r M H (.n k a) (.n k b):=by subst h;exact .cv (.rfl rfl)
theorem Wv.same{r:Nat->Option Nat}{M:List Nat}{H:AH}{v:AV}(h:v.pu 3=true):Wv r M H v v:= .cv (.rfl h)
theorem ab{a b:Prop}(h1:a)(h2:b):a/\b:=⟨h1,h2⟩
theorem aK{P:Program}(hm:P.follows .mixedOrders=true){f:FuncId}{hints:bz}{F:AF}(hF:bF P hints f=some F){args:List AV}(hlen:args.length<=F.nt/\F.nt<100000){Q:AV->AH->Prop}
  (h:GA P F.nt hints F.code (aE (bI 0 args)) (aN []) (gL F.res Q)):rv P f args Q:=
 Bp hm hF hlen.1 (GA.wk (Wk.arg _ _ _ (by omega)) h)
theorem Ot(x:Bool):gf (pure (.bool x))=some (.b x):=id rfl
theorem Oq(k:IntKind)(x:Int):gf (pure (.int k x))=some (.n k x):=id rfl
theorem O0(a b:Int):(a==b)=decide (a=b):=by rw[Bool.eq_iff_iff];simp
theorem RO(a b:Int):(a != b)= !decide (a=b):=by rw[bne,O0]
def RP:AC->Bool
 |.loop _=>false
 |.frk _ _=>false
 |.rf _ _ _ _ _=>false
 |_=>true
attribute [reducible] RP
def GS(P:Program)(n:Nat)(hints:bz)(ac:AC)(e:Tr AV)(H:AH)(Q:AE->Tr AV->AH->Prop):Prop:=match ac with
 |.skip=>Q .normal e H
 |.exit i=>Q (.exit i) e H
 |.ret=>Q .ret e H
 |.seq x y=>GA P n hints x e H (eT (λe' H'=>GA P n hints y e' H' Q) Q)
 |.cond c x y=>qV P n hints c x y e H Q
 |.block id x=>GA P n hints x e H (eI id Q)
 |.reg l=>eF P l e H (λe' H'=>Q .normal e' H')
 |.mix l=>ea P (H.setLow (2^40)) H.next true l e (H.setLow (2^40)) (λe' H'=>Q .normal e' (H'.setLow (min H.low H'.low)))
 |.loop _=>False
 |.frk _ _=>False
 |.rf _ _ _ _ _=>False
 |.die=>False
theorem GA.go{P:Program}{n:Nat}{hints:bz}{ac:AC}{e:Tr AV}{H:AH}{Q:AE->Tr AV->AH->Prop}(hm:P.follows .mixedOrders=true)(hg:RP ac=true)(h:GS P n hints ac e H Q):GA P n hints ac e H Q:=by
 cases ac with
 |skip=>exact GA.skip h
 |exit i=>exact GA.exit h
 |ret=>exact GA.ret h
 |seq x y=>exact GA.seq h
 |cond c x y=>exact GA.cond' h
 |block id x=>exact GA.block h
 |reg l=>exact GA.reg h
 |mix l=>exact GA.mix1 hm h
 |loop x=>cases hg
 |frk l T=>cases hg
 |rf _ _ _ _ _=>cases hg
 |die=>exact(show False from h).elim
section
variable {P:Program} {n:Nat} {hints:bz} {e:Tr AV} {H:AH} {Q:AE->Tr AV->AH->Prop}
theorem GS.skip:GS P n hints .skip e H Q=Q .normal e H:=id rfl
theorem GS.exit(i:Nat):GS P n hints (.exit i) e H Q=Q (.exit i) e H:=id rfl
theorem GS.ret:GS P n hints .ret e H Q=Q .ret e H:=id rfl
theorem GS.seq(x y:AC):GS P n hints (.seq x y) e H Q=GA P n hints x e H (eT (λe' H'=>GA P n hints y e' H' Q) Q):=id rfl
theorem GS.cond(c:AX)(x y:AC):GS P n hints (.cond c x y) e H Q=qV P n hints c x y e H Q:=id rfl
theorem GS.block(id:Nat)(x:AC):GS P n hints (.block id x) e H Q=GA P n hints x e H (eI id Q):=_root_.id rfl
theorem GS.reg(l:List AO):GS P n hints (.reg l) e H Q=eF P l e H (λe' H'=>Q .normal e' H'):=id rfl
theorem GS.mix(l:List (Nat×AO)):GS P n hints (.mix l) e H Q=ea P (H.setLow (2^40)) H.next true l e (H.setLow (2^40)) (λe' H'=>Q .normal e' (H'.setLow (min H.low H'.low))):=id rfl
end
/-! what every step uses-/
attribute [go_sem] GS.skip GS.exit GS.ret GS.seq GS.cond GS.block GS.reg GS.mix Ot Oq O0 RO eT eI xe gL qV yr vH yp vD yq vE yo vC beq_false beq_true O4
 O3 O1 Ga ya yu vI yb vu yS nB qA AP.kind vF sD vG vt eC dv
 AX.ev yG AP.run uw dq BC yO dC il gQ vT OT BU OQ BP OO BN GD zg OP
 BO AN vS GC zf GI zk OS BQ GJ zl GG zi GH zj GF zh
 List.cons_append List.nil_append List.append_nil Option.map_some Option.map_none List.all_cons List.all_nil List.length_cons List.length_nil
 Bool.and_true Bool.true_and Bool.and_self Gg Gh Gi Gj Gk Gd Gl Gb Gf Gc lx rE fo
 uB yw vp yK Ab xl tm AH.load AH.loadN iW az gS ay zy am zz ag
 lV zv Bf Bd Be xA Hx wV Bs xZ BB F7 AG if_true if_false ite_true ite_false true_and
 and_true forall_const false_implies implies_true Bool.true_eq_false Bool.false_eq_true Option.some.injEq AV.b.injEq exists_eq_left' exists_eq_left
 decide_eq_true_eq decide_eq_false_iff_not Bool.not_eq_true' Bool.not_eq_false' Option.isSome_some not_true_eq_false not_false_eq_true Int.not_lt
 Int.not_le oq jz Bq Ak List.getElem?_cons_zero List.getElem?_cons_succ Option.getD_some Int.toNat_natCast Nat.zero_add Nat.add_zero
 Nat.mul_one Nat.zero_le beq_iff_eq beq_eq_false_iff_ne ne_eq fm xc Al w8 uG xa app_size um zD ul
 zE cz AH.append cg.len im uO uN dB j6 b9 zw Hk Bt Hm O6 Hj Bu Hl
 AH.mark_next AH.mark_low true_or or_true Bool.not_false Bool.not_true Bool.and_false Nat.le_refl Nat.min_self beq_self_eq_true kH maxLen
 Bool.and_eq_true vV ah sd mR xW sZ s5 false_and and_false mh List.isEmpty_cons
 List.isEmpty_nil List.take_zero List.take_succ_cons List.drop_zero List.drop_succ_cons List.take_nil List.drop_nil uS xz A1
 xw uT xy List.length_append vg xU Bc xS vh xT jr ve xR Bb xO
 vf xQ xP
/-! arguments that are found-/
theorem F2{P:Prop}(h:P:=by first|trivial|exact Wv.same rfl|exact Wv.p rfl|exact Wv.os rfl|exact Wv.sl rfl|exact Wv.n (by omega)|exact Wv.n (aU (by omega))|exact Wv.n (by rw[aU (by omega)];omega)):P:=h
theorem bu{P:Prop}(h:P:=by first|exact True.intro|exact Wv.same rfl|exact Wv.p rfl|exact Wv.os rfl|exact Wv.sl rfl|exact Wv.n (by omega)|exact Wv.n (aU (by omega))|exact Wv.n (by rw[aU (by omega)];omega)):P:=h
theorem cZ.ls{r:Nat->Option Nat}{M:List Nat}{H:AH}{b esz ty:Nat}{l:List AV}(hx:H.at b=some (bg esz ty l):=by simp only[go_sem,simprocAttr]<;>rfl)(hM:M.contains b=false:=by rfl)(hl:l.length<1000000:=by simp)(hp:l.all (AV.pu 3)=true:=by rfl):cZ r M H b (bg esz ty l):= .lst hx hM hl hp
theorem cZ.k1{r:Nat->Option Nat}{M:List Nat}{H:AH}{b ty esz n z:Nat}{row:Nat->Nat->AV}(hx:H.at b=some (aH ty esz n z row):=by simp only[go_sem,simprocAttr])(hM:M.contains b=false:=by rfl)(h0:0<esz:=by decide)(hc:∀i j,i<n->j<esz->(row i j).pu 3=true:=by intro _ _ _ _;rfl):cZ r M H b (aH ty esz n z row):= .keep hx hM h0 hc
theorem cZ.k5{r:Nat->Option Nat}{M:List Nat}{H:AH}{b ty n z:Nat}{row:Nat->Nat->AV}(hx:H.at b=some (aH ty 5 n z row):=by simp only[go_sem,simprocAttr])(hM:M.contains b=false:=by rfl)(hc:∀i j,i<n->j<5->(row i j).pu 3=true:=by intro _ j _ hj;rcases(show j=0\/j=1\/j=2\/j=3\/j=4 by omega) with rfl|rfl|rfl|rfl|rfl<;>rfl):cZ r M H b (aH ty 5 n z row):= .keep hx hM (by decide) hc
theorem sC{P:Program}{g:FuncId}{a fa:AV}{H:AH}{rs:List RT}{Q:AV->AH->Prop}(h:bR P g [fa] rs)(hQ:Q (bB (dB (b9 H []) rs).1) (dB (b9 H []) rs).2)(ha:Cv [] H a fa:=by exact .rfl (by rfl))(hnx:H.next+9<2^40:=by simp only[go_sem,simprocAttr]):cN P g [a] H Q:=ao [] (.cons ha .nil) h hnx hQ
theorem Hi{P:Program}{g:FuncId}{a b fa fb:AV}{H:AH}{rs:List RT}{Q:AV->AH->Prop}(h:bR P g [fa,fb] rs)(hQ:Q (bB (dB (b9 H []) rs).1) (dB (b9 H []) rs).2)(ha:Cv [] H a fa:=by exact .rfl (by rfl))(hb:Cv [] H b fb:=by exact .rfl (by rfl))(hnx:H.next+9<2^40:=by simp only[go_sem,simprocAttr]):cN P g [a,b] H Q:=ao [] (.cons ha (.cons hb .nil)) h hnx hQ
theorem gqe{P:Program}{g:FuncId}{a b c d k:AV}{H:AH}{rs:List RT}{Q:AV->AH->Prop}(h:bR P g [a,b,c,d,k] rs)(hQ:Q (bB (dB (b9 H []) rs).1) (dB (b9 H []) rs).2)(ha:a.pu 3=true:=by rfl)(hb:b.pu 3=true:=by rfl)(hc:c.pu 3=true:=by rfl)(hd:d.pu 3=true:=by rfl)(hk:k.pu 3=true:=by rfl)(hnx:H.next+9<2^40:=by simp only[go_sem,simprocAttr]):cN P g [a,b,c,d,k] H Q:=ao [] (.cons (.rfl ha) (.cons (.rfl hb) (.cons (.rfl hc) (.cons (.rfl hd) (.cons (.rfl hk) .nil))))) h hnx hQ
theorem cZ.k2{r:Nat->Option Nat}{M:List Nat}{H:AH}{b ty esz n z:Nat}{row:Nat->Nat->AV}(hc:∀i j,i<n->j<esz->(row i j).pu 3=true)(hx:H.at b=some (aH ty esz n z row):=by simp only[go_sem,simprocAttr])(hM:M.contains b=false:=by rfl)(h0:0<esz:=by decide):cZ r M H b (aH ty esz n z row):= .keep hx hM h0 hc
theorem cZ.r0{r:Nat->Option Nat}{M:List Nat}{H:AH}{b ty esz n z:Nat}{row:Nat->Nat->AV}{x:AB}(hx:H.at b=some x:=by simp only[go_sem,simprocAttr];rfl)(h1:x.ty=ty:=by rfl)(h2:x.esz=esz:=by rfl)(h3:x.opn=true:=by rfl)(h4:n*esz<=x.size:=by simp)(h5:(if b ∈ M then max x.size x.fzn else x.fzn)<=z:=by decide)(h0:0<esz:=by decide)(hr:∀i j,i<n->j<esz->x.get (i*esz+j)=row i j:=by intro i j h;simp at h)(hc:∀i j,i<n->j<esz->(row i j).pu 3=true:=by intro i j h;simp at h):cZ r M H b (aH ty esz n z row):= .rows hx h1 h2 h3 h4 h5 h0 hr hc
theorem cZ.r1{r:Nat->Option Nat}{M:List Nat}{H:AH}{b ty esz n z:Nat}{row:Nat->Nat->AV}{x:AB}(hx:H.at b=some x:=by simp only[go_sem,simprocAttr];rfl)(h1:x.ty=ty:=by rfl)(h2:x.esz=esz:=by rfl)(h3:x.opn=true:=by rfl)(h4:n*esz<=x.size:=by decide)(h5:(if b ∈ M then max x.size x.fzn else x.fzn)<=z:=by decide)(h0:0<esz:=by decide)(hr:∀i j,i<n->j<esz->x.get (i*esz+j)=row i j:=by intro i j h;simp at h)(hc:∀i j,i<n->j<esz->(row i j).pu 3=true:=by intro i j h;simp at h):cZ r M H b (aH ty esz n z row):= .rows hx h1 h2 h3 h4 h5 h0 hr hc
end Go.Proofs.Yteopfmnnhlhbmaa
namespace Go.Proofs.Yteopfmnnhlhbmaa
open Go.RowKit
def eN(M:Nat->Option OB):Nat->Option OB:=λr=>match M r with
 |some (.mp x)=>some (.mp {x with own:=false})
 |_=>none
theorem oI{M:Nat->Option OB}{r:Nat}{x:dl}(h:M r=some (.mp x)):eN M r=some (.mp {x with own:=false}):=by unfold eN;rw[h]
theorem OR.lend{B:Nat}{ob:Nat->Option OB}{w:World}{B':Nat}(h:OR B ob w):OR B' (eN ob) w:=λr x hx=>by
 unfold eN at hx
 split at hx
 ·rename_i y hy
  cases hx
  obtain⟨_,es,c,h1,h2⟩:=h r _ hy
  exact⟨λh=>(by cases h),es,c,h1,⟨h2.cnt,h2.ent,h2.dom,h2.one,h2.stp⟩⟩
 ·cases hx
theorem z7.down{B B' r:Nat}{w:World}{x:OB}(h:z7 B' w r x)(hB:B<=w.heap.size/\B<=B'):z7 B w r x:=by
 cases x with
 |mp x=>exact⟨λq=>Nat.le_trans hB.2 (h.1 q),h.2⟩
 |it y=>exact⟨Nat.le_trans hB.2 h.1,h.2⟩
 |fix o=>exact⟨Nat.le_trans hB.2 h.1,h.2⟩
def AH.addOb(H:AH)(N:Nat->Option OB):AH:={H with ob:=λr=>match H.ob r with
 |some x=>some x
 |none=>N r}
def zW(P:Program)(f:FuncId)(M:Nat->Option OB)(args:List AV)(Q:AV->AH->Prop):Prop:=
 vJ P f/\∀(φ:Fz) (w:World) (args':Array Value),pE φ w->bw (Sg.data φ) args args'.toList->OR w.heap.size (eN M) w->Calls P f args' w (ky φ w Q)
theorem HR.emptyM{φ:Fz}{M:Nat->Option OB}(w:World)(hφ:∀c fs,φ c=some fs->∃cs t fr,w.heap[c]? =some (.cells cs t fr)/\fZ fs cs)(hM:OR w.heap.size (eN M) w):HR w.heap.size ⟨λ_=>none,λ_=>False,φ⟩ (ba (eN M) []) w:=by
 have h:=HR.empty w hφ
 exact⟨h.new,h.newl,h.old,h.small,h.hB,h.nil,h.nilp,h.blk,h.szs,h.inj,h.frz,hM⟩
theorem ym{P:Program}(hm:P.follows .mixedOrders=true){f:FuncId}{hints:bz}{F:AF}(hF:bF P hints f=some F){args:List AV}(hlen:args.length<=F.nt){Q:AV->AH->Prop}
  {M:Nat->Option OB} (h:GA P F.nt hints F.code (eB args) (ba (eN M) []) (gL F.res Q)):zW P f M args Q:=by
 unfold bF at hF
 obtain⟨fn,h1,hF⟩:=Option.bind_eq_some_iff.1 hF
 obtain⟨c,h3,hF⟩:=Option.bind_eq_some_iff.1 hF
 obtain⟨ac,h5,hF⟩:=Option.bind_eq_some_iff.1 hF
 obtain⟨r,h6,hF⟩:=Option.bind_eq_some_iff.1 hF
 split at hF
 rotate_left
 ·cases hF
 rename_i hq
 cases hF
 refine⟨⟨fn,h1,hq.1,by rw[h3];rfl⟩,λφ w args' hφ ha hM=>?_⟩
 refine calls_of_wp h1 h3 ?_
 refine h c h5 w.heap.size (Sg.data φ) _ w _ (ij ha hlen hq.2) (HR.emptyM w hφ hM) (λc a w hq=>hq.2) (λx e' H' a' w' σ' q q1 q2 q3 q4=>?_)
 have key:∀l,dv e' H' r=some l->Q (bB l) H'->a'.defers=[]/\∃v,(results fn a'.tmps).run P w'= .ok v w'/\ky φ w Q (.returned v) w':=by
  intro l hl hQ
  obtain⟨us,g1,g2⟩:=gv q1.er q2 _ _ _ h6 hl
  have hres:∃u,(results fn a'.tmps).run P w'= .ok u w'/\VR σ' (bB l) u:=by
   have hsem:results fn a'.tmps=(do let vs<-fn.results.mapM (dh a');pure (if h:vs.size=1 then vs[0] else .tuple vs)):=by
    unfold results
    rfl
   have hrun:(fn.results.mapM (dh a')).run P w'= .ok us.toArray w':=by
    simp[Array.mapM_eq_mapM_toList,g1]
   rw[hsem]
   simp only[Sem.run_bind,hrun,Result.andThen_ok,Sem.run_pure]
   refine⟨_,rfl,?_⟩
   have hn:=g2.1
   match l,us,g2,hn with
   |[v],[u],g2,_=>exact g2.2 0 v rfl
   |[],[],_,_=>exact bw.nil.tup
   |v1::v2::l,u1::u2::us,g2,_=>exact g2.tup
  obtain⟨u,k1,k2⟩:=hres
  exact⟨q1.er.df,u,k1,bB l,H',σ',hQ,k2,q2,q3,q4.eq⟩
 have q':∃l,dv e' H' r=some l/\Q (bB l) H':=by
  cases x with
  |exit i=>exact q.elim
  |normal=>
   simp only[gL] at q
   split at q
   ·rename_i l hl;exact⟨l,hl,q⟩
   ·exact q.elim
  |ret=>
   simp only[gL] at q
   split at q
   ·rename_i l hl;exact⟨l,hl,q⟩
   ·exact q.elim
 obtain⟨l,hl,hQ⟩:=q'
 obtain⟨k1,v,k2,k3⟩:=key l hl hQ
 have post:a'.defers=[]/\∃v,(results fn a'.tmps).run P w'= .ok v w'/\ky φ w Q (.returned v) w':=⟨k1,v,k2,k3⟩
 cases x with
 |exit i=>exact q.elim
 |normal=>exact post
 |ret=>exact post
def xk:OB->Bool
 |.mp x=>x.own
 |_=>false
def iw(P:Program)(f:FuncId)(args:List AV)(fZ:(Nat->Option OB)->Prop)(Post:(Nat->Option OB)->List RT->(Nat->Option OB)->Prop):Prop:=
 ∀M,fZ M->zW P f M args λv H=>∃(rs:List RT) (N:Nat->Option OB) (l:List AV),Post M rs N/\v=bB l/\dS rs l H/\∀r x,N r=some x->H.ob r=some x/\xk x=true
theorem oM:∀(l:List eK) (H:AH),(j6 H l).2.ob=H.ob
 |[],_=>rfl
 |.v x::l,H=>oM l H
 |.o ty esz n z row::l,H=>oM l (H.new (aH ty esz n z row))
theorem oK:∀(rs:List RT) (H:AH),(dB H rs).2.ob=H.ob
 |[],_=>rfl
 |.v x::rs,H=>oK rs H
 |.o ty esz n z row::rs,H=>rfl
 |.a l::rs,H=>oM l H
theorem HR.addOb{B:Nat}{σ:Sg}{H:AH}{w:World}(h:HR B σ H w){ob N:Nat->Option OB}(he:H.ob=ob)(hN:∀r x,N r=some x->z7 B w r x):HR B σ (H.addOb N) w:=
 ⟨h.new,h.newl,h.old,h.small,h.hB,h.nil,h.nilp,h.blk,h.szs,h.inj,h.frz,λr x hx=>by
  have hx:(match H.ob r with|some x=>some x|none=>N r)=some x:=hx
  split at hx
  ·rename_i y hy;cases hx;exact h.ob r x hy
  ·exact hN r x hx⟩
theorem bN{P:Program}{g:FuncId}{args fargs:List AV}{H:AH}{Pr:(Nat->Option OB)->Prop}{Post:(Nat->Option OB)->List RT->(Nat->Option OB)->Prop}{Q:AV->AH->Prop}(M:List Nat)(hcv:kA M H args fargs)(h:iw P g fargs Pr Post)(hpre:Pr H.ob)(hnx:H.next+9<2^40)
  (hQ:∀rs N,Post H.ob rs N->(∀r x,N r=some x->H.ob r=none)->Q (bB (dB (b9 H M) rs).1) ((dB (b9 H M) rs).2.addOb N)):cN P g args H Q:=by
 replace h:=h H.ob hpre
 refine⟨h.1,λB σ w args' hH ha=>?_⟩
 obtain⟨σ2,q1,q2,q3,q4,q5,q6,q7⟩:=hH.marks M
 have hd:bw (Sg.data σ2.fz) fargs args'.toList:=hcv.ok hH q1 q2 q7 ha
 have hin:pE σ2.fz w:=λc fs hf=>by
  obtain⟨cs,t,fr,e1,e2,_⟩:=q6.frz c fs hf
  exact⟨cs,t,fr,e1,e2⟩
 refine(h.2 σ2.fz w args' hin hd hH.ob.lend).mono λe w' hp=>?_
 cases e with
 |panicked c=>exact hp.elim
 |outgrown=>exact hp.elim
 |returned u=>
  obtain⟨v,Hc,σ',⟨rs,N,l,hpost,rfl,hr,hN⟩,hv,hHc,hbel,hfz⟩:=hp
  obtain⟨us,hus,hback⟩:=jU hv
  let σa:Sg:=⟨σ2.nm,σ2.nl,σ'.fz⟩
  have hle:σ2.le σa:=⟨λ_ _ hh=>hh,λ_ hh=>hh,λc fs hf=>⟨fs,by show σ'.fz c=_;rw[hfz c (q6.fzlt hf)];exact hf,fZ.refl _⟩⟩
  have hblt:∀b c o,σa b=some (c,o)->(b9 H M).at b≠none->c<w.heap.size:=λb c o hs hne=>by
   cases hx:(b9 H M).at b with
   |none=>exact absurd hx hne
   |some x=>
    obtain⟨cs,e1,e2,e3⟩:=q6.blk b x c o hx hs
    exact(Array.getElem?_eq_some_iff.1 e2).1
  have hHa:HR B σa (b9 H M) w':=by
   refine⟨q6.new,q6.newl,q6.old,q6.small,Nat.le_trans q6.hB hbel.size,q6.nil,q6.nilp,λb x c o hx hs=>?_,q6.szs,q6.inj,λc fs hf=>?_,q6.ob.keep λr hr _=>hbel.block r hr⟩
   ·obtain⟨cs,e1,e2,e3⟩:=q6.blk b x c o hx hs
    exact⟨cs,e1,by rw[hbel.block c ((Array.getElem?_eq_some_iff.1 e2).1)];exact e2,e3.mono hle⟩
   ·by_cases hc:c<w.heap.size
    ·have hf':σ'.fz c=some fs:=hf
     rw[hfz c hc] at hf'
     obtain⟨cs,t,fr,e1,e2,e3⟩:=q6.frz c fs hf'
     exact⟨cs,t,fr,by rw[hbel.block c hc];exact e1,e2,e3⟩
    ·obtain⟨cs,t,fr,e1,e2,_⟩:=hHc.frz c fs hf
     refine⟨cs,t,fr,e1,e2,λb x o hx hs=>?_⟩
     have:=hblt b c o hs (by rw[hx];simp)
     omega
  have hnx':(b9 H M).next+9<2^40:=by rw[eD];exact hnx
  have hmm:∀{a:AV} {u:Value} {σn:Sg},a.pu 3=true->True->σa.le σn->VR σ' a u->VR σn a u:=λhp _ hle' hu=>by
   have e1:=hu.pure 3 hp
   have e2:σ'.bare.le _:=⟨λb x hx=>(by cases hx),λb hb=>False.elim hb,λc' fs hf=>hle'.fz c' fs hf⟩
   exact e1.mono e2
  obtain⟨σ3,p1,p2,p3,p4,p5,p6,p7,p8⟩:=sx (σa:=σa) (good:=λ_=>True) hmm hHc hHa (λc fs _ hf=>hf) hH.hB hblt hnx' rs l us hr (λr _=>tV r) hus
  rw[eD] at p5 p6 p8
  rw[j4] at p7
  have hfree:∀r x,N r=some x->H.ob r=none:=λr x hx=>by
   cases ho:H.ob r with
   |none=>rfl
   |some y=>
    have h1:=hH.ob.lt ho
    obtain⟨h2,h3⟩:=hN r x hx
    cases x with
    |mp x=>
     have:=(hHc.ob r _ h2).1 h3
     omega
    |it y=>cases h3
    |fix o=>cases h3
  refine⟨_,_,σ3,hQ rs N hpost hfree,hback (gJ rs l _ hr) p2,p1.addOb (by rw[oK,lS]) (λr x hx=>(hHc.ob r x (hN r x hx).1).down ⟨Nat.le_trans hH.hB hbel.size,hH.hB⟩),⟨λb hb=>?_,(q1.trans hle).trans p3,p6,by show(dB (b9 H M) rs).2.low<=_;rw[p7];exact Nat.le_refl _,?_,λc hc=> .inl (hbel.block c hc),λb c o hb hs hc=>?_⟩,⟨λc hc=>?_,((q1.trans hle).trans p3).fz⟩⟩
  ·rw[p5 b hb];show σ2.nm b=σ.nm b;rw[q2]
  ·exact⟨hbel.os,hbel.tape,hbel.output,hbel.size,λk hk=>hbel.block k (by have:=hH.hB;omega)⟩
  ·have:=p8 b c o hb hs
   omega
  ·rw[p4]
   show σ'.fz c=σ.fz c
   rw[hfz c (by have:=hH.hB;omega),q4.eq c hc]
theorem HR.recell{B:Nat}{σ:Sg}{H:AH}{w:World}{b:Nat}{x x':AB}(h:HR B σ H w)(hx:H.at b=some x)(hb:b<1000000)(hsz:x'.size=x.size)(hty:x'.ty=x.ty)(hesz:x'.esz=x.esz)(hop:x'.opn=x.opn)(hlv:x'.live=true)(hfz:x'.fzn=x.fzn)
  (hc:∀i u,i<x.size->VR σ (x.get i) u->VR σ (x'.get i) u):HR B σ (H.upd b x') w:=by
 have look:∀b2 y,(H.upd b x').at b2=some y->(b2=b/\y=x')\/(b2≠b/\H.at b2=some y):=by
  intro b2 y hy
  rw[gS hb] at hy
  by_cases e:b2=b
  ·rw[if_pos e,if_pos hlv] at hy;cases hy;exact .inl ⟨e,rfl⟩
  ·rw[if_neg e] at hy;exact .inr ⟨e,hy⟩
 refine⟨h.new,h.newl,λb2 hb2=>?_,h.small,h.hB,λb2 y hy hn=>?_,h.nilp,λb2 y c o hy hs=>?_,λb2 y hy=>?_,λb2 b3 y y' c o o' k1 k2 k3 k4=>?_,λc fs hf=>?_,h.ob⟩
 ·cases hy:(H.upd b x').at b2 with
  |none=>rfl
  |some y=>
   rcases look b2 y hy with⟨rfl,_⟩|⟨_,h1⟩
   ·have:=h.old b2 hb2;rw[hx] at this;cases this
   ·have:=h.old b2 hb2;rw[h1] at this;cases this
 ·rcases look b2 y hy with⟨rfl,rfl⟩|⟨_,h1⟩
  ·have:=h.nil b2 x hx hn
   exact⟨by rw[hsz];exact this.1,by rw[hop];exact this.2.1,this.2.2⟩
  ·exact h.nil b2 y h1 hn
 ·rcases look b2 y hy with⟨rfl,rfl⟩|⟨_,h1⟩
  ·obtain⟨cs,g1,g2,g3⟩:=h.blk b2 x c o hx hs
   exact⟨cs,g1,by rw[hty];exact g2,by rw[hsz];exact g3.sz,λe=>by rw[hsz];exact g3.ex e,λk hk=>by rw[hesz];exact g3.op k hk,by rw[hop];exact g3.ob,λi hi=>hc i _ (by rw[<-hsz];exact hi) (g3.cell i (by rw[<-hsz];exact hi))⟩
  ·exact h.blk b2 y c o h1 hs
 ·rcases look b2 y hy with⟨rfl,rfl⟩|⟨_,h1⟩
  ·rw[hsz];exact h.szs b2 x hx
  ·exact h.szs b2 y h1
 ·have f:∀b2 y,(H.upd b x').at b2=some y->∃z,H.at b2=some z:=λb2 y hy=>by
   rcases look b2 y hy with⟨rfl,rfl⟩|⟨_,h1⟩
   ·exact⟨x,hx⟩
   ·exact⟨y,h1⟩
  obtain⟨z1,hz1⟩:=f b2 y k1
  obtain⟨z2,hz2⟩:=f b3 y' k2
  exact h.inj b2 b3 z1 z2 c o o' hz1 hz2 k3 k4
 ·obtain⟨cs,t,fr,g1,g2,g3⟩:=h.frz c fs hf
  refine⟨cs,t,fr,g1,g2,λb2 y o hy hs=>?_⟩
  rcases look b2 y hy with⟨rfl,rfl⟩|⟨_,h1⟩
  ·rw[hfz];exact g3 b2 x o hx hs
  ·exact g3 b2 y o h1 hs
theorem Wk.nilb{n:Nat}{e:Tr AV}{H:AH}(b i esz ty:Nat){x:AB}(hx:H.at b=some x)(hg:x.get i= .sl0)(hi:i<1000000)(hb:b<1000000)(hbn:b<H.next)(hlv:x.live=true)(hn:H.next<1000000):
  Wk n e H e ((H.new (gh esz ty)).upd b (x.set i (.os H.next 0))):=by
 intro B σ a w hE hH
 have hle:=σ.le_extNil H.next
 have h1:=hH.placeNil (x:=gh esz ty) (H1:=H) rfl (λ_ _ h=>h) (by omega) rfl rfl rfl rfl
 refine⟨σ.extNil H.next,⟨⟨hE.er.df,λt' v hv=>(hE.er.get t' v hv).mono hle⟩,hE.sz,hE.sm⟩,?_,.of_eq rfl⟩
 have hx1:(H.new (gh esz ty)).at b=some x:=by rw[iW hn,if_neg (by omega)];exact hx
 refine h1.recell hx1 hb rfl rfl rfl rfl hlv rfl (λj u hj hu=>?_)
 rw[oq hi]
 by_cases e:j=i
 ·rw[if_pos e]
  rw[e,hg] at hu
  cases hu
  exact .os0 (σ:=σ.extNil H.next) (Or.inl rfl) _
 ·rw[if_neg e];exact hu
theorem HR.after{w w':World}{φ:Fz}(hφ:pE φ w)(h:Below w.heap.size w w'):HR w.heap.size (Sg.data φ) ⟨.nil,0,2^40,λ_=>none⟩ w':=by
 have e:=HR.empty w hφ
 exact⟨e.new,e.newl,e.old,e.small,h.size,e.nil,e.nilp,λb x c o hx hs=>(by cases hs),e.szs,λb b' x x' c o o' _ _ hs _=>(by cases hs),λc fs hf=>by
  obtain⟨cs,t,fr,h1,h2⟩:=hφ c fs hf
  have hc:c<w.heap.size:=(Array.getElem?_eq_some_iff.1 h1).1
  exact⟨cs,t,fr,by rw[h.block c hc];exact h1,h2,λb x o _ hs=>(by cases hs)⟩,λr x hx=>(by cases hx)⟩
end Go.Proofs.Yteopfmnnhlhbmaa