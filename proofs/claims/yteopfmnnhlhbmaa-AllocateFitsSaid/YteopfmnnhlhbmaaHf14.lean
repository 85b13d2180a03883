/- A part of the proof of AllocateFits: EvS EvMh EvX EvU. No condition. -/
import Derived.Test.YteopfmnnhlhbmaaHf12
set_option linter.unusedSimpArgs false
set_option linter.unusedVariables false
set_option linter.constructorNameAsVariable false
set_option maxRecDepth 100000
set_option maxHeartbeats 4000000
namespace Go.Proofs.Yteopfmnnhlhbmaa
open Go.RowKit
/-! what follows an operation,closed till its value is there-/
def B4(P:Program)(l:List AO)(e:Tr AV)(d:Option Nat)(Q:Tr AV->AH->Prop)(v:AV)(H:AH):Prop:=eh P l (co e d v) H Q
theorem yz(P:Program)(l:List AO)(e:Tr AV)(d:Option Nat)(Q:Tr AV->AH->Prop)(v:AV)(H:AH):B4 P l e d Q v H=eh P l (co e d v) H Q:=id rfl
theorem yP(P:Program)(e:Tr AV)(H:AH)(Q:Tr AV->AH->Prop):eh P [] e H Q=Q e H:=id rfl
def P7(P:Program)(d:Option Nat)(k:AK)(l:List AO)(e:Tr AV)(H:AH)(Q:Tr AV->AH->Prop):Option Bool->Prop
 |some true=>gK P e H k (B4 P l e d Q)
 |some false=>eh P l (co e d (.tup [])) H Q
 |none=>False
theorem yN(P:Program)(d:Option Nat)(k:AK)(l:List AO)(e:Tr AV)(H:AH)(Q:Tr AV->AH->Prop):P7 P d k l e H Q (some true)=gK P e H k (B4 P l e d Q):=id rfl
theorem vV(P:Program)(d:Option Nat)(k:AK)(l:List AO)(e:Tr AV)(H:AH)(Q:Tr AV->AH->Prop):P7 P d k l e H Q (some false)=eh P l (co e d (.tup [])) H Q:=id rfl
theorem v6(P:Program)(d:Option Nat)(g:Option (Nat×Bool))(k:AK)(l:List AO)(e:Tr AV)(H:AH)(Q:Tr AV->AH->Prop):eh P (⟨d,g,k⟩::l) e H Q=P7 P d k l e H Q (dy e g):=by
 show(match dy e g with
  |some t=>(t=true->gK P e H k (B4 P l e d Q))/\(t=false->eh P l (co e d (.tup [])) H Q)
  |none=>False)=_
 cases dy e g with
 |none=>rfl
 |some t=>cases t<;>simp[P7]
def zV(r:Option (AV×AH))(Q:AV->AH->Prop):Prop:=match r with
  |some (v,H')=>Q v H'
  |none=>False
theorem tm(v:AV)(H:AH)(Q:AV->AH->Prop):zV (some (v,H)) Q=Q v H:=id rfl
theorem tn(Q:AV->AH->Prop):zV none Q=False:=id rfl
theorem PF(P:Program)(e:Tr AV)(H:AH)(x:AP)(Q:AV->AH->Prop):gK P e H (.ap x) Q=zV (x.run e H) Q:=id rfl
def snA(neg:Bool)(H:AH)(Q:AV->AH->Prop):Option AV->Prop
 |some (.fs _ n _)=>∀t,(t=(!neg)->n=0)->Q (.b t) H
 |_=>False
theorem PB(P:Program)(e:Tr AV)(H:AH)(neg:Bool)(x:AX)(Q:AV->AH->Prop):gK P e H (.sn neg x) Q=snA neg H Q (x.ev e):=id rfl
theorem G1(neg:Bool)(H:AH)(Q:AV->AH->Prop)(esz n:Nat)(row:Nat->Nat->AV):snA neg H Q (some (.fs esz n row))=∀t,(t=(!neg)->n=0)->Q (.b t) H:=rfl
theorem PD(P:Program)(e:Tr AV)(H:AH)(f:AX)(args:List AX)(Q:AV->AH->Prop):gK P e H (.cl f args) Q=match f.ev e,wP e args with
  |some (.f g first cap),some vs=>kK P g (first++vs++cap) H Q
  |_,_=>False:=id rfl
def sO(P:Program)(H0:AH)(m:Nat)(nc:Bool)(l:List (Nat×AO))(e:Tr AV)(d:Option Nat)(Q:Tr AV->AH->Prop)(v:AV)(H:AH):Prop:=ew P H0 m nc l (co e d v) H Q
theorem yA(P:Program)(H0:AH)(m:Nat)(nc:Bool)(l:List (Nat×AO))(e:Tr AV)(d:Option Nat)(Q:Tr AV->AH->Prop)(v:AV)(H:AH):sO P H0 m nc l e d Q v H=ew P H0 m nc l (co e d v) H Q:=id rfl
def ue(P:Program)(H0:AH)(m:Nat)(nc:Bool)(k:Nat)(l:List (Nat×AO))(e:Tr AV)(d:Option Nat)(Q:Tr AV->AH->Prop)(v:AV)(H:AH):Prop:=(k=3\/m<=H.low)/\ew P H0 m nc l (co e d v) H Q
theorem vO(P:Program)(H0:AH)(m:Nat)(nc:Bool)(k:Nat)(l:List (Nat×AO))(e:Tr AV)(d:Option Nat)(Q:Tr AV->AH->Prop)(v:AV)(H:AH):ue P H0 m nc k l e d Q v H=((k=3\/m<=H.low)/\ew P H0 m nc l (co e d v) H Q):=id rfl
theorem yQ(P:Program)(H0:AH)(m:Nat)(nc:Bool)(e:Tr AV)(H:AH)(Q:Tr AV->AH->Prop):ew P H0 m nc [] e H Q=Q e H:=id rfl
def P8(P:Program)(H0:AH)(m:Nat)(nc:Bool)(k:Nat)(d:Option Nat)(a:AK)(l:List (Nat×AO))(e:Tr AV)(H:AH)(Q:Tr AV->AH->Prop):Option Bool->Prop
 |some true=>if k=1 then iX H0 m nc e a/\gK P e H a (sO P H0 m nc l e d Q)
    else if k=2 then nH a=true/\gK P e H a (sO P H0 m nc l e d Q)
    else gK P e H a (ue P H0 m (nc&& !qS a) k l e d Q)
 |some false=>(k=0->m<=H.low)/\ew P H0 m nc l (co e d (.tup [])) H Q
 |none=>False
theorem yO(P:Program)(H0:AH)(m:Nat)(nc:Bool)(k:Nat)(d:Option Nat)(a:AK)(l:List (Nat×AO))(e:Tr AV)(H:AH)(Q:Tr AV->AH->Prop):P8 P H0 m nc k d a l e H Q (some true)=if k=1 then iX H0 m nc e a/\gK P e H a (sO P H0 m nc l e d Q)
    else if k=2 then nH a=true/\gK P e H a (sO P H0 m nc l e d Q)
    else gK P e H a (ue P H0 m (nc&& !qS a) k l e d Q):=id rfl
theorem vW(P:Program)(H0:AH)(m:Nat)(nc:Bool)(k:Nat)(d:Option Nat)(a:AK)(l:List (Nat×AO))(e:Tr AV)(H:AH)(Q:Tr AV->AH->Prop):P8 P H0 m nc k d a l e H Q (some false)=((k=0->m<=H.low)/\ew P H0 m nc l (co e d (.tup [])) H Q):=id rfl
theorem v7(P:Program)(H0:AH)(m:Nat)(nc:Bool)(k:Nat)(d:Option Nat)(g:Option (Nat×Bool))(a:AK)(l:List (Nat×AO))(e:Tr AV)(H:AH)(Q:Tr AV->AH->Prop):ew P H0 m nc ((k,⟨d,g,a⟩)::l) e H Q=P8 P H0 m nc k d a l e H Q (dy e g):=by
 show(match dy e g with
  |some t=>
   (t=true->if k=1 then iX H0 m nc e a/\gK P e H a (sO P H0 m nc l e d Q)
    else if k=2 then nH a=true/\gK P e H a (sO P H0 m nc l e d Q)
    else gK P e H a (ue P H0 m (nc&& !qS a) k l e d Q))/\
   (t=false->(k=0->m<=H.low)/\ew P H0 m nc l (co e d (.tup [])) H Q)
  |none=>False)=_
 cases dy e g with
 |none=>rfl
 |some t=>cases t<;>simp[P8]
def ud(P:Program)(m:Nat)(T:AT)(e:Tr AV)(d:Option Nat)(Q:Tr AV->AH->Prop)(v:AV)(H:AH):Prop:=m<=H.low/\eL P m T (co e d v) H Q
theorem vN(P:Program)(m:Nat)(T:AT)(e:Tr AV)(d:Option Nat)(Q:Tr AV->AH->Prop)(v:AV)(H:AH):ud P m T e d Q v H=(m<=H.low/\eL P m T (co e d v) H Q):=id rfl
theorem vY(P:Program)(m:Nat)(e:Tr AV)(H:AH)(Q:Tr AV->AH->Prop):eL P m .fin e H Q=Q e H:=id rfl
theorem sS(P:Program)(m:Nat)(e:Tr AV)(H:AH)(Q:Tr AV->AH->Prop):eL P m .none e H Q=True:=id rfl
def P6(P:Program)(m:Nat)(d:Option Nat)(a:AK)(r:AT)(e:Tr AV)(H:AH)(Q:Tr AV->AH->Prop):Option Bool->Prop
 |some true=>gK P e H a (ud P m r e d Q)
 |some false=>m<=H.low/\eL P m r (co e d (.tup [])) H Q
 |none=>False
theorem yM(P:Program)(m:Nat)(d:Option Nat)(a:AK)(r:AT)(e:Tr AV)(H:AH)(Q:Tr AV->AH->Prop):P6 P m d a r e H Q (some true)=gK P e H a (ud P m r e d Q):=id rfl
theorem vU(P:Program)(m:Nat)(d:Option Nat)(a:AK)(r:AT)(e:Tr AV)(H:AH)(Q:Tr AV->AH->Prop):P6 P m d a r e H Q (some false)=(m<=H.low/\eL P m r (co e d (.tup [])) H Q):=id rfl
theorem vZ(P:Program)(m:Nat)(d:Option Nat)(g:Option (Nat×Bool))(a:AK)(r more:AT)(e:Tr AV)(H:AH)(Q:Tr AV->AH->Prop):eL P m (.alt ⟨d,g,a⟩ r more) e H Q=(P6 P m d a r e H Q (dy e g)/\eL P m more e H Q):=by
 show((match dy e g with
   |some t=>(t=true->gK P e H a (ud P m r e d Q))/\(t=false->m<=H.low/\eL P m r (co e d (.tup [])) H Q)
   |none=>False)/\eL P m more e H Q)=_
 cases dy e g with
 |none=>rfl
 |some t=>cases t<;>simp[P6]
theorem zm(H0:AH)(m:Nat)(nc:Bool)(e:Tr AV)(n:Nat)(row:Bool)(x:AX):iX H0 m nc e (.ap (.ld n row x))=match x.ev e with
  |some (.p b _)=>b<m/\(H0.at b).isSome=true
  |some (.fp _ _ _)=>nc=true
  |_=>False:=id rfl
theorem G6(k:IntKind)(a b:Int):gj (binOp .lss 0 (.int k a) (.int k b))=some (.b (decide (a<b))):=by cases k<;>rfl
theorem G7(k:IntKind)(a b:Int):gj (binOp .leq 0 (.int k a) (.int k b))=some (.b (decide (a<=b))):=by cases k<;>rfl
theorem G8(k:IntKind)(a b:Int):gj (binOp .gtr 0 (.int k a) (.int k b))=some (.b (decide (b<a))):=by cases k<;>rfl
theorem G9(k:IntKind)(a b:Int):gj (binOp .geq 0 (.int k a) (.int k b))=some (.b (decide (b<=a))):=by cases k<;>rfl
theorem Hb(k:IntKind)(a b:Int):gj (binOp .eql 0 (.int k a) (.int k b))=some (.b (decide (a=b))):=by
 cases k<;>(show some (AV.b (a==b))=_;congr)
theorem G4(k:IntKind)(a b:Int):gj (binOp .neq 0 (.int k a) (.int k b))=some (.b (!decide (a=b))):=by
 cases k<;>(show some (AV.b (a != b))=_;congr)
theorem Hd(k:IntKind)(a b:Int):gj (binOp .add 0 (.int k a) (.int k b))=some (.n k (k.wrap (a+b))):=by cases k<;>rfl
theorem G2(k:IntKind)(a b:Int):gj (binOp .sub 0 (.int k a) (.int k b))=some (.n k (k.wrap (a-b))):=by cases k<;>rfl
theorem G5(k:IntKind)(a b:Int):gj (binOp .mul 0 (.int k a) (.int k b))=some (.n k (k.wrap (a*b))):=by cases k<;>rfl
theorem G3(b:Bool):gj (Op.unary .not (.bool b))=some (.b (!b)):=rfl
theorem aU{x:Int}(h: -9223372036854775808<=x/\x<=9223372036854775807):IntKind.wrap .i64 x=x:=by
 rw[IntKind.wrap_i64];omega
theorem tE{x:Int}(h:0<=x/\x<=4294967295):IntKind.wrap .u32 x=x:=by
 rw[IntKind.wrap_u32];omega
theorem uK(e:Tr AV):dy e none=some true:=rfl
theorem Wk.arg(n:Nat)(args:List AV)(H:AH)(h:args.length<100000):Wk n (fh args) H (aF (bM 0 args)) H:=by
 intro B σ a w hE hH
 refine⟨σ,⟨⟨hE.er.df,λt v hv=>hE.er.get t v ?_⟩,hE.sz,hE.sm⟩,hH,.refl _ _⟩
 rw[rJ _ _ _ (by omega)] at hv
 rw[gw _ _ (by omega)]
 split at hv
 ·simpa using hv
 ·cases hv
theorem oI{x:AB}{i:Nat}(h:i<1000000)(v:AV)(j:Nat):(x.set i v).get j=if j=i then v else x.get j:=AB.get_set x i j v (by omega)
theorem jI(n esz ty:Nat)(d:Nat->AV)(l:List AV)(o lv:Bool)(z i:Nat)(h:l.length<1000000):AB.get ⟨n,esz,ty,d,fh l,o,lv,z⟩ i=l[i]?.getD (d i):=by
 simp only[AB.get]
 rw[gw l i (by omega)]
theorem Ca(n esz ty:Nat)(d:Nat->AV)(o lv:Bool)(z i:Nat):AB.get ⟨n,esz,ty,d,.nil,o,lv,z⟩ i=d i:=id rfl
theorem Wk.nil{n:Nat}{e:Tr AV}{H:AH}(t esz ty:Nat)(ht:e.get t=some .sl0)(hs:t<1000000)(hn:H.next<1000000):Wk n e H (co e (some t) (.os H.next 0)) (H.new (gl esz ty)):=by
 intro B σ a w hE hH
 have hle:=σ.le_extNil H.next
 refine⟨σ.extNil H.next,⟨⟨hE.er.df,λt' v hv=>?_⟩,hE.sz,hE.sm⟩,hH.placeNil rfl (λ_ _ h=>h) (by omega) rfl rfl rfl rfl,.of_eq rfl⟩
 simp only[co] at hv
 rw[Tr.get_set 48 e t _ t' (by omega)] at hv
 by_cases h:t'=t
 ·subst h
  rw[if_pos rfl] at hv
  cases hv
  have:=hE.er.get t' _ ht
  generalize a.tmps.getD t' undef=u at this
  cases this
  exact .os0 (σ:=σ.extNil H.next) (Or.inl rfl) _
 ·rw[if_neg h] at hv
  exact(hE.er.get t' v hv).mono hle
theorem fu(ty esz n z:Nat)(row:Nat->Nat->AV):(aG ty esz n z row).size=n*esz:=id rfl
theorem xw(ty esz n z:Nat)(row:Nat->Nat->AV):(aG ty esz n z row).esz=esz:=id rfl
theorem A7(ty esz n z:Nat)(row:Nat->Nat->AV):(aG ty esz n z row).ty=ty:=id rfl
theorem xu(ty esz n z:Nat)(row:Nat->Nat->AV):(aG ty esz n z row).opn=true:=id rfl
theorem uW(ty esz n z:Nat)(row:Nat->Nat->AV):(aG ty esz n z row).live=true:=id rfl
theorem xv(ty esz n z:Nat)(row:Nat->Nat->AV):(aG ty esz n z row).fzn=z:=id rfl
theorem vj(esz ty:Nat):(gl esz ty).size=0:=id rfl
theorem xP(esz ty:Nat):(gl esz ty).esz=esz:=id rfl
theorem BB(esz ty:Nat):(gl esz ty).ty=ty:=id rfl
theorem xN(esz ty:Nat):(gl esz ty).opn=true:=id rfl
theorem vk(esz ty:Nat):(gl esz ty).live=true:=id rfl
theorem xO(esz ty:Nat):(gl esz ty).fzn=0:=id rfl
theorem z8{l:List AB}(h:l.length<1000000)(x:AB)(b:Nat):(aX (x::l)).at b=if b=l.length then(if x.live then some x else none) else(aX l).at b:=by
 rw[kh,i4 (by rw[ah];exact h),ah]
theorem qM:∀l:List AB,(aX l).low=2^40
 |[]=>rfl
 |x::l=>qM l
theorem vB(esz ty:Nat)(l:List AV):(bj esz ty l).size=l.length:=id rfl
theorem yj(esz ty:Nat)(l:List AV):(bj esz ty l).esz=esz:=id rfl
theorem BM(esz ty:Nat)(l:List AV):(bj esz ty l).ty=ty:=id rfl
theorem yh(esz ty:Nat)(l:List AV):(bj esz ty l).opn=false:=id rfl
theorem vC(esz ty:Nat)(l:List AV):(bj esz ty l).live=true:=id rfl
theorem yi(esz ty:Nat)(l:List AV):(bj esz ty l).fzn=0:=id rfl
theorem Pt(x:Bool):AV.one (.b x)=true:=id rfl
theorem CC(x:Bool):AV.cells (.b x)=[.b x]:=id rfl
theorem Pq(k:IntKind)(x:Int):AV.one (.n k x)=true:=id rfl
theorem CA(k:IntKind)(x:Int):AV.cells (.n k x)=[.n k x]:=id rfl
theorem Po(x:ByteArray):AV.one (.s x)=true:=id rfl
theorem Cy(x:ByteArray):AV.cells (.s x)=[.s x]:=id rfl
theorem Ht:AV.one (.p0)=true:=id rfl
theorem zH:AV.cells (.p0)=[.p0]:=id rfl
theorem Pp(b o:Nat):AV.one (.p b o)=true:=id rfl
theorem Cz(b o:Nat):AV.cells (.p b o)=[.p b o]:=id rfl
theorem Bq:AV.one (.sl0)=true:=id rfl
theorem wu:AV.cells (.sl0)=[.sl0]:=id rfl
theorem Hs(b o l c:Nat):AV.one (.sl b o l c)=true:=id rfl
theorem zG(b o l c:Nat):AV.cells (.sl b o l c)=[.sl b o l c]:=id rfl
theorem Hx:AV.one (.f0)=true:=id rfl
theorem zL:AV.cells (.f0)=[.f0]:=id rfl
theorem Ps(g:FuncId)(l1 l2:List AV):AV.one (.f g l1 l2)=true:=id rfl
theorem CB(g:FuncId)(l1 l2:List AV):AV.cells (.f g l1 l2)=[.f g l1 l2]:=id rfl
theorem Hy(v:Value):AV.one (.cv v)=true:=id rfl
theorem zM(v:Value):AV.cells (.cv v)=[.cv v]:=id rfl
theorem Hv(z n:Nat)(r:Nat->Nat->AV):AV.one (.fs z n r)=true:=id rfl
theorem zJ(z n:Nat)(r:Nat->Nat->AV):AV.cells (.fs z n r)=[.fs z n r]:=id rfl
theorem Hw(z:Nat)(r:Nat->AV)(j:Nat):AV.one (.fp z r j)=true:=id rfl
theorem zK(z:Nat)(r:Nat->AV)(j:Nat):AV.cells (.fp z r j)=[.fp z r j]:=id rfl
theorem Hu(b n:Nat):AV.one (.os b n)=true:=id rfl
theorem zI(b n:Nat):AV.cells (.os b n)=[.os b n]:=id rfl
theorem wv(l:List AV):AV.cells (.agg l)=l:=id rfl
def AB.fr(x:AB):AB:={x with fzn:=max x.size x.fzn}
theorem zZ{H:AH}{b:Nat}(h:b<1000000)(b':Nat):(H.mark b).at b'=if b'=b then(H.at b).map AB.fr else H.at b':=z6 h b'
theorem It(x:AB)(i:Nat):x.fr.get i=x.get i:=id rfl
theorem Cd(x:AB):x.fr.size=x.size:=id rfl
theorem Iv(x:AB):x.fr.esz=x.esz:=id rfl
theorem PH(x:AB):x.fr.ty=x.ty:=id rfl
theorem Ir(x:AB):x.fr.opn=x.opn:=id rfl
theorem Ce(x:AB):x.fr.live=x.live:=id rfl
theorem Iu(x:AB):x.fr.fzn=max x.size x.fzn:=id rfl
def sF(esz ty:Nat)(l:List AV):AB:=⟨l.length,esz,ty,λ_=> .u,fh l,false,true,l.length⟩
theorem vz(esz ty:Nat)(l:List AV):(sF esz ty l).size=l.length:=id rfl
theorem yg(esz ty:Nat)(l:List AV):(sF esz ty l).esz=esz:=id rfl
theorem BL(esz ty:Nat)(l:List AV):(sF esz ty l).ty=ty:=id rfl
theorem yd(esz ty:Nat)(l:List AV):(sF esz ty l).opn=false:=id rfl
theorem vA(esz ty:Nat)(l:List AV):(sF esz ty l).live=true:=id rfl
theorem yf(esz ty:Nat)(l:List AV):(sF esz ty l).fzn=l.length:=id rfl
theorem ye(esz ty:Nat)(l:List AV)(i:Nat)(h:l.length<1000000):(sF esz ty l).get i=l[i]?.getD .u:=jy esz ty l i h
theorem jX.get{M:List Nat}{H:AH}:∀{l l':List AV},jX M H l l'->l.length=l'.length/\∀(i:Nat) (v v':AV),l[i]? =some v->l'[i]? =some v'->Cv M H v v'
 |[],[],_=>⟨rfl,λi v v' h=>by simp at h⟩
 |[],_::_,h=>h.elim
 |_::_,[],h=>h.elim
 |x::l,x'::l',h=>by
  obtain⟨h1,h2⟩:=h
  obtain⟨e1,e2⟩:=h2.get
  refine⟨by simp[e1],λi v v' hv hv'=>?_⟩
  cases i with
  |zero=>simp at hv hv';subst hv;subst hv';exact h1
  |succ i=>exact e2 i v v' (by simpa using hv) (by simpa using hv')
theorem Cv.fn{M:List Nat}{H:AH}{g:FuncId}{l1 l2 l1' l2':List AV}(h1:jX M H l1 l1')(h2:jX M H l2 l2'):Cv M H (.f g l1 l2) (.f g l1' l2'):= .f h1.get.1 h2.get.1 h1.get.2 h2.get.2
theorem Cv.box{M:List Nat}{H:AH}{b:Nat}{x:AB}{l:List AV}(hm:M.contains b=true)(hx:H.at b=some x)(hs:x.size=l.length)(h0:0<l.length)(hg:∀j,j<l.length->x.get j=l[j]?.getD .u)(hc:l.all AV.cell=true):Cv M H (.p b 0) (.fp l.length (λj=>l[j]?.getD .u) 0):=
 .p (o:=0) (j:=0) (by simpa using hm) hx (by omega) (by omega) (λq hq=>by rw[Nat.zero_add];exact hg q hq) (λq hq=>by
  rw[List.getElem?_eq_getElem hq]
  exact List.all_eq_true.1 hc _ (List.getElem_mem hq))
theorem app_size(x:AB)(o:Nat)(s:ch):(x.app o s).size=o+s.len:=AB.app_size x o s
theorem uE(x:AB)(o:Nat)(s:ch):(x.app o s).esz=x.esz:=(AB.app_rest x o s).1
theorem Ae(x:AB)(o:Nat)(s:ch):(x.app o s).ty=x.ty:=(AB.app_rest x o s).2.1
theorem uD(x:AB)(o:Nat)(s:ch):(x.app o s).opn=true:=(AB.app_rest x o s).2.2.1
theorem Af(x:AB)(o:Nat)(s:ch):(x.app o s).live=true:=(AB.app_rest x o s).2.2.2.1
theorem cA(x:AB)(o:Nat)(s:ch):(x.app o s).fzn=x.fzn:=(AB.app_rest x o s).2.2.2.2
theorem kG(x:AB)(n esz:Nat)(l:List AV)(hl:l.length=esz)(hlim:(n+1)*esz<2^40)(i j:Nat)(hi:i<n+1)(hj:j<esz):(x.app (n*esz) (.li l)).get (i*esz+j)=if i<n then x.get (i*esz+j) else l[j]?.getD .u:=by
 have h1:=fj hi hj
 rw[Nat.add_mul] at hlim h1
 rw[AB.app_get _ _ _ _ (by simp only[ch.len,hl];omega) (by simp only[ch.len,hl];omega)]
 by_cases h:i<n
 ·have:=fj h hj
  rw[if_neg (by omega),if_pos h]
 ·have:i=n:=by omega
  subst this
  rw[if_pos (by omega),if_neg (by omega)]
  simp only[ch.at]
  congr 2
  omega
theorem xk{ty esz n z:Nat}{row row2:Nat->Nat->AV}{l:List AV}(hl:l.length=esz)(hlim:(n+1)*esz<2^40)(h1:∀i j,i<n->j<esz->row2 i j=row i j)(h2:∀j,j<esz->row2 n j=l[j]?.getD .u):
  ∀i j,i<n+1->j<esz->((aG ty esz n z row).app (n*esz) (.li l)).get (i*esz+j)=row2 i j:=by
 intro i j hi hj
 rw[kG _ n esz l hl hlim i j hi hj]
 by_cases h:i<n
 ·rw[if_pos h,aI i j hj,h1 i j h hj]
 ·have:i=n:=by omega
  subst this
  rw[if_neg h,h2 j hj]
theorem db.rows{r:Nat->Option Nat}{M:List Nat}{H:AH}{b ty esz n z:Nat}{row:Nat->Nat->AV}{x:AB}(hx:H.at b=some x)(h1:x.ty=ty)(h2:x.esz=esz)(h3:x.opn=true)(h4:n*esz<=x.size)(h5:(if b ∈ M then max x.size x.fzn else x.fzn)<=z)(h0:0<esz)
  (hr:∀i j,i<n->j<esz->x.get (i*esz+j)=row i j) (hc:∀i j,i<n->j<esz->(row i j).pu 3=true):db r M H b (aG ty esz n z row):=by
 refine⟨x,hx,h1.symm,h2.symm,h3.symm,rfl,.inr ⟨h3,h4⟩,h5,λi hi=>?_⟩
 have hi':i<n*esz:=hi
 have hq:i / esz<n:=Nat.div_lt_of_lt_mul (by rw[Nat.mul_comm];exact hi')
 have hm:i%esz<esz:=Nat.mod_lt _ h0
 have hdm:i / esz*esz+i%esz=i:=by
  have:=Nat.div_add_mod i esz
  rw[Nat.mul_comm] at this
  exact this
 have e1:(aG ty esz n z row).get i=row (i / esz) (i%esz):=rfl
 have e2:=hr _ _ hq hm
 rw[hdm] at e2
 rw[e1,e2]
 exact .cv (.rfl (hc _ _ hq hm))
theorem ve(v:AV):bB [v]=v:=id rfl
theorem vd(v v':AV)(l:List AV):bB (v::v'::l)= .tup (v::v'::l):=id rfl
theorem Bj:∀(k:Nat) (v:AV),v.pu k=true->v.pu (k+1)=true:=by
 intro k
 induction k with
 |zero=>intro v h;cases v<;>simp_all [AV.pu]
 |succ k ih=>
  intro v h
  cases v with
  |f g l1 l2=>
   simp only[AV.pu,Bool.and_eq_true,List.all_eq_true] at h ⊢
   exact⟨λx hx=>ih x (h.1 x hx),λx hx=>ih x (h.2 x hx)⟩
  |agg l=>simp only[AV.pu,List.all_eq_true] at h ⊢;exact λx hx=>ih x (h x hx)
  |tup l=>simp only[AV.pu,List.all_eq_true] at h ⊢;exact λx hx=>ih x (h x hx)
  |_=>simp_all [AV.pu]
theorem dR.nil{H:AH}:dR [] [] H:=trivial
theorem dR.v{H:AH}{x v:AV}{rs:List RT}{l:List AV}(h:v=x)(hp:x.pu 3=true)(h':dR rs l H):dR (.v x::rs) (v::l) H:=⟨⟨h,hp⟩,h'⟩
theorem dR.o0{H:AH}{ty esz z:Nat}{row:Nat->Nat->AV}{rs:List RT}{l:List AV}(ha:pQ rs=true)(h':dR rs l H):dR (.o ty esz 0 z row::rs) (.sl0::l) H:=⟨.inl ⟨rfl,rfl⟩,ha,h'⟩
theorem dR.o{H:AH}{ty esz n z b:Nat}{x:AB}{row:Nat->Nat->AV}{rs:List RT}{l:List AV}(hx:H.at b=some x)(h1:x.ty=ty)(h2:x.esz=esz)(h3:x.opn=true)(h0:0<esz)(h4:n*esz<=x.size)(h5:x.fzn<=z)
  (hr:∀i j,i<n->j<esz->x.get (i*esz+j)=row i j) (hc:∀i j,i<n->j<esz->(row i j).cell=true) (ha:pQ rs=true) (h':dR rs l H):dR (.o ty esz n z row::rs) (.os b n::l) H:=
 ⟨.inr ⟨b,rfl,by simp,x,hx,h1,h2,h0,h3,h4,h5,hr,hc⟩,ha,h'⟩
theorem dR.a{H:AH}{c:List eP}{vs:List AV}{rs:List RT}{l:List AV}(h0:c.length<=8)(h:rO H [] c vs)(ha:pQ rs=true)(h':dR rs l H):dR (.a c::rs) (.agg vs::l) H:=⟨⟨h0,vs,rfl,h⟩,ha,h'⟩
theorem rO.nil{H:AH}{u:List Nat}:rO H u [] []:=trivial
theorem rO.v{H:AH}{u:List Nat}{x v:AV}{rs:List eP}{l:List AV}(h:v=x)(hp:x.pu 3=true)(h':rO H u rs l):rO H u (.v x::rs) (v::l):=⟨⟨h,hp⟩,h'⟩
theorem rO.o0{H:AH}{u:List Nat}{ty esz z:Nat}{row:Nat->Nat->AV}{rs:List eP}{l:List AV}(h':rO H u rs l):rO H u (.o ty esz 0 z row::rs) (.sl0::l):=⟨.inl ⟨rfl,rfl⟩,h'⟩
theorem rO.o{H:AH}{u:List Nat}{ty esz n z b:Nat}{x:AB}{row:Nat->Nat->AV}{rs:List eP}{l:List AV}(hx:H.at b=some x)(hu:u.contains b=false)(h1:x.ty=ty)(h2:x.esz=esz)(h3:x.opn=true)(h0:0<esz)(h4:n*esz<=x.size)(h5:x.fzn<=z)
  (hr:∀i j,i<n->j<esz->x.get (i*esz+j)=row i j) (hc:∀i j,i<n->j<esz->(row i j).cell=true) (h':rO H (b::u) rs l):rO H u (.o ty esz n z row::rs) (.os b n::l):=
 ⟨.inr ⟨b,rfl,by simpa using hu,x,hx,h1,h2,h0,h3,h4,h5,hr,hc⟩,h'⟩
theorem mN(x:AB)(o:Nat)(l:List AV)(i:Nat)(h:o+l.length<1000000000)(hi:i<o+l.length):(x.app o (.li l)).get i=if o<=i then l[i-o]?.getD .u else x.get i:=AB.app_get x o (.li l) i (by simp only[ch.len];omega) hi
theorem jX.nil{M:List Nat}{H:AH}:jX M H [] []:=trivial
theorem jX.cons{M:List Nat}{H:AH}{v v2:AV}{l l2:List AV}(h:Cv M H v v2)(h':jX M H l l2):jX M H (v::l) (v2::l2):=⟨h,h'⟩
theorem jX.same{M:List Nat}{H:AH}:∀{l:List AV},l.all (AV.pu 3)=true->jX M H l l
 |[],_=>trivial
 |v::l,h=>by
  simp only[List.all_cons,Bool.and_eq_true] at h
  exact⟨.rfl h.1,jX.same h.2⟩
theorem kH{l:List AV}(h:l.all (AV.pu 2)=true):l.all (AV.pu 3)=true:=by
 simp only[List.all_eq_true] at h ⊢
 exact λx hx=>Bj 2 x (h x hx)
theorem bL{v x:AV}{H:AH}(h:v=x)(hp:x.pu 3=true):∃l1,v=bB l1/\dR [.v x] l1 H:=⟨[v],rfl,⟨h,hp⟩,trivial⟩
theorem ll{a b:AV}{l:List AV}{rs:List RT}{H:AH}(h:dR rs (a::b::l) H):∃l1,AV.tup (a::b::l)=bB l1/\dR rs l1 H:=⟨a::b::l,rfl,h⟩
def AV.sc:Nat->AV->Bool
 |_,.b _|_,.n _ _|_,.s _|_,.p0|_,.sl0|_,.f0|_,.cv _=>true
 |k+1,.agg l=>l.all (AV.sc k)
 |k+1,.tup l=>l.all (AV.sc k)
 |_,_=>false
theorem VR.sc{σ σ2:Sg}:∀(k:Nat) {v:AV} {x:Value},v.sc k=true->VR σ v x->VR σ2 v x
 |k,v,x,hp,h=>by
  cases h with
  |b x=>exact .b x
  |n k x=>exact .n k x
  |s x=>exact .s x
  |p0=>exact .p0
  |sl0 a=>exact .sl0 a
  |f0=>exact .f0
  |cv _ hv=>exact .cv _ hv
  |agg hl hh=>
   cases k with
   |zero=>simp[AV.sc] at hp
   |succ k=>
    simp only[AV.sc,List.all_eq_true] at hp
    exact .agg hl (λi v hv=>VR.sc k (hp v (List.mem_of_getElem? hv)) (hh i v hv))
  |tup hl hh=>
   cases k with
   |zero=>simp[AV.sc] at hp
   |succ k=>
    simp only[AV.sc,List.all_eq_true] at hp
    exact .tup hl (λi v hv=>VR.sc k (hp v (List.mem_of_getElem? hv)) (hh i v hv))
  |_=>cases k<;>simp[AV.sc] at hp
theorem O1:∀(k:Nat) (v:AV),v.sc k=true->v.pu k=true:=by
 intro k
 induction k with
 |zero=>intro v h;cases v<;>simp_all [AV.sc,AV.pu]
 |succ k ih=>
  intro v h
  cases v with
  |agg l=>simp only[AV.pu,AV.sc,List.all_eq_true] at h ⊢;exact λx hx=>ih x (h x hx)
  |tup l=>simp only[AV.pu,AV.sc,List.all_eq_true] at h ⊢;exact λx hx=>ih x (h x hx)
  |_=>simp_all [AV.pu,AV.sc]
theorem HR.after_call{B:Nat}{σ:Sg}{H:AH}{w w':World}(h:HR B σ H w)(hb:Below w.heap.size w w'):HR B σ H w':=by
 refine⟨h.new,h.newl,h.old,h.small,Nat.le_trans h.hB hb.size,h.nil,h.nilp,λb x c o hx hs=>?_,h.szs,h.inj,λc fs hf=>?_,h.ob.keep λr hr _=>hb.block r hr⟩
 ·obtain⟨cs,e1,e2,e3⟩:=h.blk b x c o hx hs
  exact⟨cs,e1,by rw[hb.block c ((Array.getElem?_eq_some_iff.1 e2).1)];exact e2,e3⟩
 ·obtain⟨cs,t,fr,e1,e2,e3⟩:=h.frz c fs hf
  exact⟨cs,t,fr,by rw[hb.block c (h.fzlt hf)];exact e1,e2,e3⟩
theorem vX{P:Program}{g:FuncId}{args fargs:List AV}{H:AH}{rs:List RT}{Q:AV->AH->Prop}(M:List Nat)(hcv:jX M H args fargs)(h:bR P g fargs rs)(hnx:H.next+9<2^40)(hsc:∀r ∈ rs,gR (λa=>a.sc 3=true) r)
  (hQ:Q (bB (dq H rs).1) (dq H rs).2):kK P g args H Q:=by
 refine⟨h.1,λB σ w args' hH ha=>?_⟩
 obtain⟨σ2,q1,q2,q3,q4,q5,q6,q7⟩:=hH.marks M
 have hd:bz (Sg.data σ2.fz) fargs args'.toList:=hcv.ok hH q1 q2 q7 ha
 have hin:pX σ2.fz w:=λc fs hf=>by
  obtain⟨cs,t,fr,e1,e2,_⟩:=q6.frz c fs hf
  exact⟨cs,t,fr,e1,e2⟩
 refine(h.2 σ2.fz w args' hin hd).mono λe w' hp=>?_
 cases e with
 |panicked c=>exact hp.elim
 |outgrown=>exact hp.elim
 |returned u=>
  obtain⟨v,Hc,σ',⟨l,rfl,hr⟩,hv,hHc,hbel,hfz⟩:=hp
  obtain⟨us,hus,hback⟩:=hZ hv
  have hblt:∀b c o,σ b=some (c,o)->H.at b≠none->c<w.heap.size:=λb c o hs hne=>by
   cases hx:H.at b with
   |none=>exact absurd hx hne
   |some x=>
    obtain⟨cs,e1,e2,e3⟩:=hH.blk b x c o hx hs
    exact(Array.getElem?_eq_some_iff.1 e2).1
  obtain⟨σ3,p1,p2,p3,p4,p5,p6,p7,p8⟩:=pb (σa:=σ) (good:=λa=>a.sc 3=true) (λ{a u σn} _ hs _ hu=>hu.sc 3 hs) hHc (hH.after_call hbel) (λc fs hc hf=>by have:=hH.fzlt hf;omega) hH.hB hblt hnx rs l us hr hsc hus
  refine⟨_,_,σ3,hQ,hback (fE rs l _ hr) p2,p1,⟨λb hb=>p5 b hb,p3,p6,by rw[p7];exact Nat.le_refl _,?_,λc hc=> .inl (hbel.block c hc),λb c o hb hs hc=>?_⟩,.of_eq p4⟩
  ·exact⟨hbel.os,hbel.tape,hbel.output,hbel.size,λk hk=>hbel.block k (by have:=hH.hB;omega)⟩
  ·have:=p8 b c o hb hs
   omega
theorem mh{P:Program}(hm:P.follows .mixedOrders=true){T:FuncId->Option AF}(hT:Av P T){lf k:Nat}{f:FuncId}{args:List AV}{v:AV}{H':AH}(hr:kO T lf k f args ⟨.nil,0,2^40,λ_=>none⟩=some (v,H'))(hv:v.sc 3=true):bR P f args [.v v]:=by
 refine⟨(oM 0 hm hT lf k).fn hr,λφ w args' hφ ha=>?_⟩
 refine Calls.mono ((oM w.heap.size hm hT lf k).run hr _ w args' (HR.empty w hφ) ha) (λe w' hp=>?_)
 cases e with
 |panicked c=>exact hp.elim
 |outgrown=>exact hp.elim
 |returned u=>
  obtain⟨σ',q1,q2,q3⟩:=hp
  have hw:pX φ w':=λc fs hf=>by
   obtain⟨cs,t,fr,h1,h2⟩:=hφ c fs hf
   exact⟨cs,t,fr,by rw[q3.bel.block c (Array.getElem?_eq_some_iff.1 h1).1];exact h1,h2⟩
  refine⟨v,⟨.nil,0,2^40,λ_=>none⟩,Sg.data φ,⟨[v],rfl,⟨rfl,O1 3 v hv⟩,trivial⟩,q1.sc 3 hv,?_,q3.bel,λ_ _=>rfl⟩
  exact HR.emptyAt w' q3.bel.size hw
def AH.setLow(H:AH)(l:Nat):AH:={H with low:=l}
theorem wx(H:AH)(l b:Nat):(H.setLow l).at b=H.at b:=id rfl
theorem ag(H:AH)(l:Nat):(H.setLow l).next=H.next:=id rfl
theorem sG(H:AH)(l:Nat):(H.setLow l).low=l:=id rfl
theorem mZ(H:AH)(l l':Nat):(H.setLow l).setLow l'=H.setLow l':=id rfl
theorem yl(H:AH)(b:Nat):(H.mark b).low=H.low:=AH.mark_low H b
theorem GA.mix1{P:Program}{n:Nat}{hints:bI}{e:Tr AV}{H:AH}{Q:AE->Tr AV->AH->Prop}(hm:P.follows .mixedOrders=true){l:List (Nat×AO)}(h:ew P (H.setLow (2^40)) H.next true l e (H.setLow (2^40)) (λe' H'=>Q .normal e' (H'.setLow (min H.low H'.low)))):GA P n hints (.mix l) e H Q:=
 GA.mix hm H.next (by rw[Nat.sub_self];trivial) h
theorem GA.mixm{P:Program}{n:Nat}{hints:bI}{e:Tr AV}{H:AH}{Q:AE->Tr AV->AH->Prop}(hm:P.follows .mixedOrders=true)(m:Nat){l:List (Nat×AO)}(htop:fi H m (H.next-m))(h:ew P (H.setLow (2^40)) m true l e (H.setLow (2^40)) (λe' H'=>Q .normal e' (H'.setLow (min H.low H'.low)))):GA P n hints (.mix l) e H Q:=
 GA.mix hm m htop h
theorem GA.cut{P:Program}{n:Nat}{hints:bI}{e:Tr AV}{H:AH}{Q:AE->Tr AV->AH->Prop}{x y:AC}(e2:Tr AV)(H2:AH)(h:GA P n hints x e H (gx (λe' H'=>Wk n e' H' e2 H2) (λ_ _ _=>False)))(h':GA P n hints y e2 H2 Q):GA P n hints (.seq x y) e H Q:=
 GA.seq (h.mono λa e' H' hq=>by
  cases a with
  |normal=>exact GA.wk hq h'
  |exit i=>exact hq.elim
  |ret=>exact hq.elim)
theorem db.lst{r:Nat->Option Nat}{M:List Nat}{H:AH}{b esz ty:Nat}{l:List AV}(hx:H.at b=some (bj esz ty l))(hM:M.contains b=false)(hl:l.length<1000000)(hp:l.all (AV.pu 3)=true):db r M H b (bj esz ty l):=by
 refine⟨bj esz ty l,hx,rfl,rfl,rfl,rfl,.inl rfl,by rw[if_neg (by simpa using hM)];exact Nat.le_refl _,λi hi=>?_⟩
 have hi':i<l.length:=hi
 rw[jy esz ty l i hl,List.getElem?_eq_getElem hi']
 exact .cv (.rfl (List.all_eq_true.1 hp _ (List.getElem_mem hi')))
theorem db.keep{r:Nat->Option Nat}{M:List Nat}{H:AH}{b ty esz n z:Nat}{row:Nat->Nat->AV}(hx:H.at b=some (aG ty esz n z row))(hM:M.contains b=false)(h0:0<esz)(hc:∀i j,i<n->j<esz->(row i j).pu 3=true):db r M H b (aG ty esz n z row):=
 db.rows hx rfl rfl rfl (Nat.le_refl _) (by rw[if_neg (by simpa using hM)];exact Nat.le_refl _) h0 (λi j _ hj=>aI i j hj) hc
theorem bf.nil{r:Nat->Option Nat}{M:List Nat}{H:AH}:bf r M H [] []:=trivial
theorem bf.cons{r:Nat->Option Nat}{M:List Nat}{H:AH}{b:Nat}{ρ:List Nat}{x:AB}{bl:List AB}(h1:ρ.contains b=false)(h2:db r M H b x)(h3:bf r M H ρ bl):bf r M H (b::ρ) (x::bl):=⟨by simpa using h1,h2,h3⟩
def ry(P:Program)(n:Nat)(hints:bI)(cc:AX)(x y:AC)(e:Tr AV)(H:AH)(Q:AE->Tr AV->AH->Prop):Prop:=match cc.ev e with
 |some (.b t)=>(t=true->GA P n hints x e H Q)/\(t=false->GA P n hints y e H Q)
 |_=>False
theorem GA.cond'{P:Program}{n:Nat}{hints:bI}{e:Tr AV}{H:AH}{Q:AE->Tr AV->AH->Prop}{cc:AX}{x y:AC}(h:ry P n hints cc x y e H Q):GA P n hints (.cond cc x y) e H Q:=by
 unfold ry at h
 split at h
 ·rename_i t ht
  exact GA.cond ht h.1 h.2
 ·exact h.elim
theorem Wv.n{r:Nat->Option Nat}{M:List Nat}{H:AH}{k:IntKind}{a b:Int}(h:a=b):Wv r M H (.n k a) (.n k b):=by subst h;exact .cv (.rfl rfl)
theorem Wv.same{r:Nat->Option Nat}{M:List Nat}{H:AH}{v:AV}(h:v.pu 3=true):Wv r M H v v:= .cv (.rfl h)
theorem ab{a b:Prop}(h1:a)(h2:b):a/\b:=⟨h1,h2⟩
theorem aO{P:Program}(hm:P.follows .mixedOrders=true){f:FuncId}{hints:bI}{F:AF}(hF:bK P hints f=some F){args:List AV}(hlen:args.length<=F.nt/\F.nt<100000){Q:AV->AH->Prop}
  (h:GA P F.nt hints F.code (aF (bM 0 args)) (aX []) (gP F.res Q)):rR P f args Q:=
 B9 hm hF hlen.1 (GA.wk (Wk.arg _ _ _ (by omega)) h)
theorem O3(x:Bool):gj (pure (.bool x))=some (.b x):=id rfl
theorem O2(k:IntKind)(x:Int):gj (pure (.int k x))=some (.n k x):=id rfl
theorem PA(a b:Int):(a==b)=decide (a=b):=by rw[Bool.eq_iff_iff];simp
theorem So(a b:Int):(a != b)= !decide (a=b):=by rw[bne,PA]
def Sp:AC->Bool
 |.loop _=>false
 |.frk _ _=>false
 |.rf _ _ _ _ _=>false
 |_=>true
attribute [reducible] Sp
def GS(P:Program)(n:Nat)(hints:bI)(ac:AC)(e:Tr AV)(H:AH)(Q:AE->Tr AV->AH->Prop):Prop:=match ac with
 |.skip=>Q .normal e H
 |.exit i=>Q (.exit i) e H
 |.ret=>Q .ret e H
 |.seq x y=>GA P n hints x e H (gx (λe' H'=>GA P n hints y e' H' Q) Q)
 |.cond c x y=>ry P n hints c x y e H Q
 |.block id x=>GA P n hints x e H (gW id Q)
 |.reg l=>eh P l e H (λe' H'=>Q .normal e' H')
 |.mix l=>ew P (H.setLow (2^40)) H.next true l e (H.setLow (2^40)) (λe' H'=>Q .normal e' (H'.setLow (min H.low H'.low)))
 |.loop _=>False
 |.frk _ _=>False
 |.rf _ _ _ _ _=>False
 |.die=>False
theorem GA.go{P:Program}{n:Nat}{hints:bI}{ac:AC}{e:Tr AV}{H:AH}{Q:AE->Tr AV->AH->Prop}(hm:P.follows .mixedOrders=true)(hg:Sp ac=true)(h:GS P n hints ac e H Q):GA P n hints ac e H Q:=by
 cases ac with
 |skip=>exact GA.skip h
 |exit i=>exact GA.exit h
 |ret=>exact GA.ret h
 |seq x y=>exact GA.seq h
 |cond c x y=>exact GA.cond' h
 |block id x=>exact GA.block h
 |reg l=>exact GA.reg h
 |mix l=>exact GA.mix1 hm h
 |loop x=>cases hg
 |frk l T=>cases hg
 |rf _ _ _ _ _=>cases hg
 |die=>exact(show False from h).elim
section
variable {P:Program} {n:Nat} {hints:bI} {e:Tr AV} {H:AH} {Q:AE->Tr AV->AH->Prop}
theorem GS.skip:GS P n hints .skip e H Q=Q .normal e H:=id rfl
theorem GS.exit(i:Nat):GS P n hints (.exit i) e H Q=Q (.exit i) e H:=id rfl
theorem GS.ret:GS P n hints .ret e H Q=Q .ret e H:=id rfl
theorem GS.seq(x y:AC):GS P n hints (.seq x y) e H Q=GA P n hints x e H (gx (λe' H'=>GA P n hints y e' H' Q) Q):=id rfl
theorem GS.cond(c:AX)(x y:AC):GS P n hints (.cond c x y) e H Q=ry P n hints c x y e H Q:=id rfl
theorem GS.block(id:Nat)(x:AC):GS P n hints (.block id x) e H Q=GA P n hints x e H (gW id Q):=_root_.id rfl
theorem GS.reg(l:List AO):GS P n hints (.reg l) e H Q=eh P l e H (λe' H'=>Q .normal e' H'):=id rfl
theorem GS.mix(l:List (Nat×AO)):GS P n hints (.mix l) e H Q=ew P (H.setLow (2^40)) H.next true l e (H.setLow (2^40)) (λe' H'=>Q .normal e' (H'.setLow (min H.low H'.low))):=id rfl
end
/-! what every step uses-/
attribute [go_sem] GS.skip GS.exit GS.ret GS.seq GS.cond GS.block GS.reg GS.mix O3 O2 PA So gx gW xz gP ry yP v6 yN vV yO vW yM vU beq_false beq_true PF
 PD PB G1 yz yQ v7 yA vO zm nH qS AP.kind vY sS vZ vN fi ea
 AX.ev wP AP.run uK dy Cl zi dJ im gV wv Pt CC Pq CA Po Cy Ht zH Pp
 Cz Bq wu Hs zG Hx zL Ps CB Hy zM Hv zJ Hw zK Hu zI
 List.cons_append List.nil_append List.append_nil Option.map_some Option.map_none List.all_cons List.all_nil List.length_cons List.length_nil
 Bool.and_true Bool.true_and Bool.and_self G6 G7 G8 G9 Hb G4 Hd G2 G5 G3 iQ r6 eH
 uP yR vK ze AU xF tG AH.load AH.loadN i4 aB km aA z7 ao z8 ah
 qM zY BP BN BO xQ IK xn Cc yo Ck GY Bm if_true if_false ite_true ite_false true_and
 and_true forall_const false_implies implies_true Bool.true_eq_false Bool.false_eq_true Option.some.injEq AV.b.injEq exists_eq_left' exists_eq_left
 decide_eq_true_eq decide_eq_false_iff_not Bool.not_eq_true' Bool.not_eq_false' Option.isSome_some not_true_eq_false not_false_eq_true Int.not_lt
 Int.not_le oI jI Ca A6 List.getElem?_cons_zero List.getElem?_cons_succ Option.getD_some Int.toNat_natCast Nat.zero_add Nat.add_zero
 Nat.mul_one Nat.zero_le beq_iff_eq beq_eq_false_iff_ne ne_eq fu xw A7 xu uW xv app_size uE Ae uD
 Af cA AH.append ch.len iq ve vd dq kg cg zZ It Cd Iv PH Ir Ce Iu
 AH.mark_next AH.mark_low true_or or_true Bool.not_false Bool.not_true Bool.and_false Nat.le_refl Nat.min_self beq_self_eq_true kR maxLen
 Bool.and_eq_true wx ag sG mZ yl tm tn false_and and_false my List.isEmpty_cons
 List.isEmpty_nil List.take_zero List.take_succ_cons List.drop_zero List.drop_succ_cons List.take_nil List.drop_nil vj xP BB
 xN vk xO List.length_append vB yj BM yh vC yi jy vz yg BL yd
 vA yf ye
/-! arguments that are found-/
theorem AQ{P:Prop}(h:P:=by first|trivial|exact Wv.same rfl|exact Wv.p rfl|exact Wv.os rfl|exact Wv.sl rfl|exact Wv.n (by omega)|exact Wv.n (aU (by omega))|exact Wv.n (by rw[aU (by omega)];omega)):P:=h
theorem bo{P:Prop}(h:P:=by first|exact True.intro|exact Wv.same rfl|exact Wv.p rfl|exact Wv.os rfl|exact Wv.sl rfl|exact Wv.n (by omega)|exact Wv.n (aU (by omega))|exact Wv.n (by rw[aU (by omega)];omega)):P:=h
theorem db.ls{r:Nat->Option Nat}{M:List Nat}{H:AH}{b esz ty:Nat}{l:List AV}(hx:H.at b=some (bj esz ty l):=by simp only[go_sem,simprocAttr]<;>rfl)(hM:M.contains b=false:=by rfl)(hl:l.length<1000000:=by simp)(hp:l.all (AV.pu 3)=true:=by rfl):db r M H b (bj esz ty l):= .lst hx hM hl hp
theorem db.k1{r:Nat->Option Nat}{M:List Nat}{H:AH}{b ty esz n z:Nat}{row:Nat->Nat->AV}(hx:H.at b=some (aG ty esz n z row):=by simp only[go_sem,simprocAttr])(hM:M.contains b=false:=by rfl)(h0:0<esz:=by decide)(hc:∀i j,i<n->j<esz->(row i j).pu 3=true:=by intro _ _ _ _;rfl):db r M H b (aG ty esz n z row):= .keep hx hM h0 hc
theorem db.k5{r:Nat->Option Nat}{M:List Nat}{H:AH}{b ty n z:Nat}{row:Nat->Nat->AV}(hx:H.at b=some (aG ty 5 n z row):=by simp only[go_sem,simprocAttr])(hM:M.contains b=false:=by rfl)(hc:∀i j,i<n->j<5->(row i j).pu 3=true:=by intro _ j _ hj;rcases(show j=0\/j=1\/j=2\/j=3\/j=4 by omega) with rfl|rfl|rfl|rfl|rfl<;>rfl):db r M H b (aG ty 5 n z row):= .keep hx hM (by decide) hc
theorem vT{P:Program}{g:FuncId}{a fa:AV}{H:AH}{rs:List RT}{Q:AV->AH->Prop}(h:bR P g [fa] rs)(hQ:Q (bB (dq (cg H []) rs).1) (dq (cg H []) rs).2)(ha:Cv [] H a fa:=by exact .rfl (by rfl))(hnx:H.next+9<2^40:=by simp only[go_sem,simprocAttr]):kK P g [a] H Q:=aq [] (.cons ha .nil) h hnx hQ
theorem I0{P:Program}{g:FuncId}{a b fa fb:AV}{H:AH}{rs:List RT}{Q:AV->AH->Prop}(h:bR P g [fa,fb] rs)(hQ:Q (bB (dq (cg H []) rs).1) (dq (cg H []) rs).2)(ha:Cv [] H a fa:=by exact .rfl (by rfl))(hb:Cv [] H b fb:=by exact .rfl (by rfl))(hnx:H.next+9<2^40:=by simp only[go_sem,simprocAttr]):kK P g [a,b] H Q:=aq [] (.cons ha (.cons hb .nil)) h hnx hQ
theorem gqe{P:Program}{g:FuncId}{a b c d k:AV}{H:AH}{rs:List RT}{Q:AV->AH->Prop}(h:bR P g [a,b,c,d,k] rs)(hQ:Q (bB (dq (cg H []) rs).1) (dq (cg H []) rs).2)(ha:a.pu 3=true:=by rfl)(hb:b.pu 3=true:=by rfl)(hc:c.pu 3=true:=by rfl)(hd:d.pu 3=true:=by rfl)(hk:k.pu 3=true:=by rfl)(hnx:H.next+9<2^40:=by simp only[go_sem,simprocAttr]):kK P g [a,b,c,d,k] H Q:=aq [] (.cons (.rfl ha) (.cons (.rfl hb) (.cons (.rfl hc) (.cons (.rfl hd) (.cons (.rfl hk) .nil))))) h hnx hQ
theorem db.k2{r:Nat->Option Nat}{M:List Nat}{H:AH}{b ty esz n z:Nat}{row:Nat->Nat->AV}(hc:∀i j,i<n->j<esz->(row i j).pu 3=true)(hx:H.at b=some (aG ty esz n z row):=by simp only[go_sem,simprocAttr])(hM:M.contains b=false:=by rfl)(h0:0<esz:=by decide):db r M H b (aG ty esz n z row):= .keep hx hM h0 hc
theorem db.r0{r:Nat->Option Nat}{M:List Nat}{H:AH}{b ty esz n z:Nat}{row:Nat->Nat->AV}{x:AB}(hx:H.at b=some x:=by simp only[go_sem,simprocAttr];rfl)(h1:x.ty=ty:=by rfl)(h2:x.esz=esz:=by rfl)(h3:x.opn=true:=by rfl)(h4:n*esz<=x.size:=by simp)(h5:(if b ∈ M then max x.size x.fzn else x.fzn)<=z:=by decide)(h0:0<esz:=by decide)(hr:∀i j,i<n->j<esz->x.get (i*esz+j)=row i j:=by intro i j h;simp at h)(hc:∀i j,i<n->j<esz->(row i j).pu 3=true:=by intro i j h;simp at h):db r M H b (aG ty esz n z row):= .rows hx h1 h2 h3 h4 h5 h0 hr hc
theorem db.r1{r:Nat->Option Nat}{M:List Nat}{H:AH}{b ty esz n z:Nat}{row:Nat->Nat->AV}{x:AB}(hx:H.at b=some x:=by simp only[go_sem,simprocAttr];rfl)(h1:x.ty=ty:=by rfl)(h2:x.esz=esz:=by rfl)(h3:x.opn=true:=by rfl)(h4:n*esz<=x.size:=by decide)(h5:(if b ∈ M then max x.size x.fzn else x.fzn)<=z:=by decide)(h0:0<esz:=by decide)(hr:∀i j,i<n->j<esz->x.get (i*esz+j)=row i j:=by intro i j h;simp at h)(hc:∀i j,i<n->j<esz->(row i j).pu 3=true:=by intro i j h;simp at h):db r M H b (aG ty esz n z row):= .rows hx h1 h2 h3 h4 h5 h0 hr hc
end Go.Proofs.Yteopfmnnhlhbmaa
namespace Go.Proofs.Yteopfmnnhlhbmaa
open Go.RowKit
def eT(M:Nat->Option OB):Nat->Option OB:=λr=>match M r with
 |some (.mp x)=>some (.mp {x with own:=false})
 |_=>none
theorem o7{M:Nat->Option OB}{r:Nat}{x:dv}(h:M r=some (.mp x)):eT M r=some (.mp {x with own:=false}):=by unfold eT;rw[h]
theorem OR.lend{B:Nat}{ob:Nat->Option OB}{w:World}{B':Nat}(h:OR B ob w):OR B' (eT ob) w:=λr x hx=>by
 unfold eT at hx
 split at hx
 ·rename_i y hy
  cases hx
  obtain⟨_,es,c,h1,h2⟩:=h r _ hy
  exact⟨λh=>(by cases h),es,c,h1,⟨h2.cnt,h2.ent,h2.dom,h2.one,h2.stp⟩⟩
 ·cases hx
theorem AN.down{B B' r:Nat}{w:World}{x:OB}(h:AN B' w r x)(hB:B<=w.heap.size/\B<=B'):AN B w r x:=by
 cases x with
 |mp x=>exact⟨λq=>Nat.le_trans hB.2 (h.1 q),h.2⟩
 |it y=>exact⟨Nat.le_trans hB.2 h.1,h.2⟩
 |fix o=>exact⟨Nat.le_trans hB.2 h.1,h.2⟩
def AH.addOb(H:AH)(N:Nat->Option OB):AH:={H with ob:=λr=>match H.ob r with
 |some x=>some x
 |none=>N r}
def AD(P:Program)(f:FuncId)(M:Nat->Option OB)(args:List AV)(Q:AV->AH->Prop):Prop:=
 yY P f/\∀(φ:Fz) (w:World) (args':Array Value),pX φ w->bz (Sg.data φ) args args'.toList->OR w.heap.size (eT M) w->Calls P f args' w (kJ φ w Q)
theorem HR.emptyM{φ:Fz}{M:Nat->Option OB}(w:World)(hφ:∀c fs,φ c=some fs->∃cs t fr,w.heap[c]? =some (.cells cs t fr)/\gi fs cs)(hM:OR w.heap.size (eT M) w):HR w.heap.size ⟨λ_=>none,λ_=>False,φ⟩ (bc (eT M) []) w:=by
 have h:=HR.empty w hφ
 exact⟨h.new,h.newl,h.old,h.small,h.hB,h.nil,h.nilp,h.blk,h.szs,h.inj,h.frz,hM⟩
theorem yI{P:Program}(hm:P.follows .mixedOrders=true){f:FuncId}{hints:bI}{F:AF}(hF:bK P hints f=some F){args:List AV}(hlen:args.length<=F.nt){Q:AV->AH->Prop}
  {M:Nat->Option OB} (h:GA P F.nt hints F.code (fh args) (bc (eT M) []) (gP F.res Q)):AD P f M args Q:=by
 unfold bK at hF
 obtain⟨fn,h1,hF⟩:=Option.bind_eq_some_iff.1 hF
 obtain⟨c,h3,hF⟩:=Option.bind_eq_some_iff.1 hF
 obtain⟨ac,h5,hF⟩:=Option.bind_eq_some_iff.1 hF
 obtain⟨r,h6,hF⟩:=Option.bind_eq_some_iff.1 hF
 split at hF
 rotate_left
 ·cases hF
 rename_i hq
 cases hF
 refine⟨⟨fn,h1,hq.1,by rw[h3];rfl⟩,λφ w args' hφ ha hM=>?_⟩
 refine calls_of_wp h1 h3 ?_
 refine h c h5 w.heap.size (Sg.data φ) _ w _ (jE ha hlen hq.2) (HR.emptyM w hφ hM) (λc a w hq=>hq.2) (λx e' H' a' w' σ' q q1 q2 q3 q4=>?_)
 have key:∀l,ea e' H' r=some l->Q (bB l) H'->a'.defers=[]/\∃v,(results fn a'.tmps).run P w'= .ok v w'/\kJ φ w Q (.returned v) w':=by
  intro l hl hQ
  obtain⟨us,g1,g2⟩:=iU q1.er q2 _ _ _ h6 hl
  have hres:∃u,(results fn a'.tmps).run P w'= .ok u w'/\VR σ' (bB l) u:=by
   have hsem:results fn a'.tmps=(do let vs<-fn.results.mapM (dT a');pure (if h:vs.size=1 then vs[0] else .tuple vs)):=by
    unfold results
    rfl
   have hrun:(fn.results.mapM (dT a')).run P w'= .ok us.toArray w':=by
    simp[Array.mapM_eq_mapM_toList,g1]
   rw[hsem]
   simp only[Sem.run_bind,hrun,Result.andThen_ok,Sem.run_pure]
   refine⟨_,rfl,?_⟩
   have hn:=g2.1
   match l,us,g2,hn with
   |[v],[u],g2,_=>exact g2.2 0 v rfl
   |[],[],_,_=>exact bz.nil.tup
   |v1::v2::l,u1::u2::us,g2,_=>exact g2.tup
  obtain⟨u,k1,k2⟩:=hres
  exact⟨q1.er.df,u,k1,bB l,H',σ',hQ,k2,q2,q3,q4.eq⟩
 have q':∃l,ea e' H' r=some l/\Q (bB l) H':=by
  cases x with
  |exit i=>exact q.elim
  |normal=>
   simp only[gP] at q
   split at q
   ·rename_i l hl;exact⟨l,hl,q⟩
   ·exact q.elim
  |ret=>
   simp only[gP] at q
   split at q
   ·rename_i l hl;exact⟨l,hl,q⟩
   ·exact q.elim
 obtain⟨l,hl,hQ⟩:=q'
 obtain⟨k1,v,k2,k3⟩:=key l hl hQ
 have post:a'.defers=[]/\∃v,(results fn a'.tmps).run P w'= .ok v w'/\kJ φ w Q (.returned v) w':=⟨k1,v,k2,k3⟩
 cases x with
 |exit i=>exact q.elim
 |normal=>exact post
 |ret=>exact post
def xE:OB->Bool
 |.mp x=>x.own
 |_=>false
def iz(P:Program)(f:FuncId)(args:List AV)(gi:(Nat->Option OB)->Prop)(Post:(Nat->Option OB)->List RT->(Nat->Option OB)->Prop):Prop:=
 ∀M,gi M->AD P f M args λv H=>∃(rs:List RT) (N:Nat->Option OB) (l:List AV),Post M rs N/\v=bB l/\dR rs l H/\∀r x,N r=some x->H.ob r=some x/\xE x=true
theorem pe:∀(l:List eP) (H:AH),(kg H l).2.ob=H.ob
 |[],_=>rfl
 |.v x::l,H=>pe l H
 |.o ty esz n z row::l,H=>pe l (H.new (aG ty esz n z row))
theorem pc:∀(rs:List RT) (H:AH),(dq H rs).2.ob=H.ob
 |[],_=>rfl
 |.v x::rs,H=>pc rs H
 |.o ty esz n z row::rs,H=>rfl
 |.a l::rs,H=>pe l H
theorem HR.addOb{B:Nat}{σ:Sg}{H:AH}{w:World}(h:HR B σ H w){ob N:Nat->Option OB}(he:H.ob=ob)(hN:∀r x,N r=some x->AN B w r x):HR B σ (H.addOb N) w:=
 ⟨h.new,h.newl,h.old,h.small,h.hB,h.nil,h.nilp,h.blk,h.szs,h.inj,h.frz,λr x hx=>by
  have hx:(match H.ob r with|some x=>some x|none=>N r)=some x:=hx
  split at hx
  ·rename_i y hy;cases hx;exact h.ob r x hy
  ·exact hN r x hx⟩
theorem bS{P:Program}{g:FuncId}{args fargs:List AV}{H:AH}{Pr:(Nat->Option OB)->Prop}{Post:(Nat->Option OB)->List RT->(Nat->Option OB)->Prop}{Q:AV->AH->Prop}(M:List Nat)(hcv:jX M H args fargs)(h:iz P g fargs Pr Post)(hpre:Pr H.ob)(hnx:H.next+9<2^40)
  (hQ:∀rs N,Post H.ob rs N->(∀r x,N r=some x->H.ob r=none)->Q (bB (dq (cg H M) rs).1) ((dq (cg H M) rs).2.addOb N)):kK P g args H Q:=by
 replace h:=h H.ob hpre
 refine⟨h.1,λB σ w args' hH ha=>?_⟩
 obtain⟨σ2,q1,q2,q3,q4,q5,q6,q7⟩:=hH.marks M
 have hd:bz (Sg.data σ2.fz) fargs args'.toList:=hcv.ok hH q1 q2 q7 ha
 have hin:pX σ2.fz w:=λc fs hf=>by
  obtain⟨cs,t,fr,e1,e2,_⟩:=q6.frz c fs hf
  exact⟨cs,t,fr,e1,e2⟩
 refine(h.2 σ2.fz w args' hin hd hH.ob.lend).mono λe w' hp=>?_
 cases e with
 |panicked c=>exact hp.elim
 |outgrown=>exact hp.elim
 |returned u=>
  obtain⟨v,Hc,σ',⟨rs,N,l,hpost,rfl,hr,hN⟩,hv,hHc,hbel,hfz⟩:=hp
  obtain⟨us,hus,hback⟩:=hZ hv
  let σa:Sg:=⟨σ2.nm,σ2.nl,σ'.fz⟩
  have hle:σ2.le σa:=⟨λ_ _ hh=>hh,λ_ hh=>hh,λc fs hf=>⟨fs,by show σ'.fz c=_;rw[hfz c (q6.fzlt hf)];exact hf,gi.refl _⟩⟩
  have hblt:∀b c o,σa b=some (c,o)->(cg H M).at b≠none->c<w.heap.size:=λb c o hs hne=>by
   cases hx:(cg H M).at b with
   |none=>exact absurd hx hne
   |some x=>
    obtain⟨cs,e1,e2,e3⟩:=q6.blk b x c o hx hs
    exact(Array.getElem?_eq_some_iff.1 e2).1
  have hHa:HR B σa (cg H M) w':=by
   refine⟨q6.new,q6.newl,q6.old,q6.small,Nat.le_trans q6.hB hbel.size,q6.nil,q6.nilp,λb x c o hx hs=>?_,q6.szs,q6.inj,λc fs hf=>?_,q6.ob.keep λr hr _=>hbel.block r hr⟩
   ·obtain⟨cs,e1,e2,e3⟩:=q6.blk b x c o hx hs
    exact⟨cs,e1,by rw[hbel.block c ((Array.getElem?_eq_some_iff.1 e2).1)];exact e2,e3.mono hle⟩
   ·by_cases hc:c<w.heap.size
    ·have hf':σ'.fz c=some fs:=hf
     rw[hfz c hc] at hf'
     obtain⟨cs,t,fr,e1,e2,e3⟩:=q6.frz c fs hf'
     exact⟨cs,t,fr,by rw[hbel.block c hc];exact e1,e2,e3⟩
    ·obtain⟨cs,t,fr,e1,e2,_⟩:=hHc.frz c fs hf
     refine⟨cs,t,fr,e1,e2,λb x o hx hs=>?_⟩
     have:=hblt b c o hs (by rw[hx];simp)
     omega
  have hnx':(cg H M).next+9<2^40:=by rw[eI];exact hnx
  have hmm:∀{a:AV} {u:Value} {σn:Sg},a.pu 3=true->True->σa.le σn->VR σ' a u->VR σn a u:=λhp _ hle' hu=>by
   have e1:=hu.pure 3 hp
   have e2:σ'.bare.le _:=⟨λb x hx=>(by cases hx),λb hb=>False.elim hb,λc' fs hf=>hle'.fz c' fs hf⟩
   exact e1.mono e2
  obtain⟨σ3,p1,p2,p3,p4,p5,p6,p7,p8⟩:=pb (σa:=σa) (good:=λ_=>True) hmm hHc hHa (λc fs _ hf=>hf) hH.hB hblt hnx' rs l us hr (λr _=>uk r) hus
  rw[eI] at p5 p6 p8
  rw[ke] at p7
  have hfree:∀r x,N r=some x->H.ob r=none:=λr x hx=>by
   cases ho:H.ob r with
   |none=>rfl
   |some y=>
    have h1:=hH.ob.lt ho
    obtain⟨h2,h3⟩:=hN r x hx
    cases x with
    |mp x=>
     have:=(hHc.ob r _ h2).1 h3
     omega
    |it y=>cases h3
    |fix o=>cases h3
  refine⟨_,_,σ3,hQ rs N hpost hfree,hback (fE rs l _ hr) p2,p1.addOb (by rw[pc,l6]) (λr x hx=>(hHc.ob r x (hN r x hx).1).down ⟨Nat.le_trans hH.hB hbel.size,hH.hB⟩),⟨λb hb=>?_,(q1.trans hle).trans p3,p6,by show(dq (cg H M) rs).2.low<=_;rw[p7];exact Nat.le_refl _,?_,λc hc=> .inl (hbel.block c hc),λb c o hb hs hc=>?_⟩,⟨λc hc=>?_,((q1.trans hle).trans p3).fz⟩⟩
  ·rw[p5 b hb];show σ2.nm b=σ.nm b;rw[q2]
  ·exact⟨hbel.os,hbel.tape,hbel.output,hbel.size,λk hk=>hbel.block k (by have:=hH.hB;omega)⟩
  ·have:=p8 b c o hb hs
   omega
  ·rw[p4]
   show σ'.fz c=σ.fz c
   rw[hfz c (by have:=hH.hB;omega),q4.eq c hc]
theorem HR.recell{B:Nat}{σ:Sg}{H:AH}{w:World}{b:Nat}{x x':AB}(h:HR B σ H w)(hx:H.at b=some x)(hb:b<1000000)(hsz:x'.size=x.size)(hty:x'.ty=x.ty)(hesz:x'.esz=x.esz)(hop:x'.opn=x.opn)(hlv:x'.live=true)(hfz:x'.fzn=x.fzn)
  (hc:∀i u,i<x.size->VR σ (x.get i) u->VR σ (x'.get i) u):HR B σ (H.upd b x') w:=by
 have look:∀b2 y,(H.upd b x').at b2=some y->(b2=b/\y=x')\/(b2≠b/\H.at b2=some y):=by
  intro b2 y hy
  rw[km hb] at hy
  by_cases e:b2=b
  ·rw[if_pos e,if_pos hlv] at hy;cases hy;exact .inl ⟨e,rfl⟩
  ·rw[if_neg e] at hy;exact .inr ⟨e,hy⟩
 refine⟨h.new,h.newl,λb2 hb2=>?_,h.small,h.hB,λb2 y hy hn=>?_,h.nilp,λb2 y c o hy hs=>?_,λb2 y hy=>?_,λb2 b3 y y' c o o' k1 k2 k3 k4=>?_,λc fs hf=>?_,h.ob⟩
 ·cases hy:(H.upd b x').at b2 with
  |none=>rfl
  |some y=>
   rcases look b2 y hy with⟨rfl,_⟩|⟨_,h1⟩
   ·have:=h.old b2 hb2;rw[hx] at this;cases this
   ·have:=h.old b2 hb2;rw[h1] at this;cases this
 ·rcases look b2 y hy with⟨rfl,rfl⟩|⟨_,h1⟩
  ·have:=h.nil b2 x hx hn
   exact⟨by rw[hsz];exact this.1,by rw[hop];exact this.2.1,this.2.2⟩
  ·exact h.nil b2 y h1 hn
 ·rcases look b2 y hy with⟨rfl,rfl⟩|⟨_,h1⟩
  ·obtain⟨cs,g1,g2,g3⟩:=h.blk b2 x c o hx hs
   exact⟨cs,g1,by rw[hty];exact g2,by rw[hsz];exact g3.sz,λe=>by rw[hsz];exact g3.ex e,λk hk=>by rw[hesz];exact g3.op k hk,by rw[hop];exact g3.ob,λi hi=>hc i _ (by rw[<-hsz];exact hi) (g3.cell i (by rw[<-hsz];exact hi))⟩
  ·exact h.blk b2 y c o h1 hs
 ·rcases look b2 y hy with⟨rfl,rfl⟩|⟨_,h1⟩
  ·rw[hsz];exact h.szs b2 x hx
  ·exact h.szs b2 y h1
 ·have f:∀b2 y,(H.upd b x').at b2=some y->∃z,H.at b2=some z:=λb2 y hy=>by
   rcases look b2 y hy with⟨rfl,rfl⟩|⟨_,h1⟩
   ·exact⟨x,hx⟩
   ·exact⟨y,h1⟩
  obtain⟨z1,hz1⟩:=f b2 y k1
  obtain⟨z2,hz2⟩:=f b3 y' k2
  exact h.inj b2 b3 z1 z2 c o o' hz1 hz2 k3 k4
 ·obtain⟨cs,t,fr,g1,g2,g3⟩:=h.frz c fs hf
  refine⟨cs,t,fr,g1,g2,λb2 y o hy hs=>?_⟩
  rcases look b2 y hy with⟨rfl,rfl⟩|⟨_,h1⟩
  ·rw[hfz];exact g3 b2 x o hx hs
  ·exact g3 b2 y o h1 hs
theorem Wk.nilb{n:Nat}{e:Tr AV}{H:AH}(b i esz ty:Nat){x:AB}(hx:H.at b=some x)(hg:x.get i= .sl0)(hi:i<1000000)(hb:b<1000000)(hbn:b<H.next)(hlv:x.live=true)(hn:H.next<1000000):
  Wk n e H e ((H.new (gl esz ty)).upd b (x.set i (.os H.next 0))):=by
 intro B σ a w hE hH
 have hle:=σ.le_extNil H.next
 have h1:=hH.placeNil (x:=gl esz ty) (H1:=H) rfl (λ_ _ h=>h) (by omega) rfl rfl rfl rfl
 refine⟨σ.extNil H.next,⟨⟨hE.er.df,λt' v hv=>(hE.er.get t' v hv).mono hle⟩,hE.sz,hE.sm⟩,?_,.of_eq rfl⟩
 have hx1:(H.new (gl esz ty)).at b=some x:=by rw[i4 hn,if_neg (by omega)];exact hx
 refine h1.recell hx1 hb rfl rfl rfl rfl hlv rfl (λj u hj hu=>?_)
 rw[oI hi]
 by_cases e:j=i
 ·rw[if_pos e]
  rw[e,hg] at hu
  cases hu
  exact .os0 (σ:=σ.extNil H.next) (Or.inl rfl) _
 ·rw[if_neg e];exact hu
theorem HR.after{w w':World}{φ:Fz}(hφ:pX φ w)(h:Below w.heap.size w w'):HR w.heap.size (Sg.data φ) ⟨.nil,0,2^40,λ_=>none⟩ w':=by
 have e:=HR.empty w hφ
 exact⟨e.new,e.newl,e.old,e.small,h.size,e.nil,e.nilp,λb x c o hx hs=>(by cases hs),e.szs,λb b' x x' c o o' _ _ hs _=>(by cases hs),λc fs hf=>by
  obtain⟨cs,t,fr,h1,h2⟩:=hφ c fs hf
  have hc:c<w.heap.size:=(Array.getElem?_eq_some_iff.1 h1).1
  exact⟨cs,t,fr,by rw[h.block c hc];exact h1,h2,λb x o _ hs=>(by cases hs)⟩,λr x hx=>(by cases hx)⟩
end Go.Proofs.Yteopfmnnhlhbmaa