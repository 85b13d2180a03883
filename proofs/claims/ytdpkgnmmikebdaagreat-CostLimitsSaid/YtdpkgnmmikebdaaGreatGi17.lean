/- A part of the proof of CostLimits. No condition. -/
import Derived.Test.YtdpkgnmmikebdaaGreatGi14
set_option linter.unusedSimpArgs false
set_option linter.unusedVariables false
set_option linter.constructorNameAsVariable false
set_option maxRecDepth 100000
set_option maxHeartbeats 4000000
namespace Go.Proofs.YtdpkgnmmikebdaaGreat
open Go.RowKit
section
variable {x:AB}{g:FuncId}{args l:List AV}{M u:List Nat}{rs:List RT}{b esz ty z:Nat}{row:Nat->Nat->AV}{r:Nat->Option Nat}
/-! what follows an operation,closed till its value is there-/
def LU(P:Program)(l:List AO)(e:Tr AV)(d:Option Nat)(Q:Tr AV->AH->Prop)(v:AV)(H:AH):Prop:=nT P l (fQ e d v) H Q
theorem E1(P:Program)(l:List AO)(e:Tr AV)(d:Option Nat)(Q:Tr AV->AH->Prop)(v:AV)(H:AH):LU P l e d Q v H=nT P l (fQ e d v) H Q:=id rfl
theorem Ft(P:Program)(e:Tr AV)(H:AH)(Q:Tr AV->AH->Prop):nT P [] e H Q=Q e H:=id rfl
def gdO(P:Program)(d:Option Nat)(k:AK)(l:List AO)(e:Tr AV)(H:AH)(Q:Tr AV->AH->Prop):Option Bool->Prop
 |some true=>gK P e H k (LU P l e d Q)
 |some false=>nT P l (fQ e d (.tup [])) H Q
 |none=>False
theorem Fm(P:Program)(d:Option Nat)(k:AK)(l:List AO)(e:Tr AV)(H:AH)(Q:Tr AV->AH->Prop):gdO P d k l e H Q (some true)=gK P e H k (LU P l e d Q):=id rfl
theorem CI(P:Program)(d:Option Nat)(k:AK)(l:List AO)(e:Tr AV)(H:AH)(Q:Tr AV->AH->Prop):gdO P d k l e H Q (some false)=nT P l (fQ e d (.tup [])) H Q:=id rfl
theorem CP(P:Program)(d:Option Nat)(g:Option (Nat×Bool))(k:AK)(l:List AO)(e:Tr AV)(H:AH)(Q:Tr AV->AH->Prop):nT P (⟨d,g,k⟩::l) e H Q=gdO P d k l e H Q (gM e g):=by
 show(match gM e g with
  |some t=>(t=true->gK P e H k (LU P l e d Q))/\(t=false->nT P l (fQ e d (.tup [])) H Q)
  |none=>False)=_
 cases gM e g with
 |none=>rfl
 |some t=>cases t<;>simp[gdO]
def yu(r:Option (AV×AH))(Q:AV->AH->Prop):Prop:=match r with
  |some (v,H')=>Q v H'
  |none=>False
theorem zV(v:AV)(H:AH)(Q:AV->AH->Prop):yu (some (v,H)) Q=Q v H:=id rfl
theorem zW(Q:AV->AH->Prop):yu none Q=False:=id rfl
theorem anN(P:Program)(e:Tr AV)(H:AH)(x:AP)(Q:AV->AH->Prop):gK P e H (.ap x) Q=yu (x.run e H) Q:=id rfl
def snA(neg:Bool)(H:AH)(Q:AV->AH->Prop):Option AV->Prop
 |some (.fs _ n _)=>∀t,(t=(!neg)->n=0)->Q (.b t) H
 |some .sl0=>∀t,Q (.b t) H
 |_=>False
theorem anL(P:Program)(e:Tr AV)(H:AH)(neg:Bool)(x:AX)(Q:AV->AH->Prop):gK P e H (.sn neg x) Q=snA neg H Q (x.ev e):=id rfl
theorem Zn(neg:Bool)(H:AH)(Q:AV->AH->Prop)(esz n:Nat)(row:Nat->Nat->AV):snA neg H Q (some (.fs esz n row))=∀t,(t=(!neg)->n=0)->Q (.b t) H:=rfl
theorem K9(neg:Bool)(H:AH)(Q:AV->AH->Prop):snA neg H Q (some .sl0)=∀t,Q (.b t) H:=id rfl
theorem anM(P:Program)(e:Tr AV)(H:AH)(f:AX)(args:List AX)(Q:AV->AH->Prop):gK P e H (.cl f args) Q=match f.ev e,yP e args with
  |some (.f g first cap),some vs=>qS P g (first++vs++cap) H Q
  |_,_=>False:=id rfl
def zD(P:Program)(H0:AH)(m:Nat)(nc:Bool)(l:List (Nat×AO))(e:Tr AV)(d:Option Nat)(Q:Tr AV->AH->Prop)(v:AV)(H:AH):Prop:=l9 P H0 m nc l (fQ e d v) H Q
theorem E3(P:Program)(H0:AH)(m:Nat)(nc:Bool)(l:List (Nat×AO))(e:Tr AV)(d:Option Nat)(Q:Tr AV->AH->Prop)(v:AV)(H:AH):zD P H0 m nc l e d Q v H=l9 P H0 m nc l (fQ e d v) H Q:=id rfl
def A5(P:Program)(H0:AH)(m:Nat)(nc:Bool)(k:Nat)(l:List (Nat×AO))(e:Tr AV)(d:Option Nat)(Q:Tr AV->AH->Prop)(v:AV)(H:AH):Prop:=(k=3\/m<=H.low)/\l9 P H0 m nc l (fQ e d v) H Q
theorem CA(P:Program)(H0:AH)(m:Nat)(nc:Bool)(k:Nat)(l:List (Nat×AO))(e:Tr AV)(d:Option Nat)(Q:Tr AV->AH->Prop)(v:AV)(H:AH):A5 P H0 m nc k l e d Q v H=((k=3\/m<=H.low)/\l9 P H0 m nc l (fQ e d v) H Q):=id rfl
theorem Fu(P:Program)(H0:AH)(m:Nat)(nc:Bool)(e:Tr AV)(H:AH)(Q:Tr AV->AH->Prop):l9 P H0 m nc [] e H Q=Q e H:=id rfl
def gdM(P:Program)(H0:AH)(m:Nat)(nc:Bool)(k:Nat)(d:Option Nat)(a:AK)(l:List (Nat×AO))(e:Tr AV)(H:AH)(Q:Tr AV->AH->Prop):Option Bool->Prop
 |some true=>if k=1 then iz H0 m nc e a/\gK P e H a (zD P H0 m nc l e d Q)
    else if k=2 then jq a=true/\gK P e H a (zD P H0 m nc l e d Q)
    else gK P e H a (A5 P H0 m (nc&& !ly a) k l e d Q)
 |some false=>(k=0->m<=H.low)/\l9 P H0 m nc l (fQ e d (.tup [])) H Q
 |none=>False
theorem Fn(P:Program)(H0:AH)(m:Nat)(nc:Bool)(k:Nat)(d:Option Nat)(a:AK)(l:List (Nat×AO))(e:Tr AV)(H:AH)(Q:Tr AV->AH->Prop):gdM P H0 m nc k d a l e H Q (some true)=if k=1 then iz H0 m nc e a/\gK P e H a (zD P H0 m nc l e d Q)
    else if k=2 then jq a=true/\gK P e H a (zD P H0 m nc l e d Q)
    else gK P e H a (A5 P H0 m (nc&& !ly a) k l e d Q):=id rfl
theorem CJ(P:Program)(H0:AH)(m:Nat)(nc:Bool)(k:Nat)(d:Option Nat)(a:AK)(l:List (Nat×AO))(e:Tr AV)(H:AH)(Q:Tr AV->AH->Prop):gdM P H0 m nc k d a l e H Q (some false)=((k=0->m<=H.low)/\l9 P H0 m nc l (fQ e d (.tup [])) H Q):=id rfl
theorem CQ(P:Program)(H0:AH)(m:Nat)(nc:Bool)(k:Nat)(d:Option Nat)(g:Option (Nat×Bool))(a:AK)(l:List (Nat×AO))(e:Tr AV)(H:AH)(Q:Tr AV->AH->Prop):l9 P H0 m nc ((k,⟨d,g,a⟩)::l) e H Q=gdM P H0 m nc k d a l e H Q (gM e g):=by
 show(match gM e g with
  |some t=>
   (t=true->if k=1 then iz H0 m nc e a/\gK P e H a (zD P H0 m nc l e d Q)
    else if k=2 then jq a=true/\gK P e H a (zD P H0 m nc l e d Q)
    else gK P e H a (A5 P H0 m (nc&& !ly a) k l e d Q))/\
   (t=false->(k=0->m<=H.low)/\l9 P H0 m nc l (fQ e d (.tup [])) H Q)
  |none=>False)=_
 cases gM e g with
 |none=>rfl
 |some t=>cases t<;>simp[gdM]
def A3(P:Program)(m:Nat)(T:AT)(e:Tr AV)(d:Option Nat)(Q:Tr AV->AH->Prop)(v:AV)(H:AH):Prop:=m<=H.low/\lj P m T (fQ e d v) H Q
theorem Ct(P:Program)(m:Nat)(T:AT)(e:Tr AV)(d:Option Nat)(Q:Tr AV->AH->Prop)(v:AV)(H:AH):A3 P m T e d Q v H=(m<=H.low/\lj P m T (fQ e d v) H Q):=id rfl
theorem CN(P:Program)(m:Nat)(e:Tr AV)(H:AH)(Q:Tr AV->AH->Prop):lj P m .fin e H Q=Q e H:=id rfl
theorem zJ(P:Program)(m:Nat)(e:Tr AV)(H:AH)(Q:Tr AV->AH->Prop):lj P m .none e H Q=True:=id rfl
def gdT(P:Program)(m:Nat)(d:Option Nat)(a:AK)(r:AT)(e:Tr AV)(H:AH)(Q:Tr AV->AH->Prop):Option Bool->Prop
 |some true=>gK P e H a (A3 P m r e d Q)
 |some false=>m<=H.low/\lj P m r (fQ e d (.tup [])) H Q
 |none=>False
theorem Fl(P:Program)(m:Nat)(d:Option Nat)(a:AK)(r:AT)(e:Tr AV)(H:AH)(Q:Tr AV->AH->Prop):gdT P m d a r e H Q (some true)=gK P e H a (A3 P m r e d Q):=id rfl
theorem CH(P:Program)(m:Nat)(d:Option Nat)(a:AK)(r:AT)(e:Tr AV)(H:AH)(Q:Tr AV->AH->Prop):gdT P m d a r e H Q (some false)=(m<=H.low/\lj P m r (fQ e d (.tup [])) H Q):=id rfl
theorem CO(P:Program)(m:Nat)(d:Option Nat)(g:Option (Nat×Bool))(a:AK)(r more:AT)(e:Tr AV)(H:AH)(Q:Tr AV->AH->Prop):lj P m (.alt ⟨d,g,a⟩ r more) e H Q=(gdT P m d a r e H Q (gM e g)/\lj P m more e H Q):=by
 show((match gM e g with
   |some t=>(t=true->gK P e H a (A3 P m r e d Q))/\(t=false->m<=H.low/\lj P m r (fQ e d (.tup [])) H Q)
   |none=>False)/\lj P m more e H Q)=_
 cases gM e g with
 |none=>rfl
 |some t=>cases t<;>simp[gdT]
theorem FR(H0:AH)(m:Nat)(nc:Bool)(e:Tr AV)(n:Nat)(row:Bool)(x:AX):iz H0 m nc e (.ap (.ld n row x))=match x.ev e with
  |some (.p b _)=>b<m/\(H0.at b).isSome=true
  |some (.fp _ _ _)=>nc=true
  |_=>False:=id rfl
theorem Zt(k:IntKind)(a b:Int):kt (binOp .lss 0 (.int k a) (.int k b))=some (.b (decide (a<b))):=by cases k<;>rfl
theorem Zu(k:IntKind)(a b:Int):kt (binOp .leq 0 (.int k a) (.int k b))=some (.b (decide (a<=b))):=by cases k<;>rfl
theorem Zv(k:IntKind)(a b:Int):kt (binOp .gtr 0 (.int k a) (.int k b))=some (.b (decide (b<a))):=by cases k<;>rfl
theorem Zw(k:IntKind)(a b:Int):kt (binOp .geq 0 (.int k a) (.int k b))=some (.b (decide (b<=a))):=by cases k<;>rfl
theorem Zx(k:IntKind)(a b:Int):kt (binOp .eql 0 (.int k a) (.int k b))=some (.b (decide (a=b))):=by
 cases k<;>(show some (AV.b (a==b))=_;congr)
theorem Zr(k:IntKind)(a b:Int):kt (binOp .neq 0 (.int k a) (.int k b))=some (.b (!decide (a=b))):=by
 cases k<;>(show some (AV.b (a != b))=_;congr)
theorem Zy(k:IntKind)(a b:Int):kt (binOp .add 0 (.int k a) (.int k b))=some (.n k (k.wrap (a+b))):=by cases k<;>rfl
theorem Zp(k:IntKind)(a b:Int):kt (binOp .sub 0 (.int k a) (.int k b))=some (.n k (k.wrap (a-b))):=by cases k<;>rfl
theorem Zs(k:IntKind)(a b:Int):kt (binOp .mul 0 (.int k a) (.int k b))=some (.n k (k.wrap (a*b))):=by cases k<;>rfl
theorem Zq(b:Bool):kt (Op.unary .not (.bool b))=some (.b (!b)):=rfl
theorem ff{x:Int}(h: -9223372036854775808<=x/\x<=9223372036854775807):IntKind.wrap .i64 x=x:=by
 rw[IntKind.wrap_i64];omega
theorem KW{x:Int}(h:0<=x/\x<=4294967295):IntKind.wrap .u32 x=x:=by
 rw[IntKind.wrap_u32];omega
theorem Bz(e:Tr AV):gM e none=some true:=rfl
theorem Wk.arg(n:Nat)(args:List AV)(H:AH)(h:args.length<100000):Wk n (oh args) H (fu (fy 0 args)) H:=by
 intro B σ a w hE hH;refine⟨σ,⟨⟨hE.er.df,λt v hv=>hE.er.get t v ?_⟩,hE.sz,hE.sm⟩,hH,.refl _ _⟩;rw[tW _ _ _ aa] at hv;rw[mT _ _ aa];split at hv
 ·simpa using hv
 ·cases hv
theorem vk{i:Nat}(h:i<1000000)(v:AV)(j:Nat):(x.set i v).get j=if j=i then v else x.get j:=AB.get_set x i j v aa
theorem Fd(n esz ty:Nat)(d:Nat->AV)(l:List AV)(o lv:Bool)(z i:Nat)(h:l.length<1000000):AB.get ⟨n,esz,ty,d,oh l,o,lv,z⟩ i=l[i]?.getD (d i):=by
 simp only[AB.get];rw[mT l i aa]
theorem get_nil(n esz ty:Nat)(d:Nat->AV)(o lv:Bool)(z i:Nat):AB.get ⟨n,esz,ty,d,.nil,o,lv,z⟩ i=d i:=id rfl
theorem Wk.nil{n:Nat}{e:Tr AV}{H:AH}(t esz ty:Nat)(ht:e.get t=some .sl0)(hs:t<1000000)(hn:H.next<1000000):Wk n e H (fQ e (some t) (.os H.next 0)) (H.new (l8 esz ty)):=by
 intro B σ a w hE hH;have hle:=σ.le_extNil H.next
 refine⟨σ.extNil H.next,⟨⟨hE.er.df,λt' v hv=>?_⟩,hE.sz,hE.sm⟩,hH.placeNil rfl (λ_ _ h=>h) aa rfl rfl rfl ⟨rfl,rfl⟩,.of_eq rfl⟩
 simp only[fQ] at hv;rw[Tr.get_set 48 e t _ t' aa] at hv;by_cases h:t'=t
 ·subst h;rw[if_pos rfl] at hv;cases hv;have:=hE.er.get t' _ ht;generalize a.tmps.getD t' undef=u at this;cases this;exact .os0 (σ:=σ.extNil H.next) (Or.inl rfl) _
 ·rw[if_neg h] at hv;exact(hE.er.get t' v hv).mono hle
theorem BK(ty esz n z:Nat)(row:Nat->Nat->AV):(fg ty esz n z row).size=n*esz:=id rfl
theorem DT(ty esz n z:Nat)(row:Nat->Nat->AV):(fg ty esz n z row).esz=esz:=id rfl
theorem Lg(ty esz n z:Nat)(row:Nat->Nat->AV):(fg ty esz n z row).ty=ty:=id rfl
theorem DR(ty esz n z:Nat)(row:Nat->Nat->AV):(fg ty esz n z row).opn=true:=id rfl
theorem BL(ty esz n z:Nat)(row:Nat->Nat->AV):(fg ty esz n z row).live=true:=id rfl
theorem DS(ty esz n z:Nat)(row:Nat->Nat->AV):(fg ty esz n z row).fzn=z:=id rfl
theorem Ca(esz ty:Nat):(l8 esz ty).size=0:=id rfl
theorem Ek(esz ty:Nat):(l8 esz ty).esz=esz:=id rfl
theorem Ly(esz ty:Nat):(l8 esz ty).ty=ty:=id rfl
theorem Ei(esz ty:Nat):(l8 esz ty).opn=true:=id rfl
theorem Cb(esz ty:Nat):(l8 esz ty).live=true:=id rfl
theorem Ej(esz ty:Nat):(l8 esz ty).fzn=0:=id rfl
theorem jB{l:List AB}(h:l.length<1000000)(x:AB)(b:Nat):(fi (x::l)).at b=if b=l.length then(if x.live then some x else none) else(fi l).at b:=by
 rw[jE,kG (by rw[gl];exact h),gl]
theorem xK:∀l:List AB,(fi l).low=2^40
 |[]=>rfl
 |x::l=>xK l
theorem Cj(esz ty:Nat)(l:List AV):(eZ esz ty l).size=l.length:=id rfl
theorem EH(esz ty:Nat)(l:List AV):(eZ esz ty l).esz=esz:=id rfl
theorem LF(esz ty:Nat)(l:List AV):(eZ esz ty l).ty=ty:=id rfl
theorem EF(esz ty:Nat)(l:List AV):(eZ esz ty l).opn=false:=id rfl
theorem Ck(esz ty:Nat)(l:List AV):(eZ esz ty l).live=true:=id rfl
theorem EG(esz ty:Nat)(l:List AV):(eZ esz ty l).fzn=0:=id rfl
theorem anv(x:Bool):AV.one (.b x)=true:=id rfl
theorem Mn(x:Bool):AV.cells (.b x)=[.b x]:=id rfl
theorem ant(k:IntKind)(x:Int):AV.one (.n k x)=true:=id rfl
theorem Ml(k:IntKind)(x:Int):AV.cells (.n k x)=[.n k x]:=id rfl
theorem anr(x:ByteArray):AV.one (.s x)=true:=id rfl
theorem Mi(x:ByteArray):AV.cells (.s x)=[.s x]:=id rfl
theorem Z6:AV.one (.p0)=true:=id rfl
theorem F2:AV.cells (.p0)=[.p0]:=id rfl
theorem ans(b o:Nat):AV.one (.p b o)=true:=id rfl
theorem Mj(b o:Nat):AV.cells (.p b o)=[.p b o]:=id rfl
theorem Lw:AV.one (.sl0)=true:=id rfl
theorem C4:AV.cells (.sl0)=[.sl0]:=id rfl
theorem Z5(b o l c:Nat):AV.one (.sl b o l c)=true:=id rfl
theorem F1(b o l c:Nat):AV.cells (.sl b o l c)=[.sl b o l c]:=id rfl
theorem aaa:AV.one (.f0)=true:=id rfl
theorem F6:AV.cells (.f0)=[.f0]:=id rfl
theorem anu(g:FuncId)(l1 l2:List AV):AV.one (.f g l1 l2)=true:=id rfl
theorem Mm(g:FuncId)(l1 l2:List AV):AV.cells (.f g l1 l2)=[.f g l1 l2]:=id rfl
theorem aab(v:Value):AV.one (.cv v)=true:=id rfl
theorem F7(v:Value):AV.cells (.cv v)=[.cv v]:=id rfl
theorem Z8(z n:Nat)(r:Nat->Nat->AV):AV.one (.fs z n r)=true:=id rfl
theorem F4(z n:Nat)(r:Nat->Nat->AV):AV.cells (.fs z n r)=[.fs z n r]:=id rfl
theorem Z9(z:Nat)(r:Nat->AV)(j:Nat):AV.one (.fp z r j)=true:=id rfl
theorem F5(z:Nat)(r:Nat->AV)(j:Nat):AV.cells (.fp z r j)=[.fp z r j]:=id rfl
theorem Z7(b n:Nat):AV.one (.os b n)=true:=id rfl
theorem F3(b n:Nat):AV.cells (.os b n)=[.os b n]:=id rfl
theorem C5(l:List AV):AV.cells (.agg l)=l:=id rfl
def AB.fr(x:AB):AB:={x with fzn:=max x.size x.fzn}
theorem Gd{H:AH}(h:b<1000000)(b':Nat):(H.mark b).at b'=if b'=b then(H.at b).map AB.fr else H.at b':=Gf h b'
theorem aaG(x:AB)(i:Nat):x.fr.get i=x.get i:=id rfl
theorem L3(x:AB):x.fr.size=x.size:=id rfl
theorem aaI(x:AB):x.fr.esz=x.esz:=id rfl
theorem anO(x:AB):x.fr.ty=x.ty:=id rfl
theorem aaF(x:AB):x.fr.opn=x.opn:=id rfl
theorem L4(x:AB):x.fr.live=x.live:=id rfl
theorem aaH(x:AB):x.fr.fzn=max x.size x.fzn:=id rfl
def zx(esz ty:Nat)(l:List AV):AB:=⟨l.length,esz,ty,λ_=> .u,oh l,false,true,l.length⟩
theorem Ch(esz ty:Nat)(l:List AV):(zx esz ty l).size=l.length:=id rfl
theorem EE(esz ty:Nat)(l:List AV):(zx esz ty l).esz=esz:=id rfl
theorem LD(esz ty:Nat)(l:List AV):(zx esz ty l).ty=ty:=id rfl
theorem EB(esz ty:Nat)(l:List AV):(zx esz ty l).opn=false:=id rfl
theorem Ci(esz ty:Nat)(l:List AV):(zx esz ty l).live=true:=id rfl
theorem ED(esz ty:Nat)(l:List AV):(zx esz ty l).fzn=l.length:=id rfl
theorem EC(esz ty:Nat)(l:List AV)(i:Nat)(h:l.length<1000000):(zx esz ty l).get i=l[i]?.getD .u:=qy esz ty l i h
theorem ja.get{H:AH}:∀{l l':List AV},ja M H l l'->l.length=l'.length/\∀(i:Nat) (v v':AV),l[i]? =some v->l'[i]? =some v'->Cv M H v v'
 |[],[],_=>⟨rfl,λi v v' h=>by simp at h⟩
 |[],_::_,h=>h.elim
 |_::_,[],h=>h.elim
 |x::l,x'::l',h=>by
  obtain⟨h1,h2⟩:=h;obtain⟨e1,e2⟩:=h2.get;refine⟨by simp[e1],λi v v' hv hv'=>?_⟩
  cases i with
  |zero=>simp at hv hv';subst hv;subst hv';exact h1
  |succ i=>exact e2 i v v' (by simpa using hv) (by simpa using hv')
theorem Cv.fn{H:AH}{l1 l2 l1' l2':List AV}(h1:ja M H l1 l1')(h2:ja M H l2 l2'):Cv M H (.f g l1 l2) (.f g l1' l2'):= .f h1.get.1 h2.get.1 h1.get.2 h2.get.2
theorem Cv.box{H:AH}(hm:M.contains b=true)(hx:H.at b=some x)(hs:x.size=l.length)(h0:0<l.length)(hg:∀j,j<l.length->x.get j=l[j]?.getD .u)(hc:l.all AV.cell=true):Cv M H (.p b 0) (.fp l.length (λj=>l[j]?.getD .u) 0):=
 .p (o:=0) (j:=0) (by simpa using hm) hx aa aa (λq hq=>by rw[apz];exact hg q hq) (λq hq=>by
  rw[apk hq];exact apr.1 hc _ (ap2 hq))
theorem app_size(x:AB)(o:Nat)(s:ke):(x.app o s).size=o+s.len:=AB.app_size x o s
theorem Ms(x:AB)(o:Nat)(s:ke):(x.app o s).esz=x.esz:=(AB.app_rest x o s).1
theorem aa8(x:AB)(o:Nat)(s:ke):(x.app o s).ty=x.ty:=(AB.app_rest x o s).2.1
theorem Mq(x:AB)(o:Nat)(s:ke):(x.app o s).opn=true:=(AB.app_rest x o s).2.2.1
theorem Gi(x:AB)(o:Nat)(s:ke):(x.app o s).live=true:=(AB.app_rest x o s).2.2.2.1
theorem Mr(x:AB)(o:Nat)(s:ke):(x.app o s).fzn=x.fzn:=(AB.app_rest x o s).2.2.2.2
theorem rX(x:AB)(n esz:Nat)(l:List AV)(hl:l.length=esz)(hlim:(n+1)*esz<2^40)(i j:Nat)(hi:i<n+1)(hj:j<esz):(x.app (n*esz) (.li l)).get (i*esz+j)=if i<n then x.get (i*esz+j) else l[j]?.getD .u:=by
 have h1:=mJ hi hj;rw[Nat.add_mul] at hlim h1;rw[AB.app_get _ _ _ _ (by simp only[ke.len,hl];omega) (by simp only[ke.len,hl];omega)]
 by_cases h:i<n
 ·have:=mJ h hj;rw[if_neg aa,if_pos h]
 ·have:i=n:=aa;subst this;rw[if_pos aa,if_neg aa];simp only[ke.at];congr 2;omega
theorem sQ{n:Nat}{row2:Nat->Nat->AV}(hl:l.length=esz)(hlim:(n+1)*esz<2^40)(h1:∀i j,i<n->j<esz->row2 i j=row i j)(h2:∀j,j<esz->row2 n j=l[j]?.getD .u):
  ∀i j,i<n+1->j<esz->((fg ty esz n z row).app (n*esz) (.li l)).get (i*esz+j)=row2 i j:=by
 intro i j hi hj;rw[rX _ n esz l hl hlim i j hi hj];by_cases h:i<n
 ·rw[if_pos h,fI i j hj,h1 i j h hj]
 ·have:i=n:=aa;subst this;rw[if_neg h,h2 j hj]
theorem js.rows{H:AH}{n:Nat}(hx:H.at b=some x)(h1:x.ty=ty)(h2:x.esz=esz)(h3:x.opn=true)(h4:n*esz<=x.size)(h5:(if b ∈ M then max x.size x.fzn else x.fzn)<=z)(h0:0<esz)
  (hr:∀i j,i<n->j<esz->x.get (i*esz+j)=row i j) (hc:∀i j,i<n->j<esz->(row i j).pu 3=true):js r M H b (fg ty esz n z row):=by
 refine⟨x,hx,h1.symm,h2.symm,h3.symm,rfl,.inr ⟨h3,h4⟩,h5,λi hi=>?_⟩;have hi':i<n*esz:=hi;have hq:i / esz<n:=Nat.div_lt_of_lt_mul (by rw[apT];exact hi')
 have hm:i%esz<esz:=Nat.mod_lt _ h0;have hdm:i / esz*esz+i%esz=i:=by
  have:=Nat.div_add_mod i esz;rw[apT] at this;exact this
 have e1:(fg ty esz n z row).get i=row (i / esz) (i%esz):=rfl;have e2:=hr _ _ hq hm;rw[hdm] at e2;rw[e1,e2];exact .cv (.rfl (hc _ _ hq hm))
theorem B6(v:AV):gD [v]=v:=id rfl
theorem B5(v v':AV)(l:List AV):gD (v::v'::l)= .tup (v::v'::l):=id rfl
theorem aod:∀(k:Nat) (v:AV),v.pu k=true->v.pu (k+1)=true:=by
 intro k;induction k with
 |zero=>intro v h;cases v<;>simp_all [AV.pu]
 |succ k ih=>
  intro v h;cases v with
  |f g l1 l2=>
   simp only[AV.pu,apq,apr] at h ⊢;exact⟨λx hx=>ih x (h.1 x hx),λx hx=>ih x (h.2 x hx)⟩
  |agg l=>simp only[AV.pu,apr] at h ⊢;exact λx hx=>ih x (h x hx)
  |tup l=>simp only[AV.pu,apr] at h ⊢;exact λx hx=>ih x (h x hx)
  |_=>simp_all [AV.pu]
theorem qP.nil{H:AH}:qP [] [] H:=trivial
theorem qP.v{H:AH}{x v:AV}{rs:List RT}{l:List AV}(h:v=x)(hp:x.pu 3=true)(h':qP rs l H):qP (.v x::rs) (v::l) H:=⟨⟨h,hp⟩,h'⟩
theorem qP.o0{H:AH}(ha:wc rs=true)(h':qP rs l H):qP (.o ty esz 0 z row::rs) (.sl0::l) H:=⟨.inl ⟨rfl,rfl⟩,ha,h'⟩
theorem qP.o{H:AH}{n:Nat}(hx:H.at b=some x)(h1:x.ty=ty)(h2:x.esz=esz)(h3:x.opn=true)(h0:0<esz)(h4:n*esz<=x.size)(h5:x.fzn<=z)
  (hr:∀i j,i<n->j<esz->x.get (i*esz+j)=row i j) (hc:∀i j,i<n->j<esz->(row i j).cell=true) (ha:wc rs=true) (h':qP rs l H):qP (.o ty esz n z row::rs) (.os b n::l) H:=
 ⟨.inr ⟨b,rfl,ae,x,hx,h1,h2,h0,h3,h4,h5,hr,hc⟩,ha,h'⟩
theorem qP.a{H:AH}{c:List og}{vs:List AV}(h0:c.length<=8)(h:yR H [] c vs)(ha:wc rs=true)(h':qP rs l H):qP (.a c::rs) (.agg vs::l) H:=⟨⟨h0,vs,rfl,h⟩,ha,h'⟩
theorem yR.nil{H:AH}:yR H u [] []:=trivial
theorem yR.v{H:AH}{u:List Nat}{x v:AV}{rs:List og}{l:List AV}(h:v=x)(hp:x.pu 3=true)(h':yR H u rs l):yR H u (.v x::rs) (v::l):=⟨⟨h,hp⟩,h'⟩
theorem yR.o0{H:AH}{rs:List og}(h':yR H u rs l):yR H u (.o ty esz 0 z row::rs) (.sl0::l):=⟨.inl ⟨rfl,rfl⟩,h'⟩
theorem yR.o{H:AH}{n:Nat}{rs:List og}(hx:H.at b=some x)(hu:u.contains b=false)(h1:x.ty=ty)(h2:x.esz=esz)(h3:x.opn=true)(h0:0<esz)(h4:n*esz<=x.size)(h5:x.fzn<=z)
  (hr:∀i j,i<n->j<esz->x.get (i*esz+j)=row i j) (hc:∀i j,i<n->j<esz->(row i j).cell=true) (h':yR H (b::u) rs l):yR H u (.o ty esz n z row::rs) (.os b n::l):=
 ⟨.inr ⟨b,rfl,by simpa using hu,x,hx,h1,h2,h0,h3,h4,h5,hr,hc⟩,h'⟩
theorem z6(x:AB)(o:Nat)(l:List AV)(i:Nat)(h:o+l.length<1000000000)(hi:i<o+l.length):(x.app o (.li l)).get i=if o<=i then l[i-o]?.getD .u else x.get i:=AB.app_get x o (.li l) i (by simp only[ke.len];omega) hi
theorem ja.nil{H:AH}:ja M H [] []:=trivial
theorem ja.cons{H:AH}{v v2:AV}{l2:List AV}(h:Cv M H v v2)(h':ja M H l l2):ja M H (v::l) (v2::l2):=⟨h,h'⟩
theorem ja.same{H:AH}:∀{l:List AV},l.all (AV.pu 3)=true->ja M H l l
 |[],_=>trivial
 |v::l,h=>by
  simp only[ap9,apq] at h;exact⟨.rfl h.1,ja.same h.2⟩
theorem eY{v x:AV}{H:AH}(h:v=x)(hp:x.pu 3=true):∃l1,v=gD l1/\qP [.v x] l1 H:=⟨[v],rfl,⟨h,hp⟩,trivial⟩
def AV.sc:Nat->AV->Bool
 |_,.b _|_,.n _ _|_,.s _|_,.p0|_,.sl0|_,.f0|_,.cv _=>true
 |k+1,.agg l=>l.all (AV.sc k)
 |k+1,.tup l=>l.all (AV.sc k)
 |_,_=>false
theorem VR.sc{σ σ2:Sg}:∀(k:Nat) {v:AV} {x:Value},v.sc k=true->VR σ v x->VR σ2 v x
 |k,v,x,hp,h=>by
  cases h with
  |b x=>exact .b x
  |n k x=>exact .n k x
  |s x=>exact .s x
  |p0=>exact .p0
  |sl0 a=>exact .sl0 a
  |f0=>exact .f0
  |cv _ hv=>exact .cv _ hv
  |agg hl hh=>
   cases k with
   |zero=>simp[AV.sc] at hp
   |succ k=>
    simp only[AV.sc,apr] at hp;exact .agg hl (λi v hv=>VR.sc k (hp v (apB hv)) (hh i v hv))
  |tup hl hh=>
   cases k with
   |zero=>simp[AV.sc] at hp
   |succ k=>
    simp only[AV.sc,apr] at hp;exact .tup hl (λi v hv=>VR.sc k (hp v (apB hv)) (hh i v hv))
  |_=>cases k<;>simp[AV.sc] at hp
theorem HR.after_call{B:Nat}{σ:Sg}{H:AH}{w w':World}(h:HR B σ H w)(hb:Below w.heap.size w w'):HR B σ H w':=by
 refine⟨h.new,h.newl,h.old,h.small,apj h.hB hb.size,h.nil,h.nilp,λb x c o hx hs=>?_,h.szs,h.inj,λc fs hf=>?_,h.ob.keep λr hr _=>hb.block r hr⟩
 ·obtain⟨cs,e1,e2,e3⟩:=h.blk b x c o hx hs;exact⟨cs,e1,by rw[hb.block c ((apo.1 e2).1)];exact e2,e3⟩
 ·obtain⟨cs,t,fr,e1,e2,e3⟩:=h.frz c fs hf;exact⟨cs,t,fr,by rw[hb.block c (h.fzlt hf)];exact e1,e2,e3⟩
theorem uQ{P:Program}{fargs:List AV}{H:AH}{Q:AV->AH->Prop}(M:List Nat)(hcv:ja M H args fargs)(h:gw P g fargs rs)(hnx:H.next+9<2^40)(hsc:∀r ∈ rs,gR (λa=>a.sc 3=true) r)
  (hQ:Q (gD (iG H rs).1) (iG H rs).2):qS P g args H Q:=by
 refine⟨h.1,λB σ w args' hH ha=>?_⟩;obtain⟨σ2,q1,q2,q3,q4,q5,q6,q7⟩:=hH.marks M;have hd:gn (Sg.data σ2.fz) fargs args'.toList:=hcv.ok hH q1 q2 q7 ha;have hin:wv σ2.fz w:=λc fs hf=>by
  obtain⟨cs,t,fr,e1,e2,_⟩:=q6.frz c fs hf;exact aqS
 refine(h.2 σ2.fz w args' hin hd).mono λe w' hp=>?_;cases e with
 |panicked c=>exact hp.elim
 |outgrown=>exact hp.elim
 |returned u=>
  obtain⟨v,Hc,σ',⟨l,rfl,hr⟩,hv,hHc,hbel,hfz⟩:=hp;obtain⟨us,hus,hback⟩:=m9 hv;have hblt:∀b c o,σ b=some (c,o)->H.at b≠none->c<w.heap.size:=λb c o hs hne=>by
   cases hx:H.at b with
   |none=>exact absurd hx hne
   |some x=>
    obtain⟨cs,e1,e2,e3⟩:=hH.blk b x c o hx hs;exact(apo.1 e2).1
  obtain⟨σ3,p1,p2,p3,p4,p5,p6,p7,p8⟩:=rn (σa:=σ) (good:=λa=>a.sc 3=true) (λ{a u σn} _ hs _ hu=>hu.sc 3 hs) hHc (hH.after_call hbel) (λc fs hc hf=>by have:=hH.fzlt hf;omega) hH.hB hblt hnx rs l us hr hsc hus
  refine⟨_,_,σ3,hQ,hback (kS rs l _ hr) p2,p1,⟨λb hb=>p5 b hb,p3,p6,by rw[p7];exact bL _,?_,λc hc=> .inl (hbel.block c hc),λb c o hb hs hc=>?_⟩,.of_eq p4⟩
  ·exact aqW
  ·exact aqX
def AH.setLow(H:AH)(l:Nat):AH:={H with low:=l}
theorem C8(H:AH)(l b:Nat):(H.setLow l).at b=H.at b:=id rfl
theorem xE(H:AH)(l:Nat):(H.setLow l).next=H.next:=id rfl
theorem zy(H:AH)(l:Nat):(H.setLow l).low=l:=id rfl
theorem ua(H:AH)(l l':Nat):(H.setLow l).setLow l'=H.setLow l':=id rfl
theorem EI(H:AH)(b:Nat):(H.mark b).low=H.low:=AH.mark_low H b
theorem GA.mix1{P:Program}{n:Nat}{hints:gN}{e:Tr AV}{H:AH}{Q:AE->Tr AV->AH->Prop}(hm:P.follows .mixedOrders=true){l:List (Nat×AO)}(h:l9 P (H.setLow (2^40)) H.next true l e (H.setLow (2^40)) (λe' H'=>Q .normal e' (H'.setLow (min H.low H'.low)))):GA P n hints (.mix l) e H Q:=
 GA.mix hm H.next (by rw[apt];trivial) h
theorem GA.mixm{P:Program}{n:Nat}{hints:gN}{e:Tr AV}{H:AH}{Q:AE->Tr AV->AH->Prop}(hm:P.follows .mixedOrders=true)(m:Nat){l:List (Nat×AO)}(htop:g8 H m (H.next-m))(h:l9 P (H.setLow (2^40)) m true l e (H.setLow (2^40)) (λe' H'=>Q .normal e' (H'.setLow (min H.low H'.low)))):GA P n hints (.mix l) e H Q:=
 GA.mix hm m htop h
theorem GA.frkm{P:Program}{n:Nat}{hints:gN}{e:Tr AV}{H:AH}{Q:AE->Tr AV->AH->Prop}(hm:P.follows .mixedOrders=true)(m:Nat){l:List (Nat×AO)}{T:AT}(htop:g8 H m (H.next-m))(h:l9 P (H.setLow (2^40)) m true l e (H.setLow (2^40)) (λe' H'=>lj P m T e' H' (λe' H'=>Q .normal e' (H'.setLow (min H.low H'.low))))):GA P n hints (.frk l T) e H Q:=
 GA.frk hm m htop h
theorem GA.cut{P:Program}{n:Nat}{hints:gN}{e:Tr AV}{H:AH}{Q:AE->Tr AV->AH->Prop}{x y:AC}(e2:Tr AV)(H2:AH)(h:GA P n hints x e H (mq (λe' H'=>Wk n e' H' e2 H2) (λ_ _ _=>False)))(h':GA P n hints y e2 H2 Q):GA P n hints (.seq x y) e H Q:=
 GA.seq (h.mono λa e' H' hq=>by
  cases a with
  |normal=>exact GA.wk hq h'
  |exit i=>exact hq.elim
  |ret=>exact hq.elim)
theorem js.lst{H:AH}(hx:H.at b=some (eZ esz ty l))(hM:M.contains b=false)(hl:l.length<1000000)(hp:l.all (AV.pu 3)=true):js r M H b (eZ esz ty l):=by
 refine⟨eZ esz ty l,hx,rfl,rfl,rfl,rfl,.inl rfl,by rw[if_neg (by simpa using hM)];exact bL _,λi hi=>?_⟩
 have hi':i<l.length:=hi;rw[qy esz ty l i hl,apk hi'];exact .cv (.rfl (apr.1 hp _ (ap2 hi')))
theorem js.keep{H:AH}{n:Nat}(hx:H.at b=some (fg ty esz n z row))(hM:M.contains b=false)(h0:0<esz)(hc:∀i j,i<n->j<esz->(row i j).pu 3=true):js r M H b (fg ty esz n z row):=
 js.rows hx rfl rfl rfl (bL _) aq1 h0 (λi j _ hj=>fI i j hj) hc
theorem ig.nil{H:AH}:ig r M H [] []:=trivial
theorem ig.cons{H:AH}{ρ:List Nat}{bl:List AB}(h1:ρ.contains b=false)(h2:js r M H b x)(h3:ig r M H ρ bl):ig r M H (b::ρ) (x::bl):=⟨by simpa using h1,h2,h3⟩
def yn(P:Program)(n:Nat)(hints:gN)(cc:AX)(x y:AC)(e:Tr AV)(H:AH)(Q:AE->Tr AV->AH->Prop):Prop:=match cc.ev e with
 |some (.b t)=>(t=true->GA P n hints x e H Q)/\(t=false->GA P n hints y e H Q)
 |_=>False
theorem GA.cond'{P:Program}{n:Nat}{hints:gN}{e:Tr AV}{H:AH}{Q:AE->Tr AV->AH->Prop}{cc:AX}{x y:AC}(h:yn P n hints cc x y e H Q):GA P n hints (.cond cc x y) e H Q:=by
 unfold yn at h;split at h
 ·rename_i t ht;exact GA.cond ht h.1 h.2
 ·exact h.elim
theorem Wv.n{H:AH}{k:IntKind}{a b:Int}(h:a=b):Wv r M H (.n k a) (.n k b):=by subst h;exact .cv (.rfl rfl)
theorem Wv.same{H:AH}{v:AV}(h:v.pu 3=true):Wv r M H v v:= .cv (.rfl h)
theorem fE{a b:Prop}(h1:a)(h2:b):a/\b:=⟨h1,h2⟩
theorem fe{P:Program}[IdleOK P](hm:P.follows .mixedOrders=true){f:FuncId}{hints:gN}{F:AF}(hF:fB P hints f=some F)(hlen:args.length<=F.nt/\F.nt<100000){Q:AV->AH->Prop}
  (h:GA P F.nt hints F.code (fu (fy 0 args)) (fi []) (pq F.res Q)):yI P f args Q:=
 LZ hm hF hlen.1 (GA.wk (Wk.arg _ _ _ aa) h)
theorem am3(x:Bool):kt (pure (.bool x))=some (.b x):=id rfl
theorem am2(k:IntKind)(x:Int):kt (pure (.int k x))=some (.n k x):=id rfl
theorem LY(a b:Int):(a==b)=decide (a=b):=by rw[Bool.eq_iff_iff];simp
theorem avG(a b:Int):(a != b)= !decide (a=b):=by rw[bne,LY]
def goB:AC->Bool
 |.loop _=>false
 |.frk _ _=>false
 |.dfr _ _ _=>false
 |.mxl _=>false
 |.rf _ _ _ _ _=>false
 |_=>true
attribute [reducible] goB
def GS(P:Program)(n:Nat)(hints:gN)(ac:AC)(e:Tr AV)(H:AH)(Q:AE->Tr AV->AH->Prop):Prop:=match ac with
 |.skip=>Q .normal e H
 |.exit i=>Q (.exit i) e H
 |.ret=>Q .ret e H
 |.seq x y=>GA P n hints x e H (mq (λe' H'=>GA P n hints y e' H' Q) Q)
 |.cond c x y=>yn P n hints c x y e H Q
 |.block id x=>GA P n hints x e H (pZ id Q)
 |.reg l=>nT P l e H (λe' H'=>Q .normal e' H')
 |.mix l=>l9 P (H.setLow (2^40)) H.next true l e (H.setLow (2^40)) (λe' H'=>Q .normal e' (H'.setLow (min H.low H'.low)))
 |.loop _=>False
 |.frk _ _=>False
 |.dfr _ _ _=>False
 |.mxl _=>False
 |.rf _ _ _ _ _=>False
 |.die=>False
theorem GA.go{P:Program}{n:Nat}{hints:gN}{ac:AC}{e:Tr AV}{H:AH}{Q:AE->Tr AV->AH->Prop}(hm:P.follows .mixedOrders=true)(hg:goB ac=true)(h:GS P n hints ac e H Q):GA P n hints ac e H Q:=by
 cases ac with
 |skip=>exact GA.skip h
 |exit i=>exact GA.exit h
 |ret=>exact GA.ret h
 |seq x y=>exact GA.seq h
 |cond c x y=>exact GA.cond' h
 |block id x=>exact GA.block h
 |reg l=>exact GA.reg h
 |mix l=>exact GA.mix1 hm h
 |loop x=>cases hg
 |frk l T=>cases hg
 |dfr _ _ _=>cases hg
 |mxl _=>cases hg
 |rf _ _ _ _ _=>cases hg
 |die=>exact(show False from h).elim
section
variable {P:Program} {n:Nat} {hints:gN} {e:Tr AV} {H:AH} {Q:AE->Tr AV->AH->Prop}
theorem GS.skip:GS P n hints .skip e H Q=Q .normal e H:=id rfl
theorem GS.exit(i:Nat):GS P n hints (.exit i) e H Q=Q (.exit i) e H:=id rfl
theorem GS.ret:GS P n hints .ret e H Q=Q .ret e H:=id rfl
theorem GS.seq(x y:AC):GS P n hints (.seq x y) e H Q=GA P n hints x e H (mq (λe' H'=>GA P n hints y e' H' Q) Q):=id rfl
theorem GS.cond(c:AX)(x y:AC):GS P n hints (.cond c x y) e H Q=yn P n hints c x y e H Q:=id rfl
theorem GS.block(id:Nat)(x:AC):GS P n hints (.block id x) e H Q=GA P n hints x e H (pZ id Q):=_root_.id rfl
theorem GS.reg(l:List AO):GS P n hints (.reg l) e H Q=nT P l e H (λe' H'=>Q .normal e' H'):=id rfl
theorem GS.mix(l:List (Nat×AO)):GS P n hints (.mix l) e H Q=l9 P (H.setLow (2^40)) H.next true l e (H.setLow (2^40)) (λe' H'=>Q .normal e' (H'.setLow (min H.low H'.low))):=id rfl
end
/-! what every step uses-/
attribute [go_sem] GS.skip GS.exit GS.ret GS.seq GS.cond GS.block GS.reg GS.mix am3 am2 LY avG mq pZ DU pq yn Ft CP Fm CI Fn CJ Fl CH beq_false beq_true anN
 anM anL Zn K9 E1 Fu CQ E3 CA FR jq ly AP.kind CN zJ CO Ct g8 lK
 AX.ev yP AP.run AP.w AP.y AP.r AP.B AP.x AP.e AP.D AP.j AP.m AP.n AP.o AP.p AP.l AP.s AP.i AP.h AP.u AP.a AP.g AP.d AP.f AP.v AP.A AP.z AP.k AP.t AP.C AP.q AP.c AP.b fW Bz gM jP FK kT lB oT C5 anv Mn ant Ml anr Mi Z6 F2 ans
 Mj Lw C4 Z5 F1 aaa F6 anu Mm aab F7 Z8 F4 Z9 F5 Z7 F3
 List.cons_append List.nil_append aqb Option.map_some Option.map_none ap9 List.all_nil List.length_cons List.length_nil
 Bool.and_true Bool.true_and Bool.and_self Zt Zu Zv Zw Zx Zr Zy Zp Zs Zq pK y9 jL
 BE Fv uM FH K6 Ea Ag AH.load AH.loadN kG oI zX El Gg Cc jB gl
 xK oV LI LG LH Em aa6 DE L1 EO Mc Zl Lp if_true if_false ite_true ite_false true_and
 and_true forall_const false_implies implies_true Bool.true_eq_false apQ apn AV.b.injEq exists_eq_left' exists_eq_left
 decide_eq_true_eq decide_eq_false_iff_not Bool.not_eq_true' Bool.not_eq_false' Option.isSome_some not_true_eq_false not_false_eq_true Int.not_lt
 Int.not_le vk Fd get_nil Lf List.getElem?_cons_zero List.getElem?_cons_succ Option.getD_some apw apz Nat.add_zero
 apu apf beq_iff_eq beq_eq_false_iff_ne ne_eq BK DT Lg DR BL DS app_size Ms aa8 Mq
 Gi Mr AH.append ke.len pm B6 B5 iG qC gF Gd aaG L3 aaI anO aaF L4 aaH
 AH.mark_next AH.mark_low true_or or_true Bool.not_false Bool.not_true Bool.and_false bL Nat.min_self beq_self_eq_true r9 maxLen
 apq C8 xE zy ua EI zV zW false_and and_false tE List.isEmpty_cons
 List.isEmpty_nil List.take_zero List.take_succ_cons List.drop_zero List.drop_succ_cons List.take_nil List.drop_nil Ca Ek Ly
 Ei Cb Ej ape Cj EH LF EF Ck EG qy Ch EE LD EB
 Ci ED EC
/-! arguments that are found-/
theorem jQ{P:Prop}(h:P:=by first|trivial|exact Wv.same rfl|exact Wv.p rfl|exact Wv.os rfl|exact Wv.sl rfl|exact Wv.n aa|exact Wv.n (ff aa)|exact Wv.n (by rw[ff aa];omega)):P:=h
theorem wku{P:Prop}(h:P:=by first|exact True.intro|exact Wv.same rfl|exact Wv.p rfl|exact Wv.os rfl|exact Wv.sl rfl|exact Wv.n aa|exact Wv.n (ff aa)|exact Wv.n (by rw[ff aa];omega)):P:=h
theorem js.ls{H:AH}(hx:H.at b=some (eZ esz ty l):=by simp only[go_sem,simprocAttr]<;>rfl)(hM:M.contains b=false:=by rfl)(hl:l.length<1000000:=by simp)(hp:l.all (AV.pu 3)=true:=by rfl):js r M H b (eZ esz ty l):= .lst hx hM hl hp
theorem js.k1{H:AH}{n:Nat}(hx:H.at b=some (fg ty esz n z row):=by simp only[go_sem,simprocAttr]<;>fail)(hM:M.contains b=false:=by rfl)(h0:0<esz:=by decide)(hc:∀i j,i<n->j<esz->(row i j).pu 3=true:=by intro _ _ _ _;rfl):js r M H b (fg ty esz n z row):= .keep hx hM h0 hc
theorem js.k5{H:AH}{n:Nat}(hx:H.at b=some (fg ty 5 n z row):=by simp only[go_sem,simprocAttr]<;>fail)(hM:M.contains b=false:=by rfl)(hc:∀i j,i<n->j<5->(row i j).pu 3=true:=by intro _ j _ hj;rcases(show j=0\/j=1\/j=2\/j=3\/j=4 by omega) with rfl|rfl|rfl|rfl|rfl<;>rfl):js r M H b (fg ty 5 n z row):= .keep hx hM ag hc
theorem gqa{P:Program}{a fa:AV}{H:AH}{Q:AV->AH->Prop}(h:gw P g [fa] rs)(hQ:Q (gD (iG (gF H []) rs).1) (iG (gF H []) rs).2)(ha:Cv [] H a fa:=by exact .rfl af)(hnx:H.next+9<2^40:=by simp only[go_sem,simprocAttr]):qS P g [a] H Q:=gm [] (.cons ha .nil) h hnx hQ
theorem gqb{P:Program}{a b fa fb:AV}{H:AH}{Q:AV->AH->Prop}(h:gw P g [fa,fb] rs)(hQ:Q (gD (iG (gF H []) rs).1) (iG (gF H []) rs).2)(ha:Cv [] H a fa:=by exact .rfl af)(hb:Cv [] H b fb:=by exact .rfl af)(hnx:H.next+9<2^40:=by simp only[go_sem,simprocAttr]):qS P g [a,b] H Q:=gm [] (.cons ha (.cons hb .nil)) h hnx hQ
theorem gqe{P:Program}{a b c d k:AV}{H:AH}{Q:AV->AH->Prop}(h:gw P g [a,b,c,d,k] rs)(hQ:Q (gD (iG (gF H []) rs).1) (iG (gF H []) rs).2)(ha:a.pu 3=true:=by rfl)(hb:b.pu 3=true:=by rfl)(hc:c.pu 3=true:=by rfl)(hd:d.pu 3=true:=by rfl)(hk:k.pu 3=true:=by rfl)(hnx:H.next+9<2^40:=by simp only[go_sem,simprocAttr]):qS P g [a,b,c,d,k] H Q:=gm [] (.cons (.rfl ha) (.cons (.rfl hb) (.cons (.rfl hc) (.cons (.rfl hd) (.cons (.rfl hk) .nil))))) h hnx hQ
theorem gf{P:Program}{H:AH}{Q:AV->AH->Prop}{F:List AV}(h:gw P g F rs)(hQ:Q (gD (iG (gF H []) rs).1) (iG (gF H []) rs).2)(hcv:ja [] H args F:=by exact ja.same rfl)(hnx:H.next+9<2^40:=by simp only[go_sem,simprocAttr]):qS P g args H Q:=gm [] hcv h hnx hQ
theorem ig.cr{H:AH}{ρ:List Nat}{bl:List AB}(h2:js r M H b x)(h3:ig r M H ρ bl)(h1:ρ.contains b=false:=by rfl):ig r M H (b::ρ) (x::bl):= .cons h1 h2 h3
theorem fK{P:Prop}(h:P:=by simp only[iT,ig,go_sem,simprocAttr];(repeat' refine fE ?_ ?_);all_goals first|trivial|exact Wv.same rfl|exact Wv.p rfl|exact Wv.os rfl|exact Wv.sl rfl|exact Wv.n aa|exact Wv.n (ff aa)|exact Wv.n (by rw[ff aa];omega)):P:=h
theorem js.k2{H:AH}{n:Nat}(hc:∀i j,i<n->j<esz->(row i j).pu 3=true)(hx:H.at b=some (fg ty esz n z row):=by simp only[go_sem,simprocAttr]<;>fail)(hM:M.contains b=false:=by rfl)(h0:0<esz:=by decide):js r M H b (fg ty esz n z row):= .keep hx hM h0 hc
theorem js.r0{H:AH}{n:Nat}(hx:H.at b=some x:=by simp only[go_sem,simprocAttr];rfl)(h1:x.ty=ty:=by rfl)(h2:x.esz=esz:=by rfl)(h3:x.opn=true:=by rfl)(h4:n*esz<=x.size:=by simp)(h5:(if b ∈ M then max x.size x.fzn else x.fzn)<=z:=by decide)(h0:0<esz:=by decide)(hr:∀i j,i<n->j<esz->x.get (i*esz+j)=row i j:=by intro i j h;simp at h)(hc:∀i j,i<n->j<esz->(row i j).pu 3=true:=by intro i j h;simp at h):js r M H b (fg ty esz n z row):= .rows hx h1 h2 h3 h4 h5 h0 hr hc
theorem js.r1{H:AH}{n:Nat}(hx:H.at b=some x:=by simp only[go_sem,simprocAttr];rfl)(h1:x.ty=ty:=by rfl)(h2:x.esz=esz:=by rfl)(h3:x.opn=true:=by rfl)(h4:n*esz<=x.size:=by decide)(h5:(if b ∈ M then max x.size x.fzn else x.fzn)<=z:=by decide)(h0:0<esz:=by decide)(hr:∀i j,i<n->j<esz->x.get (i*esz+j)=row i j:=by intro i j h;simp at h)(hc:∀i j,i<n->j<esz->(row i j).pu 3=true:=by intro i j h;simp at h):js r M H b (fg ty esz n z row):= .rows hx h1 h2 h3 h4 h5 h0 hr hc
end
theorem au(n:Nat)(h:(n:Int)+1<=9223372036854775807:=by omega):IntKind.i64.wrap ((n:Int)+1)=((n+1:Nat):Int):=(ff (by omega)).trans (by omega)
inductive BT where
 |lf (k:Nat) (F:AF)
 |nd (k:Nat) (l r:BT)
def BT.get:BT->FuncId->Option AF
 |.lf k F,f=>bif Nat.beq k f then some F else none
 |.nd k l r,f=>bif Nat.ble k f then r.get f else l.get f
def BT.ok(P:Program):BT->Prop
 |.lf k F=>fB P (fc P k) k=some F
 |.nd _ l r=>l.ok P/\r.ok P
def sa(M:Nat->Option OB):Nat->Option OB:=λr=>match M r with
 |some (.mp x)=>some (.mp {x with own:=false})
 |_=>none
theorem LN{M:Nat->Option OB}{r:Nat}{x:nG}(h:M r=some (.mp x)):sa M r=some (.mp {x with own:=false}):=by unfold sa;rw[h]
theorem OR.lend{B:Nat}{ob:Nat->Option OB}{w:World}{B':Nat}(h:OR B ob w):OR B' (sa ob) w:=λr x hx=>by
 unfold sa at hx;split at hx
 ·rename_i y hy;cases hx;obtain⟨_,es,c,h1,h2⟩:=h r _ hy;exact⟨λh=>(by cases h),es,c,h1,⟨h2.cnt,h2.ent,h2.dom,h2.one,h2.stp⟩⟩
 ·cases hx
theorem MY.down{B B' r:Nat}{w:World}{x:OB}(h:MY B' w r x)(hB:B<=w.heap.size/\B<=B'):MY B w r x:=by
 cases x with
 |mp x=>exact⟨λq=>apj hB.2 (h.1 q),h.2⟩
 |it y=>exact⟨apj hB.2 h.1,h.2⟩
 |fix o=>exact⟨apj hB.2 h.1,h.2⟩
def AH.addOb(H:AH)(N:Nat->Option OB):AH:={H with ob:=λr=>match H.ob r with
 |some x=>some x
 |none=>N r}
def M1(P:Program)(f:FuncId)(M:Nat->Option OB)(args:List AV)(Q:AV->AH->Prop):Prop:=
 ui P f/\∀(φ:Fz) (w:World) (args':Array Value),wv φ w->gn (Sg.data φ) args args'.toList->OR w.heap.size (sa M) w->Calls P f args' w (u9 φ w Q)
theorem HR.emptyM{φ:Fz}{M:Nat->Option OB}(w:World)(hφ:∀c fs,φ c=some fs->∃cs t fr,w.heap[c]? =some (.cells cs t fr)/\oq fs cs)(hM:OR w.heap.size (sa M) w):HR w.heap.size ⟨λ_=>none,λ_=>False,φ⟩ (ft (sa M) []) w:=by
 have h:=HR.empty w hφ;exact⟨h.new,h.newl,h.old,h.small,h.hB,h.nil,h.nilp,h.blk,h.szs,h.inj,h.frz,by rw[qu,ko];exact .none hM⟩
theorem Fc{P:Program}[IdleOK P](hm:P.follows .mixedOrders=true){f:FuncId}{hints:gN}{F:AF}(hF:fB P hints f=some F){args:List AV}(hlen:args.length<=F.nt){Q:AV->AH->Prop}
  {M:Nat->Option OB} (h:GA P F.nt hints F.code (oh args) (ft (sa M) []) (pq F.res Q)):M1 P f M args Q:=by
 unfold fB at hF;obtain⟨fn,h1,hF⟩:=bM.1 hF;obtain⟨c,h3,hF⟩:=bM.1 hF;obtain⟨ac,h5,hF⟩:=bM.1 hF;obtain⟨r,h6,hF⟩:=bM.1 hF;split at hF;rotate_left
 ·cases hF
 rename_i hq;cases hF;refine⟨⟨fn,h1,hq.1,by rw[h3];rfl⟩,λφ w args' hφ ha hM=>?_⟩
 refine lW h1 h3 ?_;refine h c h5 w.heap.size (Sg.data φ) _ w _ (sw ha hlen hq.2) (HR.emptyM w hφ hM) (λc a w hq=>hq.elim) (λx e' H' a' w' σ' q q1 q2 q3 q4=>?_);have key:∀l,lK e' H' r=some l->Q (gD l) H'->(∀d ∈ a'.defers,u7 d)/\∃v,(results fn a'.tmps).run P w'= .ok v w'/\u9 φ w Q (.returned v) w':=by
  intro l hl hQ;obtain⟨us,g1,g2⟩:=ra q1.er q2 _ _ _ h6 hl;have hres:∃u,(results fn a'.tmps).run P w'= .ok u w'/\VR σ' (gD l) u:=by
   have hsem:results fn a'.tmps=(do let vs<-fn.results.mapM (lN a');pure (if h:vs.size=1 then vs[0] else .tuple vs)):=by
    unfold results;rfl
   have hrun:(fn.results.mapM (lN a')).run P w'= .ok us.toArray w':=by
    simp[Array.mapM_eq_mapM_toList,g1]
   rw[hsem];simp only[Sem.run_bind,hrun,Result.andThen_ok,Sem.run_pure];refine⟨_,rfl,?_⟩;have hn:=g2.1
   match l,us,g2,hn with
   |[v],[u],g2,_=>exact g2.2 0 v rfl
   |[],[],_,_=>exact gn.nil.tup
   |v1::v2::l,u1::u2::us,g2,_=>exact g2.tup
  obtain⟨u,k1,k2⟩:=hres;exact⟨q1.er.df,u,k1,gD l,H',σ',hQ,k2,q2,q3,q4.eq⟩
 have q':∃l,lK e' H' r=some l/\Q (gD l) H':=by
  cases x with
  |exit i=>exact q.elim
  |normal=>
   simp only[pq] at q;split at q
   ·exact aqR
   ·exact q.elim
  |ret=>
   simp only[pq] at q;split at q
   ·exact aqR
   ·exact q.elim
 obtain⟨l,hl,hQ⟩:=q';obtain⟨k1,v,k2,k3⟩:=key l hl hQ;have post:Leaves P fn a'.tmps (u9 φ w Q) a'.defers .returning w':=mz k2 k3 _ k1;cases x with
 |exit i=>exact q.elim
 |normal=>exact post
 |ret=>exact post
def D9:OB->Bool
 |.mp x=>x.own
 |_=>false
def Df(P:Program)(f:FuncId)(args:List AV)(oq:(Nat->Option OB)->Prop)(mQ:(Nat->Option OB)->List RT->(Nat->Option OB)->Prop):Prop:=
 ∀M,oq M->M1 P f M args λv H=>∃(rs:List RT) (N:Nat->Option OB) (l:List AV),mQ M rs N/\v=gD l/\qP rs l H/\∀r x,N r=some x->H.ob r=some x/\D9 x=true
theorem vT:∀(l:List og) (H:AH),(qC H l).2.ob=H.ob
 |[],_=>rfl
 |.v x::l,H=>vT l H
 |.o ty esz n z row::l,H=>vT l (H.new (fg ty esz n z row))
theorem vR:∀(rs:List RT) (H:AH),(iG H rs).2.ob=H.ob
 |[],_=>rfl
 |.v x::rs,H=>vR rs H
 |.o ty esz n z row::rs,H=>rfl
 |.a l::rs,H=>vT l H
theorem vU:∀(l:List og) (H:AH),(qC H l).2.mp=H.mp
 |[],_=>rfl
 |.v x::l,H=>vU l H
 |.o ty esz n z row::l,H=>vU l (H.new (fg ty esz n z row))
theorem A8:∀(rs:List RT) (H:AH),(iG H rs).2.mp=H.mp
 |[],_=>rfl
 |.v x::rs,H=>A8 rs H
 |.o ty esz n z row::rs,H=>rfl
 |.a l::rs,H=>vU l H
theorem xH:∀(l:List Nat) (H:AH),(gF H l).mp=H.mp
 |[],_=>rfl
 |b::l,H=>by rw[gF,xH l,AH.mark_mp]
theorem HR.addOb{B:Nat}{σ:Sg}{H:AH}{w:World}(h:HR B σ H w){ob N:Nat->Option OB}(he:H.ob=ob)(hN:∀r x,N r=some x->MY B w r x)(hc:∀b d c o,qv H.mp b=some d->σ.nm b=some (c,o)->N c=none)(hni:∀r y,N r≠some (.it y)):HR B σ (H.addOb N) w:=
 ⟨h.new,h.newl,h.old,h.small,h.hB,h.nil,h.nilp,h.blk,h.szs,h.inj,h.frz,⟨λr x hx=>by
  have hx:(match H.ob r with|some x=>some x|none=>N r)=some x:=hx
  split at hx
  ·rename_i y hy;cases hx;exact h.ob.o r x hy
  ·exact hN r x hx,λb d hb=>by
  obtain⟨c,es,clock,k1,k2,k3,k4,k5⟩:=h.ob.m b d hb;refine⟨c,es,clock,k1,k2,k3,⟨?_,λr y hy=>?_⟩,k5⟩
  ·show(match H.ob c with|some x=>some x|none=>N c)=none
   rw[k4.1];exact hc b d c _ hb k1
  ·have hy:(match H.ob r with|some x=>some x|none=>N r)=some (.it y):=hy
   split at hy
   ·rename_i z hz;cases hy;exact k4.2 r y hz
   ·exact absurd hy (hni r y),h.ob.i⟩⟩
theorem jW{P:Program}{g:FuncId}{args fargs:List AV}{H:AH}{Pr:(Nat->Option OB)->Prop}{mQ:(Nat->Option OB)->List RT->(Nat->Option OB)->Prop}{Q:AV->AH->Prop}(M:List Nat)(hcv:ja M H args fargs)(h:Df P g fargs Pr mQ)(hpre:Pr H.ob)(hnx:H.next+9<2^40)
  (hQ:∀rs N,mQ H.ob rs N->(∀r x,N r=some x->H.ob r=none)->Q (gD (iG (gF H M) rs).1) ((iG (gF H M) rs).2.addOb N)):qS P g args H Q:=by
 replace h:=h H.ob hpre
 refine⟨h.1,λB σ w args' hH ha=>?_⟩;obtain⟨σ2,q1,q2,q3,q4,q5,q6,q7⟩:=hH.marks M;have hd:gn (Sg.data σ2.fz) fargs args'.toList:=hcv.ok hH q1 q2 q7 ha;have hin:wv σ2.fz w:=λc fs hf=>by
  obtain⟨cs,t,fr,e1,e2,_⟩:=q6.frz c fs hf;exact aqS
 refine(h.2 σ2.fz w args' hin hd hH.ob.o.lend).mono λe w' hp=>?_;cases e with
 |panicked c=>exact hp.elim
 |outgrown=>exact hp.elim
 |returned u=>
  obtain⟨v,Hc,σ',⟨rs,N,l,hpost,rfl,hr,hN⟩,hv,hHc,hbel,hfz⟩:=hp;obtain⟨us,hus,hback⟩:=m9 hv;let σa:Sg:=⟨σ2.nm,σ2.nl,σ'.fz⟩;have hle:σ2.le σa:=⟨λ_ _ hh=>hh,λ_ hh=>hh,λc fs hf=>⟨fs,by show σ'.fz c=_;rw[hfz c (q6.fzlt hf)];exact hf,oq.refl _⟩⟩
  have hblt:∀b c o,σa b=some (c,o)->(gF H M).at b≠none->c<w.heap.size:=λb c o hs hne=>by
   cases hx:(gF H M).at b with
   |none=>exact absurd hx hne
   |some x=>
    obtain⟨cs,e1,e2,e3⟩:=q6.blk b x c o hx hs;exact(apo.1 e2).1
  have hHa:HR B σa (gF H M) w':=by
   refine⟨q6.new,q6.newl,q6.old,q6.small,apj q6.hB hbel.size,q6.nil,q6.nilp,λb x c o hx hs=>?_,q6.szs,q6.inj,λc fs hf=>?_,(q6.ob.mono hle).keep λr hr _=>hbel.block r hr⟩
   ·exact aqT
   ·by_cases hc:c<w.heap.size
    ·exact aqU
    ·obtain⟨cs,t,fr,e1,e2,_⟩:=hHc.frz c fs hf;refine⟨cs,t,fr,e1,e2,λb x o hx hs=>?_⟩;have:=hblt b c o hs (by rw[hx];simp)
     omega
  have hnx':(gF H M).next+9<2^40:=by rw[jU];exact hnx
  have hmm:∀{a:AV} {u:Value} {σn:Sg},a.pu 3=true->True->σa.le σn->VR σ' a u->VR σn a u:=λhp _ hle' hu=>by
   have e1:=hu.pure 3 hp;have e2:σ'.bare.le _:=⟨λb x hx=>(by cases hx),λb hb=>False.elim hb,λc' fs hf=>hle'.fz c' fs hf⟩
   exact e1.mono e2
  obtain⟨σ3,p1,p2,p3,p4,p5,p6,p7,p8⟩:=rn (σa:=σa) (good:=λ_=>True) hmm hHc hHa (λc fs _ hf=>hf) hH.hB hblt hnx' rs l us hr (λr _=>vX r) hus;rw[jU] at p5 p6 p8;rw[pd] at p7;have hfree:∀r x,N r=some x->H.ob r=none:=λr x hx=>by
   cases ho:H.ob r with
   |none=>rfl
   |some y=>
    have h1:=hH.ob.o.lt ho;obtain⟨h2,h3⟩:=hN r x hx;cases x with
    |mp x=>
     have:=(hHc.ob.o r _ h2).1 h3;omega
    |it y=>cases h3
    |fix o=>cases h3
  refine⟨_,_,σ3,hQ rs N hpost hfree,hback (kS rs l _ hr) p2,p1.addOb (by rw[vR,ti]) (λr x hx=>(hHc.ob.o r x (hN r x hx).1).down ⟨apj hH.hB hbel.size,hH.hB⟩) (λb d c o hb hs=>?_) (λr y hy=>by have:=(hN r _ hy).2;cases this),⟨λb hb=>?_,(q1.trans hle).trans p3,p6,by show(iG (gF H M) rs).2.low<=_;rw[p7];exact bL _,?_,λc hc=> .inl (hbel.block c hc),λb c o hb hs hc=>?_⟩,⟨λc hc=>?_,((q1.trans hle).trans p3).fz⟩⟩
  ·rw[A8,xH] at hb;obtain⟨c0,es,clock,k1,k2,k3,k4,k5⟩:=hH.ob.m b d hb;have hbn:b<H.next:=by
    rcases Nat.lt_or_ge b H.next with h1|h1
    ·exact h1
    ·rw[hH.new b h1] at k1;cases k1
   have hc:σ3 b=some (c0,none):=by rw[p5 b hbn];show σ2.nm b=_;rw[q2];exact k1
   rw[hc] at hs;have ec:c0=c:=congrArg Prod.fst (apl hs);subst ec;cases hNc:N c0 with
   |none=>rfl
   |some x=>
    obtain⟨h2,h3⟩:=hN c0 x hNc;have hlt:=(apo.1 k3).1;cases x with
    |mp x=>have:=(hHc.ob.o c0 _ h2).1 h3;omega
    |it y=>cases h3
    |fix o=>cases h3
  ·exact aqV
  ·exact aqW
  ·exact aqX
  ·exact aqY
section
variable {x:AB}{H:AH}{l:List AV}{M:List Nat}{b esz i ty:Nat}{r:Nat->Option Nat}
theorem js.lstj(hx:H.at b=some x)(h1:x.ty=ty)(h2:x.esz=esz)(h3:x.opn=false)(h4:x.size=l.length)(h5:x.fzn=0)(hM:M.contains b=false)(hl:l.length<1000000)(hg:∀i,i<l.length->Wv r M H (x.get i) (l[i]?.getD .u)):js r M H b (eZ esz ty l):=by
 refine⟨x,hx,h1.symm,h2.symm,h3.symm,rfl,.inl h4.symm,by rw[if_neg (by simpa using hM),h5];exact apf _,λi hi=>?_⟩
 have hi':i<l.length:=hi;rw[qy esz ty l i hl];exact hg i hi'
theorem Cv.ownb{n z:Nat}{row:Nat->Nat->AV}(hx:H.at b=some (fg ty esz n z row))(hc:∀i j,i<n->j<esz->(row i j).cell=true)(hm:b ∈ M):Cv M H (.os b n) (.fs esz n row):=
 .os hm hx (bL _) (λi j _ hj=>fI i j hj) hc
theorem anC(h:i<2):i=0\/i=1:=aa
theorem lt3z(h:i<3):i=0\/i=1\/i=2:=aa
theorem lt4z(h:i<4):i=0\/i=1\/i=2\/i=3:=aa
theorem avB(h:i<1):i=0:=aa
theorem js.j1(hx:H.at b=some x:=by simp only[go_sem,simprocAttr]<;>rfl)(h1:x.ty=ty:=by rfl)(h2:x.esz=esz:=by rfl)(h3:x.opn=false:=by rfl)(h4:x.size=l.length:=by rfl)(h5:x.fzn=0:=by rfl)(hM:M.contains b=false:=by rfl)(hl:l.length<1000000:=by simp)(hg:∀i,i<l.length->Wv r M H (x.get i) (l[i]?.getD .u):=by intro i hi;rcases avB hi with rfl<;>(simp only[go_sem,simprocAttr];first|exact Wv.same rfl|exact Wv.os rfl|exact Wv.p rfl|exact Wv.n aa)):js r M H b (eZ esz ty l):= .lstj hx h1 h2 h3 h4 h5 hM hl hg
theorem avA(h:i<2):i=0\/i=1:=aa
theorem js.j2(hx:H.at b=some x:=by simp only[go_sem,simprocAttr]<;>rfl)(h1:x.ty=ty:=by rfl)(h2:x.esz=esz:=by rfl)(h3:x.opn=false:=by rfl)(h4:x.size=l.length:=by rfl)(h5:x.fzn=0:=by rfl)(hM:M.contains b=false:=by rfl)(hl:l.length<1000000:=by simp)(hg:∀i,i<l.length->Wv r M H (x.get i) (l[i]?.getD .u):=by intro i hi;rcases avA hi with rfl|rfl<;>(simp only[go_sem,simprocAttr];first|exact Wv.same rfl|exact Wv.os rfl|exact Wv.p rfl|exact Wv.n aa)):js r M H b (eZ esz ty l):= .lstj hx h1 h2 h3 h4 h5 hM hl hg
theorem avz(h:i<3):i=0\/i=1\/i=2:=aa
theorem js.j3(hx:H.at b=some x:=by simp only[go_sem,simprocAttr]<;>rfl)(h1:x.ty=ty:=by rfl)(h2:x.esz=esz:=by rfl)(h3:x.opn=false:=by rfl)(h4:x.size=l.length:=by rfl)(h5:x.fzn=0:=by rfl)(hM:M.contains b=false:=by rfl)(hl:l.length<1000000:=by simp)(hg:∀i,i<l.length->Wv r M H (x.get i) (l[i]?.getD .u):=by intro i hi;rcases avz hi with rfl|rfl|rfl<;>(simp only[go_sem,simprocAttr];first|exact Wv.same rfl|exact Wv.os rfl|exact Wv.p rfl|exact Wv.n aa)):js r M H b (eZ esz ty l):= .lstj hx h1 h2 h3 h4 h5 hM hl hg
theorem avy(h:i<4):i=0\/i=1\/i=2\/i=3:=aa
theorem js.j4(hx:H.at b=some x:=by simp only[go_sem,simprocAttr]<;>rfl)(h1:x.ty=ty:=by rfl)(h2:x.esz=esz:=by rfl)(h3:x.opn=false:=by rfl)(h4:x.size=l.length:=by rfl)(h5:x.fzn=0:=by rfl)(hM:M.contains b=false:=by rfl)(hl:l.length<1000000:=by simp)(hg:∀i,i<l.length->Wv r M H (x.get i) (l[i]?.getD .u):=by intro i hi;rcases avy hi with rfl|rfl|rfl|rfl<;>(simp only[go_sem,simprocAttr];first|exact Wv.same rfl|exact Wv.os rfl|exact Wv.p rfl|exact Wv.n aa)):js r M H b (eZ esz ty l):= .lstj hx h1 h2 h3 h4 h5 hM hl hg
theorem avx(h:i<5):i=0\/i=1\/i=2\/i=3\/i=4:=aa
theorem js.j5(hx:H.at b=some x:=by simp only[go_sem,simprocAttr]<;>rfl)(h1:x.ty=ty:=by rfl)(h2:x.esz=esz:=by rfl)(h3:x.opn=false:=by rfl)(h4:x.size=l.length:=by rfl)(h5:x.fzn=0:=by rfl)(hM:M.contains b=false:=by rfl)(hl:l.length<1000000:=by simp)(hg:∀i,i<l.length->Wv r M H (x.get i) (l[i]?.getD .u):=by intro i hi;rcases avx hi with rfl|rfl|rfl|rfl|rfl<;>(simp only[go_sem,simprocAttr];first|exact Wv.same rfl|exact Wv.os rfl|exact Wv.p rfl|exact Wv.n aa)):js r M H b (eZ esz ty l):= .lstj hx h1 h2 h3 h4 h5 hM hl hg
theorem avw(h:i<6):i=0\/i=1\/i=2\/i=3\/i=4\/i=5:=aa
theorem js.j6(hx:H.at b=some x:=by simp only[go_sem,simprocAttr]<;>rfl)(h1:x.ty=ty:=by rfl)(h2:x.esz=esz:=by rfl)(h3:x.opn=false:=by rfl)(h4:x.size=l.length:=by rfl)(h5:x.fzn=0:=by rfl)(hM:M.contains b=false:=by rfl)(hl:l.length<1000000:=by simp)(hg:∀i,i<l.length->Wv r M H (x.get i) (l[i]?.getD .u):=by intro i hi;rcases avw hi with rfl|rfl|rfl|rfl|rfl|rfl<;>(simp only[go_sem,simprocAttr];first|exact Wv.same rfl|exact Wv.os rfl|exact Wv.p rfl|exact Wv.n aa)):js r M H b (eZ esz ty l):= .lstj hx h1 h2 h3 h4 h5 hM hl hg
theorem js.rz{row:Nat->Nat->AV}(hx:H.at b=some x:=by simp only[go_sem,simprocAttr]<;>rfl)(h1:x.ty=ty:=by rfl)(h2:x.esz=esz:=by rfl)(h3:x.opn=true:=by rfl)(h5:(if b ∈ M then max x.size x.fzn else x.fzn)<=0:=by exact bL _)(h0:0<esz:=by decide):js r M H b (fg ty esz 0 0 row):= .rows (x:=x) hx h1 h2 h3 (by rw[ap3];exact apf _) h5 h0 (λi j h=>absurd h (apg _)) (λi j h=>absurd h (apg _))
end
section
variable {H:AH}{l:List AV}{M:List Nat}{b esz n o q ty z:Nat}{row row2:Nat->Nat->AV}{r:Nat->Option Nat}
theorem Ax(hl:l.length=esz)(hq:q<n)(hn:n*esz<1000000):∀i j,i<n->j<esz->((fg ty esz n z row).putN (q*esz) l).get (i*esz+j)=if i=q then l[j]?.getD .u else row i j:=by
 intro i j hi hj;have hql:q*esz+esz<=n*esz:=by
  have:=apD esz (aqc hq);rwa [apM] at this
 rw[jL aa];by_cases e:i=q
 ·subst e;rw[if_pos aa,if_pos rfl,Nat.add_sub_cancel_left]
 ·rw[if_neg e,if_neg ?_]
  ·exact fI i j hj
  ·rintro ⟨h1,h2⟩;rcases Nat.lt_or_gt_of_ne e with h|h
   ·exact arj
   ·exact arj
theorem js.put(hx:H.at b=some ((fg ty esz n z row).putN o l))(ho:o=q*esz)(hl:l.length=esz)(hq:q<n)(hM:M.contains b=false)(h0:0<esz)(hn:n*esz<1000000)
  (h2:∀i j,i<n->j<esz->(if i=q then l[j]?.getD .u else row i j)=row2 i j) (hc:∀i j,i<n->j<esz->(row2 i j).pu 3=true):js r M H b (fg ty esz n z row2):=by
 subst ho;exact js.rows hx rfl rfl rfl (bL _) aq1 h0 (λi j hi hj=>(Ax hl hq hn i j hi hj).trans (h2 i j hi hj)) hc
theorem js.same(hx:H.at b=some (fg ty esz n z row))(hM:M.contains b=false)(h0:0<esz)(h2:∀i j,i<n->j<esz->row i j=row2 i j)(hc:∀i j,i<n->j<esz->(row2 i j).pu 3=true):js r M H b (fg ty esz n z row2):=
 js.rows hx rfl rfl rfl (bL _) aq1 h0 (λi j hi hj=>(fI i j hj).trans (h2 i j hi hj)) hc
theorem js.s1(hx:H.at b=some (fg ty 1 n z row):=by simp only[go_sem,simprocAttr]<;>rfl)(hM:M.contains b=false:=by rfl)(h2:∀i j,i<n->j<1->row i j=row2 i j:=by intro _ j _ hj;cases apE.1 hj;rfl)(hc:∀i j,i<n->j<1->(row2 i j).pu 3=true:=by intro _ _ _ _;rfl):js r M H b (fg ty 1 n z row2):= .same hx hM ag h2 hc
theorem js.pop{m:Nat}(hx:H.at b=some (fg ty esz n z row))(hM:M.contains b=false)(h0:0<esz)(hm:m<=n)(h2:∀i j,i<m->j<esz->row i j=row2 i j)(hc:∀i j,i<m->j<esz->(row2 i j).pu 3=true):js r M H b (fg ty esz m z row2):=
 js.rows hx rfl rfl rfl (apD esz hm) aq1 h0 (λi j hi hj=>(fI i j hj).trans (h2 i j hi hj)) hc
theorem i5{l:List Int}(hq:q<l.length)(v:Int)(i:Nat):(l.set q v).getD i 0=if i=q then v else l.getD i 0:=by
 simp only[apd,List.getElem?_set];by_cases h:q=i
 ·subst h;simp[hq]
 ·simp[h,Ne.symm h]
theorem kL(i:Nat):(fg ty 1 n z row).get i=row i 0:=by
 have:=fI (ty:=ty) (n:=n) (z:=z) (row:=row) i 0 (by decide:0<1)
 simpa using this
theorem js.snoc(hx:H.at b=some ((fg ty esz n z row).app o (.li l)))(ho:o=n*esz)(hl:l.length=esz)(hM:M.contains b=false)(h0:0<esz)(hn:(n+1)*esz<2^40)
  (h1:∀i j,i<n->j<esz->row2 i j=row i j) (h2:∀j,j<esz->row2 n j=l[j]?.getD .u) (hc:∀i j,i<n+1->j<esz->(row2 i j).pu 3=true):js r M H b (fg ty esz (n+1) z row2):=by
 subst ho;refine js.rows hx (AB.app_rest _ _ _).2.1 (AB.app_rest _ _ _).1 (AB.app_rest _ _ _).2.2.1 ?_ ?_ h0 (sQ hl hn h1 h2) hc
 ·rw[AB.app_size];simp only[ke.len,hl,apM];exact bL _
 ·exact ark
theorem js.snocw(hx:H.at b=some ((fg ty esz n z row).app o (.li l)))(ho:o=n*esz)(hl:l.length=esz)(hM:M.contains b=false)(h0:0<esz)(hn:(n+1)*esz<2^40)
  (h1:∀i j,i<n->j<esz->row2 i j=row i j) (hc:∀i j,i<n->j<esz->(row i j).pu 3=true) (h2:∀j,j<esz->Wv r M H (l[j]?.getD .u) (row2 n j)):js r M H b (fg ty esz (n+1) z row2):=by
 subst ho;have hsz:((fg ty esz n z row).app (n*esz) (.li l)).size=(n+1)*esz:=by
  rw[AB.app_size];simp only[ke.len,hl,apM]
 have hre:=AB.app_rest (fg ty esz n z row) (n*esz) (.li l);refine⟨_,hx,hre.2.1.symm,hre.1.symm,hre.2.2.1.symm,rfl,.inl hsz.symm,?_,λi hi=>?_⟩
 ·exact ark
 have hi':i<(n+1)*esz:=hi;have hq:i / esz<n+1:=Nat.div_lt_of_lt_mul (by rw[apT];exact hi')
 have hm:i%esz<esz:=Nat.mod_lt _ h0;have hdm:i / esz*esz+i%esz=i:=by
  have:=Nat.div_add_mod i esz;rw[apT] at this;exact this
 have e1:(fg ty esz (n+1) z row2).get i=row2 (i / esz) (i%esz):=rfl;have e2:=rX (fg ty esz n z row) n esz l hl hn _ _ hq hm;rw[hdm] at e2;rw[e1,e2];by_cases h:i / esz<n
 ·rw[if_pos h,h1 _ _ h hm];have:=fI (ty:=ty) (n:=n) (z:=z) (row:=row) (i / esz) (i%esz) hm;rw[hdm] at this;rw[this];exact .cv (.rfl (hc _ _ h hm))
 ·rw[if_neg h];have:i / esz=n:=aa;rw[this];exact h2 _ hm
theorem jy{α:Type}{l l':List α}{i:Nat}{d:α}(h:i<l.length):(l++l').getD i d=l.getD i d:=by
 simp[apd,apF h]
theorem jz{α:Type}{l:List α}{x d:α}:(l++[x]).getD l.length d=x:=by
 simp[apd]
theorem js.put1{t:Nat}{v:AV}(hx:H.at b=some ((fg ty esz n z row).putN o [v]))(ho:o=q*esz+t)(ht:t<esz)(hq:q<n)(hM:M.contains b=false)(hn:n*esz<1000000)
  (h2:∀i j,i<n->j<esz->(if i=q/\j=t then v else row i j)=row2 i j) (hc:∀i j,i<n->j<esz->(row2 i j).pu 3=true):js r M H b (fg ty esz n z row2):=by
 subst ho;have hql:q*esz+esz<=n*esz:=by
  have:=apD esz (aqc hq);rwa [apM] at this
 refine js.rows hx rfl rfl rfl (bL _) aq1 aa (λi j hi hj=>?_) hc
 rw[jL arl]
 by_cases e:i=q/\j=t
 ·obtain⟨rfl,rfl⟩:=e;rw[if_pos ae,<-h2 i j hi hj,if_pos ⟨rfl,rfl⟩,apt];rfl
 ·rw[if_neg ?_,<-h2 i j hi hj,if_neg e]
  ·exact fI i j hj
  ·rintro ⟨h3,h4⟩;simp only[List.length_cons,List.length_nil] at h4;have h5:i*esz+j=q*esz+t:=aa;rcases Nat.lt_trichotomy i q with h|h|h
   ·exact arj
   ·subst h;exact e ⟨rfl,aa⟩
   ·exact arj
end
theorem HR.recell{B:Nat}{σ:Sg}{H:AH}{w:World}{b:Nat}{x x':AB}(h:HR B σ H w)(hx:H.at b=some x)(hb:b<1000000)(hsz:x'.size=x.size)(hty:x'.ty=x.ty)(hesz:x'.esz=x.esz)(hop:x'.opn=x.opn)(hlv:x'.live=true)(hfz:x'.fzn=x.fzn)
  (hc:∀i u,i<x.size->VR σ (x.get i) u->VR σ (x'.get i) u):HR B σ (H.upd b x') w:=by
 have look:∀b2 y,(H.upd b x').at b2=some y->(b2=b/\y=x')\/(b2≠b/\H.at b2=some y):=by
  intro b2 y hy;rw[zX hb] at hy;by_cases e:b2=b
  ·rw[if_pos e,if_pos hlv] at hy;cases hy;exact .inl ⟨e,rfl⟩
  ·exact aqt
 refine⟨h.new,h.newl,λb2 hb2=>?_,h.small,h.hB,λb2 y hy hn=>?_,h.nilp,λb2 y c o hy hs=>?_,λb2 y hy=>?_,λb2 b3 y y' c o o' k1 k2 k3 k4=>?_,λc fs hf=>?_,h.ob⟩
 ·cases hy:(H.upd b x').at b2 with
  |none=>rfl
  |some y=>
   rcases look b2 y hy with⟨rfl,_⟩|⟨_,h1⟩
   ·have:=h.old b2 hb2;rw[hx] at this;cases this
   ·have:=h.old b2 hb2;rw[h1] at this;cases this
 ·rcases look b2 y hy with⟨rfl,rfl⟩|⟨_,h1⟩
  ·have:=h.nil b2 x hx hn;exact⟨by rw[hsz];exact this.1,by rw[hop];exact this.2.1,this.2.2⟩
  ·exact h.nil b2 y h1 hn
 ·rcases look b2 y hy with⟨rfl,rfl⟩|⟨_,h1⟩
  ·obtain⟨cs,g1,g2,g3⟩:=h.blk b2 x c o hx hs;exact⟨cs,g1,by rw[hty];exact g2,by rw[hsz];exact g3.sz,λe=>by rw[hsz];exact g3.ex e,λk hk=>by rw[hesz];exact g3.op k hk,by rw[hop];exact g3.ob,λi hi=>hc i _ (by rw[<-hsz];exact hi) (g3.cell i (by rw[<-hsz];exact hi))⟩
  ·exact h.blk b2 y c o h1 hs
 ·rcases look b2 y hy with⟨rfl,rfl⟩|⟨_,h1⟩
  ·rw[hsz];exact h.szs b2 x hx
  ·exact h.szs b2 y h1
 ·have f:∀b2 y,(H.upd b x').at b2=some y->∃z,H.at b2=some z:=λb2 y hy=>by
   rcases look b2 y hy with⟨rfl,rfl⟩|⟨_,h1⟩
   ·exact⟨x,hx⟩
   ·exact⟨y,h1⟩
  obtain⟨z1,hz1⟩:=f b2 y k1;obtain⟨z2,hz2⟩:=f b3 y' k2;exact h.inj b2 b3 z1 z2 c o o' hz1 hz2 k3 k4
 ·obtain⟨cs,t,fr,g1,g2,g3⟩:=h.frz c fs hf;refine⟨cs,t,fr,g1,g2,λb2 y o hy hs=>?_⟩;rcases look b2 y hy with⟨rfl,rfl⟩|⟨_,h1⟩
  ·rw[hfz];exact g3 b2 x o hx hs
  ·exact g3 b2 y o h1 hs
theorem Wk.nilb{n:Nat}{e:Tr AV}{H:AH}(b i esz ty:Nat){x:AB}(hx:H.at b=some x)(hg:x.get i= .sl0)(hi:i<1000000)(hb:b<1000000)(hbn:b<H.next)(hlv:x.live=true)(hn:H.next<1000000):
  Wk n e H e ((H.new (l8 esz ty)).upd b (x.set i (.os H.next 0))):=by
 intro B σ a w hE hH;have hle:=σ.le_extNil H.next
 have h1:=hH.placeNil (x:=l8 esz ty) (H1:=H) rfl (λ_ _ h=>h) aa rfl rfl rfl ⟨rfl,rfl⟩;refine⟨σ.extNil H.next,⟨⟨hE.er.df,λt' v hv=>(hE.er.get t' v hv).mono hle⟩,hE.sz,hE.sm⟩,?_,.of_eq rfl⟩
 have hx1:(H.new (l8 esz ty)).at b=some x:=by rw[kG hn,if_neg aa];exact hx
 refine h1.recell hx1 hb rfl rfl rfl rfl hlv rfl (λj u hj hu=>?_);rw[vk hi];by_cases e:j=i
 ·exact arx
 ·rw[if_neg e];exact hu
end Go.Proofs.YtdpkgnmmikebdaaGreat