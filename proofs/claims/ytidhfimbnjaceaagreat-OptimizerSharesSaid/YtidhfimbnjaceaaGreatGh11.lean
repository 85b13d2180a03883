/- A part of the proof of OptimizerShares: EvS EvU EvV EvW EvX. No condition. -/
import Derived.Test.YtidhfimbnjaceaaGreatGh09
set_option linter.unusedSimpArgs false
set_option linter.unusedVariables false
set_option linter.constructorNameAsVariable false
set_option maxRecDepth 100000
set_option maxHeartbeats 4000000
namespace Go.Proofs.YtidhfimbnjaceaaGreat
open Go.RowKit
/-! what follows an operation,closed till its value is there-/
def vS (P:Program) (l:List AO) (e:Tr AV) (d:Option Nat) (Q:Tr AV->AH->Prop) (v:AV) (H:AH):Prop:=i5 P l (bc e d v) H Q
theorem tc (P:Program) (l:List AO) (e:Tr AV) (d:Option Nat) (Q:Tr AV->AH->Prop) (v:AV) (H:AH):vS P l e d Q v H=i5 P l (bc e d v) H Q:=id rfl
theorem tr (P:Program) (e:Tr AV) (H:AH) (Q:Tr AV->AH->Prop):i5 P [] e H Q=Q e H:=id rfl
def Ni (P:Program) (d:Option Nat) (k:AK) (l:List AO) (e:Tr AV) (H:AH) (Q:Tr AV->AH->Prop):Option Bool->Prop
 |some true=>gK P e H k (vS P l e d Q)
 |some false=>i5 P l (bc e d (.tup [])) H Q
 |none=>False
theorem tp (P:Program) (d:Option Nat) (k:AK) (l:List AO) (e:Tr AV) (H:AH) (Q:Tr AV->AH->Prop):Ni P d k l e H Q (some true)=gK P e H k (vS P l e d Q):=id rfl
theorem rj (P:Program) (d:Option Nat) (k:AK) (l:List AO) (e:Tr AV) (H:AH) (Q:Tr AV->AH->Prop):Ni P d k l e H Q (some false)=i5 P l (bc e d (.tup [])) H Q:=id rfl
theorem rn (P:Program) (d:Option Nat) (g:Option (Nat×Bool)) (k:AK) (l:List AO) (e:Tr AV) (H:AH) (Q:Tr AV->AH->Prop):i5 P (⟨d,g,k⟩::l) e H Q=Ni P d k l e H Q (dc e g):=by
 show(match dc e g with
  |some t=>(t=true->gK P e H k (vS P l e d Q))/\(t=false->i5 P l (bc e d (.tup [])) H Q)
  |none=>False)=_
 cases dc e g with
 |none=>rfl
 |some t=>cases t<;>simp[Ni]
def ud (r:Option (AV×AH)) (Q:AV->AH->Prop):Prop:=match r with
  |some (v,H')=>Q v H'
  |none=>False
theorem pk (v:AV) (H:AH) (Q:AV->AH->Prop):ud (some (v,H)) Q=Q v H:=id rfl
theorem pm (Q:AV->AH->Prop):ud none Q=False:=id rfl
theorem MQ (P:Program) (e:Tr AV) (H:AH) (x:AP) (Q:AV->AH->Prop):gK P e H (.ap x) Q=ud (x.run e H) Q:=id rfl
def snA (neg:Bool) (H:AH) (Q:AV->AH->Prop):Option AV->Prop
 |some (.fs _ n _)=>∀t,(t=(!neg)->n=0)->Q (.b t) H
 |_=>False
theorem MO (P:Program) (e:Tr AV) (H:AH) (neg:Bool) (x:AX) (Q:AV->AH->Prop):gK P e H (.sn neg x) Q=snA neg H Q (x.ev e):=id rfl
theorem Ca (neg:Bool) (H:AH) (Q:AV->AH->Prop) (esz n:Nat) (row:Nat->Nat->AV):snA neg H Q (some (.fs esz n row))=∀t,(t=(!neg)->n=0)->Q (.b t) H:=rfl
theorem MP (P:Program) (e:Tr AV) (H:AH) (f:AX) (args:List AX) (Q:AV->AH->Prop):gK P e H (.cl f args) Q=match f.ev e,vp e args with
  |some (.f g first cap),some vs=>n7 P g (first++vs++cap) H Q
  |_,_=>False:=id rfl
def oO (P:Program) (H0:AH) (m:Nat) (nc:Bool) (l:List (Nat×AO)) (e:Tr AV) (d:Option Nat) (Q:Tr AV->AH->Prop) (v:AV) (H:AH):Prop:=eZ P H0 m nc l (bc e d v) H Q
theorem td (P:Program) (H0:AH) (m:Nat) (nc:Bool) (l:List (Nat×AO)) (e:Tr AV) (d:Option Nat) (Q:Tr AV->AH->Prop) (v:AV) (H:AH):oO P H0 m nc l e d Q v H=eZ P H0 m nc l (bc e d v) H Q:=id rfl
def pT (P:Program) (H0:AH) (m:Nat) (nc:Bool) (k:Nat) (l:List (Nat×AO)) (e:Tr AV) (d:Option Nat) (Q:Tr AV->AH->Prop) (v:AV) (H:AH):Prop:=(k=3\/m<=H.low)/\eZ P H0 m nc l (bc e d v) H Q
theorem rf (P:Program) (H0:AH) (m:Nat) (nc:Bool) (k:Nat) (l:List (Nat×AO)) (e:Tr AV) (d:Option Nat) (Q:Tr AV->AH->Prop) (v:AV) (H:AH):pT P H0 m nc k l e d Q v H=((k=3\/m<=H.low)/\eZ P H0 m nc l (bc e d v) H Q):=id rfl
theorem tu (P:Program) (H0:AH) (m:Nat) (nc:Bool) (e:Tr AV) (H:AH) (Q:Tr AV->AH->Prop):eZ P H0 m nc [] e H Q=Q e H:=id rfl
def Nj (P:Program) (H0:AH) (m:Nat) (nc:Bool) (k:Nat) (d:Option Nat) (a:AK) (l:List (Nat×AO)) (e:Tr AV) (H:AH) (Q:Tr AV->AH->Prop):Option Bool->Prop
 |some true=>if k=1 then iq H0 m nc e a/\gK P e H a (oO P H0 m nc l e d Q)
    else if k=2 then hJ a=true/\gK P e H a (oO P H0 m nc l e d Q)
    else gK P e H a (pT P H0 m (nc&& !nB a) k l e d Q)
 |some false=>(k=0->m<=H.low)/\eZ P H0 m nc l (bc e d (.tup [])) H Q
 |none=>False
theorem tq (P:Program) (H0:AH) (m:Nat) (nc:Bool) (k:Nat) (d:Option Nat) (a:AK) (l:List (Nat×AO)) (e:Tr AV) (H:AH) (Q:Tr AV->AH->Prop):Nj P H0 m nc k d a l e H Q (some true)=if k=1 then iq H0 m nc e a/\gK P e H a (oO P H0 m nc l e d Q)
    else if k=2 then hJ a=true/\gK P e H a (oO P H0 m nc l e d Q)
    else gK P e H a (pT P H0 m (nc&& !nB a) k l e d Q):=id rfl
theorem rk (P:Program) (H0:AH) (m:Nat) (nc:Bool) (k:Nat) (d:Option Nat) (a:AK) (l:List (Nat×AO)) (e:Tr AV) (H:AH) (Q:Tr AV->AH->Prop):Nj P H0 m nc k d a l e H Q (some false)=((k=0->m<=H.low)/\eZ P H0 m nc l (bc e d (.tup [])) H Q):=id rfl
theorem ro (P:Program) (H0:AH) (m:Nat) (nc:Bool) (k:Nat) (d:Option Nat) (g:Option (Nat×Bool)) (a:AK) (l:List (Nat×AO)) (e:Tr AV) (H:AH) (Q:Tr AV->AH->Prop):eZ P H0 m nc ((k,⟨d,g,a⟩)::l) e H Q=Nj P H0 m nc k d a l e H Q (dc e g):=by
 show(match dc e g with
  |some t=>
   (t=true->if k=1 then iq H0 m nc e a/\gK P e H a (oO P H0 m nc l e d Q)
    else if k=2 then hJ a=true/\gK P e H a (oO P H0 m nc l e d Q)
    else gK P e H a (pT P H0 m (nc&& !nB a) k l e d Q))/\
   (t=false->(k=0->m<=H.low)/\eZ P H0 m nc l (bc e d (.tup [])) H Q)
  |none=>False)=_
 cases dc e g with
 |none=>rfl
 |some t=>cases t<;>simp[Nj]
def pS (P:Program) (m:Nat) (T:AT) (e:Tr AV) (d:Option Nat) (Q:Tr AV->AH->Prop) (v:AV) (H:AH):Prop:=m<=H.low/\eo P m T (bc e d v) H Q
theorem re (P:Program) (m:Nat) (T:AT) (e:Tr AV) (d:Option Nat) (Q:Tr AV->AH->Prop) (v:AV) (H:AH):pS P m T e d Q v H=(m<=H.low/\eo P m T (bc e d v) H Q):=id rfl
theorem rl (P:Program) (m:Nat) (e:Tr AV) (H:AH) (Q:Tr AV->AH->Prop):eo P m .fin e H Q=Q e H:=id rfl
theorem oW (P:Program) (m:Nat) (e:Tr AV) (H:AH) (Q:Tr AV->AH->Prop):eo P m .none e H Q=True:=id rfl
def Nh (P:Program) (m:Nat) (d:Option Nat) (a:AK) (r:AT) (e:Tr AV) (H:AH) (Q:Tr AV->AH->Prop):Option Bool->Prop
 |some true=>gK P e H a (pS P m r e d Q)
 |some false=>m<=H.low/\eo P m r (bc e d (.tup [])) H Q
 |none=>False
theorem tn (P:Program) (m:Nat) (d:Option Nat) (a:AK) (r:AT) (e:Tr AV) (H:AH) (Q:Tr AV->AH->Prop):Nh P m d a r e H Q (some true)=gK P e H a (pS P m r e d Q):=id rfl
theorem ri (P:Program) (m:Nat) (d:Option Nat) (a:AK) (r:AT) (e:Tr AV) (H:AH) (Q:Tr AV->AH->Prop):Nh P m d a r e H Q (some false)=(m<=H.low/\eo P m r (bc e d (.tup [])) H Q):=id rfl
theorem rm (P:Program) (m:Nat) (d:Option Nat) (g:Option (Nat×Bool)) (a:AK) (r more:AT) (e:Tr AV) (H:AH) (Q:Tr AV->AH->Prop):eo P m (.alt ⟨d,g,a⟩ r more) e H Q=(Nh P m d a r e H Q (dc e g)/\eo P m more e H Q):=by
 show((match dc e g with
   |some t=>(t=true->gK P e H a (pS P m r e d Q))/\(t=false->m<=H.low/\eo P m r (bc e d (.tup [])) H Q)
   |none=>False)/\eo P m more e H Q)=_
 cases dc e g with
 |none=>rfl
 |some t=>cases t<;>simp[Nh]
theorem tM (H0:AH) (m:Nat) (nc:Bool) (e:Tr AV) (n:Nat) (row:Bool) (x:AX):iq H0 m nc e (.ap (.ld n row x))=match x.ev e with
  |some (.p b _)=>b<m/\(H0.at b).isSome=true
  |some (.fp _ _ _)=>nc=true
  |_=>False:=id rfl
theorem Cf (k:IntKind) (a b:Int):gf (binOp .lss 0 (.int k a) (.int k b))=some (.b (decide (a<b))):=by cases k<;>rfl
theorem Cg (k:IntKind) (a b:Int):gf (binOp .leq 0 (.int k a) (.int k b))=some (.b (decide (a<=b))):=by cases k<;>rfl
theorem Ch (k:IntKind) (a b:Int):gf (binOp .gtr 0 (.int k a) (.int k b))=some (.b (decide (b<a))):=by cases k<;>rfl
theorem Ci (k:IntKind) (a b:Int):gf (binOp .geq 0 (.int k a) (.int k b))=some (.b (decide (b<=a))):=by cases k<;>rfl
theorem Cj (k:IntKind) (a b:Int):gf (binOp .eql 0 (.int k a) (.int k b))=some (.b (decide (a=b))):=by
 cases k<;>(show some (AV.b (a==b))=_;congr)
theorem Cd (k:IntKind) (a b:Int):gf (binOp .neq 0 (.int k a) (.int k b))=some (.b (!decide (a=b))):=by
 cases k<;>(show some (AV.b (a != b))=_;congr)
theorem Ck (k:IntKind) (a b:Int):gf (binOp .add 0 (.int k a) (.int k b))=some (.n k (k.wrap (a+b))):=by cases k<;>rfl
theorem Cb (k:IntKind) (a b:Int):gf (binOp .sub 0 (.int k a) (.int k b))=some (.n k (k.wrap (a-b))):=by cases k<;>rfl
theorem Ce (k:IntKind) (a b:Int):gf (binOp .mul 0 (.int k a) (.int k b))=some (.n k (k.wrap (a*b))):=by cases k<;>rfl
theorem Cc (b:Bool):gf (Op.unary .not (.bool b))=some (.b (!b)):=rfl
theorem cG {x:Int} (h: -9223372036854775808<=x/\x<=9223372036854775807):IntKind.wrap .i64 x=x:=by
 rw[IntKind.wrap_i64];omega
theorem qk (e:Tr AV):dc e none=some true:=rfl
theorem Wk.arg (n:Nat) (args:List AV) (H:AH) (h:args.length<100000):Wk n (gW args) H (aI (aW 0 args)) H:=by
 intro B σ a w hE hH
 refine⟨σ,⟨⟨hE.er.df,λt v hv=>hE.er.get t v ?_⟩,hE.sz,hE.sm⟩,hH,.refl _ _⟩
 rw[n3 _ _ _ (by omega)] at hv
 rw[gl _ _ (by omega)]
 split at hv
 ·simpa using hv
 ·cases hv
theorem pJ {x:AB} {i:Nat} (h:i<1000000) (v:AV) (j:Nat):(x.set i v).get j=if j=i then v else x.get j:=AB.get_set x i j v (by omega)
theorem i4 (n esz ty:Nat) (d:Nat->AV) (l:List AV) (o lv:Bool) (z i:Nat) (h:l.length<1000000):AB.get ⟨n,esz,ty,d,gW l,o,lv,z⟩ i=l[i]?.getD (d i):=by
 simp only[AB.get]
 rw[gl l i (by omega)]
theorem vY (n esz ty:Nat) (d:Nat->AV) (o lv:Bool) (z i:Nat):AB.get ⟨n,esz,ty,d,.nil,o,lv,z⟩ i=d i:=id rfl
theorem Wk.nil {n:Nat} {e:Tr AV} {H:AH} (t esz ty:Nat) (ht:e.get t=some .sl0) (hs:t<1000000) (hn:H.next<1000000):Wk n e H (bc e (some t) (.os H.next 0)) (H.new (jM esz ty)):=by
 intro B σ a w hE hH
 have hle:=σ.le_extNil H.next
 refine⟨σ.extNil H.next,⟨⟨hE.er.df,λt' v hv=>?_⟩,hE.sz,hE.sm⟩,hH.placeNil rfl (λ_ _ h=>h) (by omega) rfl rfl rfl,λ_ _=>rfl⟩
 simp only[bc] at hv
 rw[Tr.get_set 48 e t _ t' (by omega)] at hv
 by_cases h:t'=t
 ·subst h
  rw[if_pos rfl] at hv
  cases hv
  have:=hE.er.get t' _ ht
  generalize a.tmps.getD t' undef=u at this
  cases this
  exact .os0 (σ:=σ.extNil H.next) (Or.inl rfl) _
 ·rw[if_neg h] at hv
  exact(hE.er.get t' v hv).mono hle
theorem qB (ty esz n z:Nat) (row:Nat->Nat->AV):(ar ty esz n z row).size=n*esz:=id rfl
theorem sH (ty esz n z:Nat) (row:Nat->Nat->AV):(ar ty esz n z row).esz=esz:=id rfl
theorem vz (ty esz n z:Nat) (row:Nat->Nat->AV):(ar ty esz n z row).ty=ty:=id rfl
theorem sE (ty esz n z:Nat) (row:Nat->Nat->AV):(ar ty esz n z row).opn=true:=id rfl
theorem qC (ty esz n z:Nat) (row:Nat->Nat->AV):(ar ty esz n z row).live=true:=id rfl
theorem sG (ty esz n z:Nat) (row:Nat->Nat->AV):(ar ty esz n z row).fzn=z:=id rfl
theorem qO (esz ty:Nat):(jM esz ty).size=0:=id rfl
theorem sR (esz ty:Nat):(jM esz ty).esz=esz:=id rfl
theorem vJ (esz ty:Nat):(jM esz ty).ty=ty:=id rfl
theorem sP (esz ty:Nat):(jM esz ty).opn=true:=id rfl
theorem qP (esz ty:Nat):(jM esz ty).live=true:=id rfl
theorem sQ (esz ty:Nat):(jM esz ty).fzn=0:=id rfl
theorem uq {l:List AB} (h:l.length<1000000) (x:AB) (b:Nat):(am (x::l)).at b=if b=l.length then(if x.live then some x else none) else(am l).at b:=by
 rw[lN,mH (by rw[aO];exact h),aO]
theorem nu:∀l:List AB,(am l).low=2^40
 |[]=>rfl
 |x::l=>nu l
theorem qW (esz ty:Nat) (l:List AV):(ax esz ty l).size=l.length:=id rfl
theorem s6 (esz ty:Nat) (l:List AV):(ax esz ty l).esz=esz:=id rfl
theorem vM (esz ty:Nat) (l:List AV):(ax esz ty l).ty=ty:=id rfl
theorem s4 (esz ty:Nat) (l:List AV):(ax esz ty l).opn=false:=id rfl
theorem qX (esz ty:Nat) (l:List AV):(ax esz ty l).live=true:=id rfl
theorem s5 (esz ty:Nat) (l:List AV):(ax esz ty l).fzn=0:=id rfl
theorem MH (x:Bool):AV.one (.b x)=true:=id rfl
theorem wt (x:Bool):AV.cells (.b x)=[.b x]:=id rfl
theorem MF (k:IntKind) (x:Int):AV.one (.n k x)=true:=id rfl
theorem wm (k:IntKind) (x:Int):AV.cells (.n k x)=[.n k x]:=id rfl
theorem MD (x:ByteArray):AV.one (.s x)=true:=id rfl
theorem wj (x:ByteArray):AV.cells (.s x)=[.s x]:=id rfl
theorem Ct:AV.one (.p0)=true:=id rfl
theorem t6:AV.cells (.p0)=[.p0]:=id rfl
theorem ME (b o:Nat):AV.one (.p b o)=true:=id rfl
theorem wl (b o:Nat):AV.cells (.p b o)=[.p b o]:=id rfl
theorem vI:AV.one (.sl0)=true:=id rfl
theorem rD:AV.cells (.sl0)=[.sl0]:=id rfl
theorem Cs (b o l c:Nat):AV.one (.sl b o l c)=true:=id rfl
theorem t5 (b o l c:Nat):AV.cells (.sl b o l c)=[.sl b o l c]:=id rfl
theorem Cy:AV.one (.f0)=true:=id rfl
theorem ua:AV.cells (.f0)=[.f0]:=id rfl
theorem MG (g:FuncId) (l1 l2:List AV):AV.one (.f g l1 l2)=true:=id rfl
theorem wq (g:FuncId) (l1 l2:List AV):AV.cells (.f g l1 l2)=[.f g l1 l2]:=id rfl
theorem Cz (v:Value):AV.one (.cv v)=true:=id rfl
theorem ub (v:Value):AV.cells (.cv v)=[.cv v]:=id rfl
theorem Cw (z n:Nat) (r:Nat->Nat->AV):AV.one (.fs z n r)=true:=id rfl
theorem t8 (z n:Nat) (r:Nat->Nat->AV):AV.cells (.fs z n r)=[.fs z n r]:=id rfl
theorem Cx (z:Nat) (r:Nat->AV) (j:Nat):AV.one (.fp z r j)=true:=id rfl
theorem t9 (z:Nat) (r:Nat->AV) (j:Nat):AV.cells (.fp z r j)=[.fp z r j]:=id rfl
theorem Cu (b n:Nat):AV.one (.os b n)=true:=id rfl
theorem t7 (b n:Nat):AV.cells (.os b n)=[.os b n]:=id rfl
theorem rE (l:List AV):AV.cells (.agg l)=l:=id rfl
def AB.fr (x:AB):AB:={x with fzn:=max x.size x.fzn}
theorem ul {H:AH} {b:Nat} (h:b<1000000) (b':Nat):(H.mark b).at b'=if b'=b then(H.at b).map AB.fr else H.at b':=um h b'
theorem tB (x:AB) (i:Nat):x.fr.get i=x.get i:=id rfl
theorem v7 (x:AB):x.fr.size=x.size:=id rfl
theorem CG (x:AB):x.fr.esz=x.esz:=id rfl
theorem MR (x:AB):x.fr.ty=x.ty:=id rfl
theorem CF (x:AB):x.fr.opn=x.opn:=id rfl
theorem v8 (x:AB):x.fr.live=x.live:=id rfl
theorem ip (x:AB):x.fr.fzn=max x.size x.fzn:=id rfl
def kl (esz ty:Nat) (l:List AV):AB:=⟨l.length,esz,ty,λ_=> .u,gW l,false,true,l.length⟩
theorem dV (esz ty:Nat) (l:List AV):(kl esz ty l).size=l.length:=id rfl
theorem s0 (esz ty:Nat) (l:List AV):(kl esz ty l).esz=esz:=id rfl
theorem vL (esz ty:Nat) (l:List AV):(kl esz ty l).ty=ty:=id rfl
theorem sZ (esz ty:Nat) (l:List AV):(kl esz ty l).opn=false:=id rfl
theorem qV (esz ty:Nat) (l:List AV):(kl esz ty l).live=true:=id rfl
theorem eI (esz ty:Nat) (l:List AV):(kl esz ty l).fzn=l.length:=id rfl
theorem cT (esz ty:Nat) (l:List AV) (i:Nat) (h:l.length<1000000):(kl esz ty l).get i=l[i]?.getD .u:=iX esz ty l i h
theorem eS.lstz {r:Nat->Option Nat} {M:List Nat} {H:AH} {b esz ty:Nat} {l:List AV} {x:AB} (hx:H.at b=some x) (h1:x.ty=ty) (h2:x.esz=esz) (h3:x.opn=false) (h4:x.size=l.length) (h5:x.fzn<=l.length) (hl:l.length<1000000) (hg:∀i,i<l.length->x.get i=l[i]?.getD .u) (hp:l.all (AV.pu 3)=true):eS r M H b (kl esz ty l):=by
 refine⟨x,hx,h1.symm,h2.symm,h3.symm,rfl,.inl h4.symm,by rw[h4];show _<=l.length;split<;>omega,λi hi=>?_⟩
 have hi':i<l.length:=hi
 rw[hg i hi',cT esz ty l i hl,List.getElem?_eq_getElem hi']
 exact .cv (.rfl (List.all_eq_true.1 hp _ (List.getElem_mem hi')))
theorem gY.get {M:List Nat} {H:AH}:∀{l l':List AV},gY M H l l'->l.length=l'.length/\∀(i:Nat) (v v':AV),l[i]? =some v->l'[i]? =some v'->Cv M H v v'
 |[],[],_=>⟨rfl,λi v v' h=>by simp at h⟩
 |[],_::_,h=>h.elim
 |_::_,[],h=>h.elim
 |x::l,x'::l',h=>by
  obtain⟨h1,h2⟩:=h
  obtain⟨e1,e2⟩:=h2.get
  refine⟨by simp[e1],λi v v' hv hv'=>?_⟩
  cases i with
  |zero=>simp at hv hv';subst hv;subst hv';exact h1
  |succ i=>exact e2 i v v' (by simpa using hv) (by simpa using hv')
theorem Cv.fn {M:List Nat} {H:AH} {g:FuncId} {l1 l2 l1' l2':List AV} (h1:gY M H l1 l1') (h2:gY M H l2 l2'):Cv M H (.f g l1 l2) (.f g l1' l2'):= .f h1.get.1 h2.get.1 h1.get.2 h2.get.2
theorem Cv.box {M:List Nat} {H:AH} {b:Nat} {x:AB} {l:List AV} (hm:M.contains b=true) (hx:H.at b=some x) (hs:x.size=l.length) (h0:0<l.length) (hg:∀j,j<l.length->x.get j=l[j]?.getD .u) (hc:l.all AV.cell=true):Cv M H (.p b 0) (.fp l.length (λj=>l[j]?.getD .u) 0):=
 .p (o:=0) (j:=0) (by simpa using hm) hx (by omega) (by omega) (λq hq=>by rw[Nat.zero_add];exact hg q hq) (λq hq=>by
  rw[List.getElem?_eq_getElem hq]
  exact List.all_eq_true.1 hc _ (List.getElem_mem hq))
theorem app_size (x:AB) (o:Nat) (s:dp):(x.app o s).size=o+s.len:=AB.app_size x o s
theorem wD (x:AB) (o:Nat) (s:dp):(x.app o s).esz=x.esz:=(AB.app_rest x o s).1
theorem CW (x:AB) (o:Nat) (s:dp):(x.app o s).ty=x.ty:=(AB.app_rest x o s).2.1
theorem wB (x:AB) (o:Nat) (s:dp):(x.app o s).opn=true:=(AB.app_rest x o s).2.2.1
theorem u5 (x:AB) (o:Nat) (s:dp):(x.app o s).live=true:=(AB.app_rest x o s).2.2.2.1
theorem wC (x:AB) (o:Nat) (s:dp):(x.app o s).fzn=x.fzn:=(AB.app_rest x o s).2.2.2.2
theorem jI (x:AB) (n esz:Nat) (l:List AV) (hl:l.length=esz) (hlim:(n+1)*esz<2^40) (i j:Nat) (hi:i<n+1) (hj:j<esz):(x.app (n*esz) (.li l)).get (i*esz+j)=if i<n then x.get (i*esz+j) else l[j]?.getD .u:=by
 have h1:=gr hi hj
 rw[Nat.add_mul] at hlim h1
 rw[AB.app_get _ _ _ _ (by simp only[dp.len,hl];omega) (by simp only[dp.len,hl];omega)]
 by_cases h:i<n
 ·have:=gr h hj
  rw[if_neg (by omega),if_pos h]
 ·have:i=n:=by omega
  subst this
  rw[if_pos (by omega),if_neg (by omega)]
  simp only[dp.at]
  congr 2
  omega
theorem dE {ty esz n z:Nat} {row row2:Nat->Nat->AV} {l:List AV} (hl:l.length=esz) (hlim:(n+1)*esz<2^40) (h1:∀i j,i<n->j<esz->row2 i j=row i j) (h2:∀j,j<esz->row2 n j=l[j]?.getD .u):
  ∀i j,i<n+1->j<esz->((ar ty esz n z row).app (n*esz) (.li l)).get (i*esz+j)=row2 i j:=by
 intro i j hi hj
 rw[jI _ n esz l hl hlim i j hi hj]
 by_cases h:i<n
 ·rw[if_pos h,aX i j hj,h1 i j h hj]
 ·have:i=n:=by omega
  subst this
  rw[if_neg h,h2 j hj]
theorem eS.rows {r:Nat->Option Nat} {M:List Nat} {H:AH} {b ty esz n z:Nat} {row:Nat->Nat->AV} {x:AB} (hx:H.at b=some x) (h1:x.ty=ty) (h2:x.esz=esz) (h3:x.opn=true) (h4:n*esz<=x.size) (h5:(if b ∈ M then max x.size x.fzn else x.fzn)<=z) (h0:0<esz)
  (hr:∀i j,i<n->j<esz->x.get (i*esz+j)=row i j) (hc:∀i j,i<n->j<esz->(row i j).pu 3=true):eS r M H b (ar ty esz n z row):=by
 refine⟨x,hx,h1.symm,h2.symm,h3.symm,rfl,.inr ⟨h3,h4⟩,h5,λi hi=>?_⟩
 have hi':i<n*esz:=hi
 have hq:i / esz<n:=Nat.div_lt_of_lt_mul (by rw[Nat.mul_comm];exact hi')
 have hm:i%esz<esz:=Nat.mod_lt _ h0
 have hdm:i / esz*esz+i%esz=i:=by
  have:=Nat.div_add_mod i esz
  rw[Nat.mul_comm] at this
  exact this
 have e1:(ar ty esz n z row).get i=row (i / esz) (i%esz):=rfl
 have e2:=hr _ _ hq hm
 rw[hdm] at e2
 rw[e1,e2]
 exact .cv (.rfl (hc _ _ hq hm))
theorem qL (v:AV):dP [v]=v:=id rfl
theorem qK (v v':AV) (l:List AV):dP (v::v'::l)= .tup (v::v'::l):=id rfl
theorem vD:∀(k:Nat) (v:AV),v.pu k=true->v.pu (k+1)=true:=by
 intro k
 induction k with
 |zero=>intro v h;cases v<;>simp_all [AV.pu]
 |succ k ih=>
  intro v h
  cases v with
  |f g l1 l2=>
   simp only[AV.pu,Bool.and_eq_true,List.all_eq_true] at h ⊢
   exact⟨λx hx=>ih x (h.1 x hx),λx hx=>ih x (h.2 x hx)⟩
  |agg l=>simp only[AV.pu,List.all_eq_true] at h ⊢;exact λx hx=>ih x (h x hx)
  |tup l=>simp only[AV.pu,List.all_eq_true] at h ⊢;exact λx hx=>ih x (h x hx)
  |_=>simp_all [AV.pu]
theorem ju.nil {H:AH}:ju [] [] H:=trivial
theorem ju.v {H:AH} {x v:AV} {rs:List RT} {l:List AV} (h:v=x) (hp:x.pu 3=true) (h':ju rs l H):ju (.v x::rs) (v::l) H:=⟨⟨h,hp⟩,h'⟩
theorem ju.o0 {H:AH} {ty esz z:Nat} {row:Nat->Nat->AV} {rs:List RT} {l:List AV} (ha:mM rs=true) (h':ju rs l H):ju (.o ty esz 0 z row::rs) (.sl0::l) H:=⟨.inl ⟨rfl,rfl⟩,ha,h'⟩
theorem ju.o {H:AH} {ty esz n z b:Nat} {x:AB} {row:Nat->Nat->AV} {rs:List RT} {l:List AV} (hx:H.at b=some x) (h1:x.ty=ty) (h2:x.esz=esz) (h3:x.opn=true) (h0:0<esz) (h4:n*esz<=x.size) (h5:x.fzn<=z)
  (hr:∀i j,i<n->j<esz->x.get (i*esz+j)=row i j) (hc:∀i j,i<n->j<esz->(row i j).cell=true) (ha:mM rs=true) (h':ju rs l H):ju (.o ty esz n z row::rs) (.os b n::l) H:=
 ⟨.inr ⟨b,rfl,by simp,x,hx,h1,h2,h0,h3,h4,h5,hr,hc⟩,ha,h'⟩
theorem ju.a {H:AH} {c:List fD} {vs:List AV} {rs:List RT} {l:List AV} (h0:c.length<=8) (h:qj H [] c vs) (ha:mM rs=true) (h':ju rs l H):ju (.a c::rs) (.agg vs::l) H:=⟨⟨h0,vs,rfl,h⟩,ha,h'⟩
theorem qj.nil {H:AH} {u:List Nat}:qj H u [] []:=trivial
theorem qj.v {H:AH} {u:List Nat} {x v:AV} {rs:List fD} {l:List AV} (h:v=x) (hp:x.pu 3=true) (h':qj H u rs l):qj H u (.v x::rs) (v::l):=⟨⟨h,hp⟩,h'⟩
theorem qj.o {H:AH} {u:List Nat} {ty esz n z b:Nat} {x:AB} {row:Nat->Nat->AV} {rs:List fD} {l:List AV} (hx:H.at b=some x) (hu:u.contains b=false) (h1:x.ty=ty) (h2:x.esz=esz) (h3:x.opn=true) (h0:0<esz) (h4:n*esz<=x.size) (h5:x.fzn<=z)
  (hr:∀i j,i<n->j<esz->x.get (i*esz+j)=row i j) (hc:∀i j,i<n->j<esz->(row i j).cell=true) (h':qj H (b::u) rs l):qj H u (.o ty esz n z row::rs) (.os b n::l):=
 ⟨.inr ⟨b,rfl,by simpa using hu,x,hx,h1,h2,h0,h3,h4,h5,hr,hc⟩,h'⟩
theorem f7 (x:AB) (o:Nat) (l:List AV) (i:Nat) (h:o+l.length<1000000000) (hi:i<o+l.length):(x.app o (.li l)).get i=if o<=i then l[i-o]?.getD .u else x.get i:=AB.app_get x o (.li l) i (by simp only[dp.len];omega) hi
theorem gY.nil {M:List Nat} {H:AH}:gY M H [] []:=trivial
theorem gY.cons {M:List Nat} {H:AH} {v v2:AV} {l l2:List AV} (h:Cv M H v v2) (h':gY M H l l2):gY M H (v::l) (v2::l2):=⟨h,h'⟩
theorem gY.same {M:List Nat} {H:AH}:∀{l:List AV},l.all (AV.pu 3)=true->gY M H l l
 |[],_=>trivial
 |v::l,h=>by
  simp only[List.all_cons,Bool.and_eq_true] at h
  exact⟨.rfl h.1,gY.same h.2⟩
theorem bR {l:List AV} (h:l.all (AV.pu 2)=true):l.all (AV.pu 3)=true:=by
 simp only[List.all_eq_true] at h ⊢
 exact λx hx=>vD 2 x (h x hx)
theorem ai {v x:AV} {H:AH} (h:v=x) (hp:x.pu 3=true):∃l1,v=dP l1/\ju [.v x] l1 H:=⟨[v],rfl,⟨h,hp⟩,trivial⟩
theorem bA {a b:AV} {l:List AV} {rs:List RT} {H:AH} (h:ju rs (a::b::l) H):∃l1,AV.tup (a::b::l)=dP l1/\ju rs l1 H:=⟨a::b::l,rfl,h⟩
def AV.sc:Nat->AV->Bool
 |_,.b _|_,.n _ _|_,.s _|_,.p0|_,.sl0|_,.f0|_,.cv _=>true
 |k+1,.agg l=>l.all (AV.sc k)
 |k+1,.tup l=>l.all (AV.sc k)
 |_,_=>false
theorem VR.sc {σ σ2:Sg}:∀(k:Nat) {v:AV} {x:Value},v.sc k=true->VR σ v x->VR σ2 v x
 |k,v,x,hp,h=>by
  cases h with
  |b x=>exact .b x
  |n k x=>exact .n k x
  |s x=>exact .s x
  |p0=>exact .p0
  |sl0 a=>exact .sl0 a
  |f0=>exact .f0
  |cv _ hv=>exact .cv _ hv
  |agg hl hh=>
   cases k with
   |zero=>simp[AV.sc] at hp
   |succ k=>
    simp only[AV.sc,List.all_eq_true] at hp
    exact .agg hl (λi v hv=>VR.sc k (hp v (List.mem_of_getElem? hv)) (hh i v hv))
  |tup hl hh=>
   cases k with
   |zero=>simp[AV.sc] at hp
   |succ k=>
    simp only[AV.sc,List.all_eq_true] at hp
    exact .tup hl (λi v hv=>VR.sc k (hp v (List.mem_of_getElem? hv)) (hh i v hv))
  |_=>cases k<;>simp[AV.sc] at hp
theorem Ml:∀(k:Nat) (v:AV),v.sc k=true->v.pu k=true:=by
 intro k
 induction k with
 |zero=>intro v h;cases v<;>simp_all [AV.sc,AV.pu]
 |succ k ih=>
  intro v h
  cases v with
  |agg l=>simp only[AV.pu,AV.sc,List.all_eq_true] at h ⊢;exact λx hx=>ih x (h x hx)
  |tup l=>simp only[AV.pu,AV.sc,List.all_eq_true] at h ⊢;exact λx hx=>ih x (h x hx)
  |_=>simp_all [AV.pu,AV.sc]
theorem HR.after_call {B:Nat} {σ:Sg} {H:AH} {w w':World} (h:HR B σ H w) (hb:Below w.heap.size w w'):HR B σ H w':=by
 refine⟨h.new,h.newl,h.old,h.small,Nat.le_trans h.hB hb.size,h.nil,h.nilp,λb x c o hx hs=>?_,h.szs,h.inj,λc fs hf=>?_⟩
 ·obtain⟨cs,e1,e2,e3⟩:=h.blk b x c o hx hs
  exact⟨cs,e1,by rw[hb.block c ((Array.getElem?_eq_some_iff.1 e2).1)];exact e2,e3⟩
 ·obtain⟨cs,t,fr,e1,e2,e3⟩:=h.frz c fs hf
  exact⟨cs,t,fr,by rw[hb.block c (h.fzlt hf)];exact e1,e2,e3⟩
theorem fu {P:Program} {g:FuncId} {args fargs:List AV} {H:AH} {rs:List RT} {Q:AV->AH->Prop} (M:List Nat) (hcv:gY M H args fargs) (h:a7 P g fargs rs) (hnx:H.next+9<2^40) (hsc:∀r ∈ rs,gR (λa=>a.sc 3=true) r)
  (hQ:Q (dP (eY H rs).1) (eY H rs).2):n7 P g args H Q:=by
 refine⟨h.1,λB σ w args' hH ha=>?_⟩
 obtain⟨σ2,q1,q2,q3,q4,q5,q6,q7⟩:=hH.marks M
 have hd:bU (Sg.data σ2.fz) fargs args'.toList:=hcv.ok hH q1 q2 q7 ha
 have hin:th σ2.fz w:=λc fs hf=>by
  obtain⟨cs,t,fr,e1,e2,_⟩:=q6.frz c fs hf
  exact⟨cs,t,fr,e1,e2⟩
 refine(h.2 σ2.fz w args' hin hd).mono λe w' hp=>?_
 cases e with
 |panicked c=>exact hp.elim
 |outgrown=>exact hp.elim
 |returned u=>
  obtain⟨v,Hc,σ',⟨l,rfl,hr⟩,hv,hHc,hbel,hfz⟩:=hp
  obtain⟨us,hus,hback⟩:=fg hv
  have hblt:∀b c o,σ b=some (c,o)->H.at b≠none->c<w.heap.size:=λb c o hs hne=>by
   cases hx:H.at b with
   |none=>exact absurd hx hne
   |some x=>
    obtain⟨cs,e1,e2,e3⟩:=hH.blk b x c o hx hs
    exact(Array.getElem?_eq_some_iff.1 e2).1
  obtain⟨σ3,p1,p2,p3,p4,p5,p6,p7,p8⟩:=oS (σa:=σ) (good:=λa=>a.sc 3=true) (λ{a u σn} _ hs _ hu=>hu.sc 3 hs) hHc (hH.after_call hbel) (λc fs hc hf=>by have:=hH.fzlt hf;omega) hH.hB hblt hnx rs l us hr hsc hus
  refine⟨_,_,σ3,hQ,hback (gB rs l _ hr) p2,p1,⟨λb hb=>p5 b hb,p3,p6,by rw[p7];exact Nat.le_refl _,?_,λc hc=> .inl (hbel.block c hc),λb c o hb hs hc=>?_⟩,λc hc=>by rw[p4]⟩
  ·exact⟨hbel.os,hbel.tape,hbel.output,hbel.size,λk hk=>hbel.block k (by have:=hH.hB;omega)⟩
  ·have:=p8 b c o hb hs
   omega
theorem ks {P:Program} (hm:P.follows .mixedOrders=true) {T:FuncId->Option AF} (hT:ve P T) {lf k:Nat} {f:FuncId} {args:List AV} {v:AV} {H':AH} (hr:jL T lf k f args ⟨.nil,0,2^40⟩=some (v,H')) (hv:v.sc 3=true):a7 P f args [.v v]:=by
 refine⟨(l8 0 hm hT lf k).fn hr,λφ w args' hφ ha=>?_⟩
 refine Calls.mono ((l8 w.heap.size hm hT lf k).run hr _ w args' (HR.empty w hφ) ha) (λe w' hp=>?_)
 cases e with
 |panicked c=>exact hp.elim
 |outgrown=>exact hp.elim
 |returned u=>
  obtain⟨σ',q1,q2,q3⟩:=hp
  have hw:th φ w':=λc fs hf=>by
   obtain⟨cs,t,fr,h1,h2⟩:=hφ c fs hf
   exact⟨cs,t,fr,by rw[q3.bel.block c (Array.getElem?_eq_some_iff.1 h1).1];exact h1,h2⟩
  refine⟨v,⟨.nil,0,2^40⟩,Sg.data φ,⟨[v],rfl,⟨rfl,Ml 3 v hv⟩,trivial⟩,q1.sc 3 hv,?_,q3.bel,λ_ _=>rfl⟩
  exact HR.emptyAt w' q3.bel.size hw
def AH.setLow (H:AH) (l:Nat):AH:={H with low:=l}
theorem rL (H:AH) (l b:Nat):(H.setLow l).at b=H.at b:=id rfl
theorem cE (H:AH) (l:Nat):(H.setLow l).next=H.next:=id rfl
theorem oK (H:AH) (l:Nat):(H.setLow l).low=l:=id rfl
theorem kQ (H:AH) (l l':Nat):(H.setLow l).setLow l'=H.setLow l':=id rfl
theorem s7 (H:AH) (b:Nat):(H.mark b).low=H.low:=AH.mark_low H b
theorem GA.mix1 {P:Program} {n:Nat} {hints:cK} {e:Tr AV} {H:AH} {Q:AE->Tr AV->AH->Prop} (hm:P.follows .mixedOrders=true) {l:List (Nat×AO)} (h:eZ P (H.setLow (2^40)) H.next true l e (H.setLow (2^40)) (λe' H'=>Q .normal e' (H'.setLow (min H.low H'.low)))):GA P n hints (.mix l) e H Q:=
 GA.mix hm H.next (by rw[Nat.sub_self];trivial) h
theorem GA.frkm {P:Program} {n:Nat} {hints:cK} {e:Tr AV} {H:AH} {Q:AE->Tr AV->AH->Prop} (hm:P.follows .mixedOrders=true) (m:Nat) {l:List (Nat×AO)} {T:AT} (htop:eG H m (H.next-m)) (h:eZ P (H.setLow (2^40)) m true l e (H.setLow (2^40)) (λe' H'=>eo P m T e' H' (λe' H'=>Q .normal e' (H'.setLow (min H.low H'.low))))):GA P n hints (.frk l T) e H Q:=
 GA.frk hm m htop h
theorem GA.cut {P:Program} {n:Nat} {hints:cK} {e:Tr AV} {H:AH} {Q:AE->Tr AV->AH->Prop} {x y:AC} (e2:Tr AV) (H2:AH) (h:GA P n hints x e H (jy (λe' H'=>Wk n e' H' e2 H2) (λ_ _ _=>False))) (h':GA P n hints y e2 H2 Q):GA P n hints (.seq x y) e H Q:=
 GA.seq (h.mono λa e' H' hq=>by
  cases a with
  |normal=>exact GA.wk hq h'
  |exit i=>exact hq.elim
  |ret=>exact hq.elim)
theorem eS.lst {r:Nat->Option Nat} {M:List Nat} {H:AH} {b esz ty:Nat} {l:List AV} (hx:H.at b=some (ax esz ty l)) (hM:M.contains b=false) (hl:l.length<1000000) (hp:l.all (AV.pu 3)=true):eS r M H b (ax esz ty l):=by
 refine⟨ax esz ty l,hx,rfl,rfl,rfl,rfl,.inl rfl,by rw[if_neg (by simpa using hM)];exact Nat.le_refl _,λi hi=>?_⟩
 have hi':i<l.length:=hi
 rw[iX esz ty l i hl,List.getElem?_eq_getElem hi']
 exact .cv (.rfl (List.all_eq_true.1 hp _ (List.getElem_mem hi')))
theorem eS.keep {r:Nat->Option Nat} {M:List Nat} {H:AH} {b ty esz n z:Nat} {row:Nat->Nat->AV} (hx:H.at b=some (ar ty esz n z row)) (hM:M.contains b=false) (h0:0<esz) (hc:∀i j,i<n->j<esz->(row i j).pu 3=true):eS r M H b (ar ty esz n z row):=
 eS.rows hx rfl rfl rfl (Nat.le_refl _) (by rw[if_neg (by simpa using hM)];exact Nat.le_refl _) h0 (λi j _ hj=>aX i j hj) hc
theorem aR.nil {r:Nat->Option Nat} {M:List Nat} {H:AH}:aR r M H [] []:=trivial
theorem aR.cons {r:Nat->Option Nat} {M:List Nat} {H:AH} {b:Nat} {ρ:List Nat} {x:AB} {bl:List AB} (h1:ρ.contains b=false) (h2:eS r M H b x) (h3:aR r M H ρ bl):aR r M H (b::ρ) (x::bl):=⟨by simpa using h1,h2,h3⟩
def nT (P:Program) (n:Nat) (hints:cK) (cc:AX) (x y:AC) (e:Tr AV) (H:AH) (Q:AE->Tr AV->AH->Prop):Prop:=match cc.ev e with
 |some (.b t)=>(t=true->GA P n hints x e H Q)/\(t=false->GA P n hints y e H Q)
 |_=>False
theorem GA.cond' {P:Program} {n:Nat} {hints:cK} {e:Tr AV} {H:AH} {Q:AE->Tr AV->AH->Prop} {cc:AX} {x y:AC} (h:nT P n hints cc x y e H Q):GA P n hints (.cond cc x y) e H Q:=by
 unfold nT at h
 split at h
 ·rename_i t ht
  exact GA.cond ht h.1 h.2
 ·exact h.elim
theorem Wv.n {r:Nat->Option Nat} {M:List Nat} {H:AH} {k:IntKind} {a b:Int} (h:a=b):Wv r M H (.n k a) (.n k b):=by subst h;exact .cv (.rfl rfl)
theorem Wv.same {r:Nat->Option Nat} {M:List Nat} {H:AH} {v:AV} (h:v.pu 3=true):Wv r M H v v:= .cv (.rfl h)
theorem ae {a b:Prop} (h1:a) (h2:b):a/\b:=⟨h1,h2⟩
theorem ah {P:Program} (hm:P.follows .mixedOrders=true) {f:FuncId} {hints:cK} {F:AF} (hF:bi P hints f=some F) {args:List AV} (hlen:args.length<=F.nt/\F.nt<100000) {Q:AV->AH->Prop}
  (h:GA P F.nt hints F.code (aI (aW 0 args)) (am []) (tL F.res Q)):px P f args Q:=
 vW hm hF hlen.1 (GA.wk (Wk.arg _ _ _ (by omega)) h)
theorem Mn (x:Bool):gf (pure (.bool x))=some (.b x):=id rfl
theorem Mm (k:IntKind) (x:Int):gf (pure (.int k x))=some (.n k x):=id rfl
theorem MM (a b:Int):(a==b)=decide (a=b):=by rw[Bool.eq_iff_iff];simp
theorem P9 (a b:Int):(a != b)= !decide (a=b):=by rw[bne,MM]
def goB:AC->Bool
 |.loop _=>false
 |.frk _ _=>false
 |_=>true
attribute [reducible] goB
def GS (P:Program) (n:Nat) (hints:cK) (ac:AC) (e:Tr AV) (H:AH) (Q:AE->Tr AV->AH->Prop):Prop:=match ac with
 |.skip=>Q .normal e H
 |.exit i=>Q (.exit i) e H
 |.ret=>Q .ret e H
 |.seq x y=>GA P n hints x e H (jy (λe' H'=>GA P n hints y e' H' Q) Q)
 |.cond c x y=>nT P n hints c x y e H Q
 |.block id x=>GA P n hints x e H (mF id Q)
 |.reg l=>i5 P l e H (λe' H'=>Q .normal e' H')
 |.mix l=>eZ P (H.setLow (2^40)) H.next true l e (H.setLow (2^40)) (λe' H'=>Q .normal e' (H'.setLow (min H.low H'.low)))
 |.loop _=>False
 |.frk _ _=>False
theorem GA.go {P:Program} {n:Nat} {hints:cK} {ac:AC} {e:Tr AV} {H:AH} {Q:AE->Tr AV->AH->Prop} (hm:P.follows .mixedOrders=true) (hg:goB ac=true) (h:GS P n hints ac e H Q):GA P n hints ac e H Q:=by
 cases ac with
 |skip=>exact GA.skip h
 |exit i=>exact GA.exit h
 |ret=>exact GA.ret h
 |seq x y=>exact GA.seq h
 |cond c x y=>exact GA.cond' h
 |block id x=>exact GA.block h
 |reg l=>exact GA.reg h
 |mix l=>exact GA.mix1 hm h
 |loop x=>cases hg
 |frk l T=>cases hg
section
variable {P:Program} {n:Nat} {hints:cK} {e:Tr AV} {H:AH} {Q:AE->Tr AV->AH->Prop}
theorem GS.skip:GS P n hints .skip e H Q=Q .normal e H:=id rfl
theorem GS.exit (i:Nat):GS P n hints (.exit i) e H Q=Q (.exit i) e H:=id rfl
theorem GS.ret:GS P n hints .ret e H Q=Q .ret e H:=id rfl
theorem GS.seq (x y:AC):GS P n hints (.seq x y) e H Q=GA P n hints x e H (jy (λe' H'=>GA P n hints y e' H' Q) Q):=id rfl
theorem GS.cond (c:AX) (x y:AC):GS P n hints (.cond c x y) e H Q=nT P n hints c x y e H Q:=id rfl
theorem GS.block (id:Nat) (x:AC):GS P n hints (.block id x) e H Q=GA P n hints x e H (mF id Q):=_root_.id rfl
theorem GS.reg (l:List AO):GS P n hints (.reg l) e H Q=i5 P l e H (λe' H'=>Q .normal e' H'):=id rfl
theorem GS.mix (l:List (Nat×AO)):GS P n hints (.mix l) e H Q=eZ P (H.setLow (2^40)) H.next true l e (H.setLow (2^40)) (λe' H'=>Q .normal e' (H'.setLow (min H.low H'.low))):=id rfl
end
/-! what every step uses-/
attribute [go_sem] GS.skip GS.exit GS.ret GS.seq GS.cond GS.block GS.reg GS.mix Mn Mm MM P9 jy mF sI tL nT tr rn tp rj tq rk tn ri beq_false beq_true MQ
 MP MO Ca tc tu ro td rf tM hJ nB AP.kind rl oW rm re eG gq
 AX.ev vp AP.run qk dc cr tK kD mz gH rE MH wt MF wm MD wj Ct t6 ME
 wl vI rD Cs t5 Cy ua MG wq Cz ub Cw t8 Cx t9 Cu t7
 List.cons_append List.nil_append List.append_nil Option.map_some Option.map_none List.all_cons List.all_nil List.length_cons List.length_nil
 Bool.and_true Bool.true_and Bool.and_self Cf Cg Ch Ci Cj Cd Ck Cb Ce Cc j7 oh kd
 qt tv qZ tH vt sN pD AH.load AH.loadN mH bG uj dk uo dx uq aO
 nu uk vP vN vO sS CT sx v6 s8 wc B7 vG if_true if_false ite_true ite_false true_and
 and_true forall_const false_implies implies_true Bool.true_eq_false Bool.false_eq_true Option.some.injEq AV.b.injEq exists_eq_left' exists_eq_left
 decide_eq_true_eq decide_eq_false_iff_not Bool.not_eq_true' Bool.not_eq_false' Option.isSome_some not_true_eq_false not_false_eq_true Int.not_lt
 Int.not_le pJ i4 vY vy List.getElem?_cons_zero List.getElem?_cons_succ Option.getD_some Int.toNat_natCast Nat.zero_add Nat.add_zero
 Nat.mul_one Nat.zero_le beq_iff_eq beq_eq_false_iff_ne ne_eq qB sH vz sE qC sG app_size wD CW wB
 u5 wC AH.append dp.len gV qL qK eY jP eP ul tB v7 CG MR CF v8 ip
 AH.mark_next AH.mark_low true_or or_true Bool.not_false Bool.not_true Bool.and_false Nat.le_refl Nat.min_self beq_self_eq_true jN maxLen
 Bool.and_eq_true rL cE oK kQ s7 pk pm false_and and_false kB List.isEmpty_cons
 List.isEmpty_nil List.take_zero List.take_succ_cons List.drop_zero List.drop_succ_cons List.take_nil List.drop_nil qO sR vJ
 sP qP sQ List.length_append qW s6 vM s4 qX s5 iX dV s0 vL sZ
 qV eI cT
/-! arguments that are found-/
theorem bB {P:Prop} (h:P:=by first|trivial|exact Wv.same rfl|exact Wv.p rfl|exact Wv.os rfl|exact Wv.sl rfl|exact Wv.n (by omega)|exact Wv.n (cG (by omega))|exact Wv.n (by rw[cG (by omega)];omega)):P:=h
theorem dX {P:Prop} (h:P:=by first|exact True.intro|exact Wv.same rfl|exact Wv.p rfl|exact Wv.os rfl|exact Wv.sl rfl|exact Wv.n (by omega)|exact Wv.n (cG (by omega))|exact Wv.n (by rw[cG (by omega)];omega)):P:=h
theorem eS.ls {r:Nat->Option Nat} {M:List Nat} {H:AH} {b esz ty:Nat} {l:List AV} (hx:H.at b=some (ax esz ty l):=by simp only[go_sem,simprocAttr]<;>rfl) (hM:M.contains b=false:=by rfl) (hl:l.length<1000000:=by simp) (hp:l.all (AV.pu 3)=true:=by rfl):eS r M H b (ax esz ty l):= .lst hx hM hl hp
theorem eS.k1 {r:Nat->Option Nat} {M:List Nat} {H:AH} {b ty esz n z:Nat} {row:Nat->Nat->AV} (hx:H.at b=some (ar ty esz n z row):=by simp only[go_sem,simprocAttr]) (hM:M.contains b=false:=by rfl) (h0:0<esz:=by decide) (hc:∀i j,i<n->j<esz->(row i j).pu 3=true:=by intro _ _ _ _;rfl):eS r M H b (ar ty esz n z row):= .keep hx hM h0 hc
theorem eS.k5 {r:Nat->Option Nat} {M:List Nat} {H:AH} {b ty n z:Nat} {row:Nat->Nat->AV} (hx:H.at b=some (ar ty 5 n z row):=by simp only[go_sem,simprocAttr]) (hM:M.contains b=false:=by rfl) (hc:∀i j,i<n->j<5->(row i j).pu 3=true:=by intro _ j _ hj;rcases(show j=0\/j=1\/j=2\/j=3\/j=4 by omega) with rfl|rfl|rfl|rfl|rfl<;>rfl):eS r M H b (ar ty 5 n z row):= .keep hx hM (by decide) hc
theorem HR.after {w w':World} {φ:Fz} (hφ:th φ w) (h:Below w.heap.size w w'):HR w.heap.size (Sg.data φ) ⟨.nil,0,2^40⟩ w':=by
 have e:=HR.empty w hφ
 exact⟨e.new,e.newl,e.old,e.small,h.size,e.nil,e.nilp,λb x c o hx hs=>(by cases hs),e.szs,λb b' x x' c o o' _ _ hs _=>(by cases hs),λc fs hf=>by
  obtain⟨cs,t,fr,h1,h2⟩:=hφ c fs hf
  have hc:c<w.heap.size:=(Array.getElem?_eq_some_iff.1 h1).1
  exact⟨cs,t,fr,by rw[h.block c hc];exact h1,h2,λb x o _ hs=>(by cases hs)⟩⟩
theorem B6 {σ:Sg} {k:IntKind} {x:Int} {v:Value} (h:VR σ (.n k x) v):v= .int k x:=by cases h;rfl
theorem CE {P:Program} {f:FuncId} (hf:wa P f) {k1 k2 k3 j1 j2:IntKind} {a b c x y:Int}
  (h:∀w,Calls P f #[.int k1 a,.int k2 b,.int k3 c] w λe w'=>e= .returned (.tuple #[.int j1 x,.int j2 y])/\Below w.heap.size w w'):
  a7 P f [.n k1 a,.n k2 b,.n k3 c] [.v (.n j1 x),.v (.n j2 y)]:=by
 refine⟨hf,λφ w args' hφ ha=>?_⟩
 have hargs:args'= #[.int k1 a,.int k2 b,.int k3 c]:=by
  apply Array.toList_inj.1
  have hn:args'.toList.length=3:=ha.1.symm
  match hl:args'.toList,hn with
  |[v1,v2,v3],_=>
   rw[hl] at ha
   have e1:=B6 (ha.2 0 _ rfl)
   have e2:=B6 (ha.2 1 _ rfl)
   have e3:=B6 (ha.2 2 _ rfl)
   simp only[List.getD_cons_zero,List.getD_cons_succ] at e1 e2 e3
   rw[e1,e2,e3]
 rw[hargs]
 refine(h w).mono λe w' hq=>?_
 obtain⟨rfl,hbel⟩:=hq
 exact⟨.tup [.n j1 x,.n j2 y],⟨.nil,0,2^40⟩,Sg.data φ,⟨[.n j1 x,.n j2 y],rfl,⟨rfl,rfl⟩,⟨rfl,rfl⟩,trivial⟩,bU.tup (cs:=[.int j1 x,.int j2 y]) (.cons (.n _ _) (.cons (.n _ _) .nil)),HR.after hφ hbel,hbel,λc _=>rfl⟩
def gv (md:Region.Mode) (ops:Array Oper) (fl pu:List Nat):List (Nat×Nat)->Array Bool->Bool
 |[],listed=>(Region.ready md ops listed).isEmpty
 |(0,j)::rest,listed=>decide (Region.ready md ops listed=[j])&&(rest.all (·.1 != 1)|| !l6 md ops fl j)&&gv md ops fl pu rest (listed.setIfInBounds j true)
 |(1,i)::rest,listed=>(Region.ready md ops listed).contains i&&Region.free md ops listed i&&fl.contains i&&gv md ops fl pu rest (listed.setIfInBounds i true)
 |(_+2,i)::rest,listed=>(Region.ready md ops listed).contains i&&Region.free md ops listed i&&pu.contains i&&gv md ops fl pu rest (listed.setIfInBounds i true)
theorem gN (md:Region.Mode) (ops:Array Oper) (fl pu:List Nat):∀(l:List (Nat×Nat)) (listed:Array Bool),gv md ops fl pu l listed=ff md ops fl pu l listed
 |[],_=>rfl
 |(0,j)::rest,listed=>by
  unfold gv ff
  rw[gN md ops fl pu rest,Bool.or_comm]
 |(1,j)::rest,listed=>by
  unfold gv ff
  rw[gN md ops fl pu rest]
 |(_+2,j)::rest,listed=>by
  unfold gv ff
  rw[gN md ops fl pu rest]
def pQ (md:Region.Mode) (ops:Array Oper) (fl pu:List Nat) (l:List (Nat×Nat)):Bool:=
 Region.noSelect ops&&decide (l.length=ops.size)&&l.all (λi=>decide (i.2<ops.size))&&gv md ops fl pu l (Array.replicate ops.size false)
theorem sY (md:Region.Mode) (ops:Array Oper) (fl pu:List Nat) (l:List (Nat×Nat)):pQ md ops fl pu l=nq md ops fl pu l:=by
 unfold pQ nq
 rw[gN]
def fC (P:Program) (n:Nat) (hints:cK):Code->Option AC
 |.skip=>some .skip
 |.region id ops dr=>if dr=true then match hints id with
   |some (fl,pu,pl,none)=>if pQ .any ops fl pu (pl.map ey)=true then(dy P n ops fl pl).map .mix else none
   |some (fl,pu,pl,some T)=>if nL .any ops fl pu pl T=true/\pl.all (λp=>p.1==1||p.1==2)=true then(dy P n ops fl pl).bind λl=>(nZ P n ops T).map λt=> .frk l t else none
   |none=>none
  else(hP P n ops ops.toList).map .reg
 |.seq a b=>(fC P n hints a).bind λx=>(fC P n hints b).map λy=> .seq x y
 |.cond c a b=>(bh c).bind λc=>(fC P n hints a).bind λx=>(fC P n hints b).map λy=> .cond c x y
 |.block id b=>(fC P n hints b).map (.block id ·)
 |.loop b=>(fC P n hints b).map .loop
 |.exit id=>some (.exit id)
 |.ret=>some .ret
 |_=>none
theorem vd (P:Program) (n:Nat) (hints:cK) (c:Code):fC P n hints c=cB P n hints c:=by
 induction c with
 |region id ops dr=>
  unfold fC cB
  simp only[sY]
  congr 1
 |seq a b iha ihb=>unfold fC cB;rw[iha,ihb]
 |cond c a b iha ihb=>unfold fC cB;rw[iha,ihb]
 |block id b ih=>unfold fC cB;rw[ih]
 |loop b ih=>unfold fC cB;rw[ih]
 |_=>rfl
def w7 (P:Program) (hints:cK) (f:FuncId):Option AF:=(P.funcs[f]?).bind λfn=>fn.body.bind λc=>(fC P fn.ntmps hints c).bind λac=>(iI P fn.results.toList).bind λr=>
 if(fn.name== "runtime.NumGoroutine")=false/\fn.ntmps<2^40 then some ⟨fn.ntmps,ac,r⟩ else none
theorem u9 (P:Program) (hints:cK) (f:FuncId):w7 P hints f=bi P hints f:=by
 unfold w7 bi
 simp only[vd]
def rK (P:Program) (ops:Array Oper):List Nat×List Nat×List (Nat×Nat):=
 let pl:=kI P ops ops.size (Array.replicate ops.size false) []
 ((pl.filter (·.1==1)).map (·.2),(pl.filter (·.1==2)).map (·.2),pl)
def u7 (P:Program) (ops:Array Oper):List Nat×List Nat×List (Nat×Nat)×Option PT:=
 let(fl,pu,pl):=rK P ops
 if pQ .any ops fl pu (pl.map ey) then(fl,pu,pl,none) else nK P ops
def tj (P:Program) (f:FuncId):cK:=λid=>match(P.funcs[f]?).bind (·.body) with
 |some c=>((dw c).find? (·.1==id)).map λx=>u7 P x.2
 |none=>none
def cR (a:AK) (e:Tr AV) (H:AH):Option (AV×AH):=match a with
 |.ap x=>x.run e H
 |_=>none
theorem aJ (x:AP) (e:Tr AV) (H:AH):cR (.ap x) e H=x.run e H:=id rfl
def MU (H0:AH) (m:Nat) (e0:Tr AV):AK->Prop
 |.ap (.ld _ _ x)=>match x.ev e0 with
  |some (.p b _)=>b<m/\(H0.at b).isSome=true
  |some (.fp _ _ _)=>True
  |_=>False
 |_=>False
theorem bu (H0:AH) (m:Nat) (e0:Tr AV) (n:Nat) (row:Bool) (x:AX):MU H0 m e0 (.ap (.ld n row x))=match x.ev e0 with
  |some (.p b _)=>b<m/\(H0.at b).isSome=true
  |some (.fp _ _ _)=>True
  |_=>False:=id rfl
def cg (P:Program) (H0:AH) (m:Nat):List (Nat×AO)->Tr AV->Tr AV->AH->(Tr AV->AH->Prop)->Prop
 |[],_,e,H,Q=>Q e H
 |(k,o)::l,e0,e,H,Q=>match dc e o.gd with
  |some true=>
   if k=1 then MU H0 m e0 o.k/\(match cR o.k e0 H0 with
     |some (v,_)=>cg P H0 m l (bc e0 o.dst v) (bc e o.dst v) H Q
     |none=>False)
   else if k=2 then hJ o.k=true/\(match cR o.k e0 H0 with
     |some (.u,_)|none=>(match cR o.k e H with
      |some (v,_)=>cg P H0 m l (bc e0 o.dst .u) (bc e o.dst v) H Q
      |none=>False)
     |some (v,_)=>cg P H0 m l (bc e0 o.dst v) (bc e o.dst v) H Q)
   else gK P e H o.k (λv H'=>m<=H'.low/\cg P H0 m l (bc e0 o.dst .u) (bc e o.dst v) H' Q)
  |some false=>m<=H.low/\cg P H0 m l (bc e0 o.dst (.tup [])) (bc e o.dst (.tup [])) H Q
  |none=>False
def Nf (P:Program) (H0:AH) (m:Nat) (l:List (Nat×AO)) (d:Option Nat) (e0 e:Tr AV) (H:AH) (Q:Tr AV->AH->Prop):Option (AV×AH)->Prop
 |some (v,_)=>cg P H0 m l (bc e0 d v) (bc e d v) H Q
 |none=>False
def wU (P:Program) (H0:AH) (m:Nat) (l:List (Nat×AO)) (d:Option Nat) (e0 e:Tr AV) (H:AH) (Q:Tr AV->AH->Prop):Option (AV×AH)->Prop
 |some (v,_)=>cg P H0 m l (bc e0 d .u) (bc e d v) H Q
 |none=>False
def oe (P:Program) (H0:AH) (m:Nat) (l:List (Nat×AO)) (d:Option Nat) (a:AK) (e0 e:Tr AV) (H:AH) (Q:Tr AV->AH->Prop):Option (AV×AH)->Prop
 |some (.u,_)|none=>wU P H0 m l d e0 e H Q (cR a e H)
 |some (v,_)=>cg P H0 m l (bc e0 d v) (bc e d v) H Q
def te (P:Program) (H0:AH) (m:Nat) (l:List (Nat×AO)) (d:Option Nat) (e0 e:Tr AV) (Q:Tr AV->AH->Prop) (v:AV) (H:AH):Prop:=m<=H.low/\cg P H0 m l (bc e0 d .u) (bc e d v) H Q
def Ng (P:Program) (H0:AH) (m:Nat) (k:Nat) (d:Option Nat) (a:AK) (l:List (Nat×AO)) (e0 e:Tr AV) (H:AH) (Q:Tr AV->AH->Prop):Option Bool->Prop
 |some true=>if k=1 then MU H0 m e0 a/\Nf P H0 m l d e0 e H Q (cR a e0 H0) else if k=2 then hJ a=true/\oe P H0 m l d a e0 e H Q (cR a e0 H0) else gK P e H a (te P H0 m l d e0 e Q)
 |some false=>m<=H.low/\cg P H0 m l (bc e0 d (.tup [])) (bc e d (.tup [])) H Q
 |none=>False
section
variable (P:Program) (H0:AH) (m:Nat) (l:List (Nat×AO)) (d:Option Nat) (a:AK) (e0 e:Tr AV) (H H1:AH) (Q:Tr AV->AH->Prop)
theorem aw:cg P H0 m [] e0 e H Q=Q e H:=id rfl
theorem bD (k:Nat) (g:Option (Nat×Bool)):cg P H0 m ((k,⟨d,g,a⟩)::l) e0 e H Q=Ng P H0 m k d a l e0 e H Q (dc e g):=by
 rw[cg]
 simp only
 cases dc e g with
 |none=>rfl
 |some t=>
  cases t
  ·rfl
  ·simp only[Ng]
   have hl:(match cR a e0 H0 with
     |some (v,_)=>cg P H0 m l (bc e0 d v) (bc e d v) H Q
     |none=>False)=Nf P H0 m l d e0 e H Q (cR a e0 H0):=by
    cases cR a e0 H0<;>rfl
   have hp:(match cR a e0 H0 with
     |some (.u,_)|none=>(match cR a e H with
      |some (v,_)=>cg P H0 m l (bc e0 d .u) (bc e d v) H Q
      |none=>False)
     |some (v,_)=>cg P H0 m l (bc e0 d v) (bc e d v) H Q)=oe P H0 m l d a e0 e H Q (cR a e0 H0):=by
    cases cR a e0 H0 with
    |none=>first|rfl|(simp only[oe,wU];done)|(simp only[oe,wU];cases cR a e H<;>rfl)
    |some r=>
     obtain⟨v,H1⟩:=r
     cases v<;>first|rfl|(simp only[oe,wU];done)|(simp only[oe,wU];cases cR a e H<;>rfl)
   first
    |(rw[<-hl,<-hp];rfl)
    |(simp only[<-hl,<-hp])
theorem aH (k:Nat):Ng P H0 m k d a l e0 e H Q (some true)=if k=1 then MU H0 m e0 a/\Nf P H0 m l d e0 e H Q (cR a e0 H0) else if k=2 then hJ a=true/\oe P H0 m l d a e0 e H Q (cR a e0 H0) else gK P e H a (te P H0 m l d e0 e Q):=id rfl
theorem av (k:Nat):Ng P H0 m k d a l e0 e H Q (some false)=(m<=H.low/\cg P H0 m l (bc e0 d (.tup [])) (bc e d (.tup [])) H Q):=id rfl
theorem au (v:AV):te P H0 m l d e0 e Q v H=(m<=H.low/\cg P H0 m l (bc e0 d .u) (bc e d v) H Q):=id rfl
theorem aG (v:AV):Nf P H0 m l d e0 e H Q (some (v,H1))=cg P H0 m l (bc e0 d v) (bc e d v) H Q:=id rfl
theorem aF (v:AV):wU P H0 m l d e0 e H Q (some (v,H1))=cg P H0 m l (bc e0 d .u) (bc e d v) H Q:=id rfl
theorem aE:oe P H0 m l d a e0 e H Q none=wU P H0 m l d e0 e H Q (cR a e H):=id rfl
theorem bL:oe P H0 m l d a e0 e H Q (some (.u,H1))=wU P H0 m l d e0 e H Q (cR a e H):=id rfl
theorem bN (k:IntKind) (x:Int):oe P H0 m l d a e0 e H Q (some (.n k x,H1))=cg P H0 m l (bc e0 d (.n k x)) (bc e d (.n k x)) H Q:=id rfl
theorem bO (x:Bool):oe P H0 m l d a e0 e H Q (some (.b x,H1))=cg P H0 m l (bc e0 d (.b x)) (bc e d (.b x)) H Q:=id rfl
theorem bM (b o:Nat):oe P H0 m l d a e0 e H Q (some (.p b o,H1))=cg P H0 m l (bc e0 d (.p b o)) (bc e d (.p b o)) H Q:=id rfl
theorem bt (z:Nat) (r:Nat->AV) (j:Nat):oe P H0 m l d a e0 e H Q (some (.fp z r j,H1))=cg P H0 m l (bc e0 d (.fp z r j)) (bc e d (.fp z r j)) H Q:=id rfl
theorem br (z n:Nat) (r:Nat->Nat->AV):oe P H0 m l d a e0 e H Q (some (.fs z n r,H1))=cg P H0 m l (bc e0 d (.fs z n r)) (bc e d (.fs z n r)) H Q:=id rfl
theorem aY (x:List AV):oe P H0 m l d a e0 e H Q (some (.tup x,H1))=cg P H0 m l (bc e0 d (.tup x)) (bc e d (.tup x)) H Q:=id rfl
theorem aZ (x:List AV):oe P H0 m l d a e0 e H Q (some (.agg x,H1))=cg P H0 m l (bc e0 d (.agg x)) (bc e d (.agg x)) H Q:=id rfl
end
section
variable {P:Program} {B n m:Nat} {σ0:Sg} {H0:AH} {w0:World} {ops:Array Oper} {fl:List Nat} {Q:Exit->Act->World->Prop}
theorem fq (h0:HR B σ0 H0 w0) (htop:eG H0 m (H0.next-m)) (hp:∀c a w,¬Q (.panic c) a w):∀(pl:List (Nat×Nat)) (l':List (Nat×AO)) {σ:Sg} {e0 e:Tr AV} {H:AH} {a:Act} {w:World} {Q':Tr AV->AH->Prop},dy P n ops fl pl=some l'->pl.all (·.1 != 3)=true->cg P H0 m l' e0 e H Q'->EN n σ0 e0 a->EN n σ e a->HR B σ H w->
  Fr B σ0 σ H0 H w0 w->db m σ0 H0 w0 w->j3 B σ0 σ->
  (∀e' H' a' w' σ',Q' e' H'->EN n σ' e' a'->HR B σ' H' w'->Fr B σ0 σ' H0 H' w0 w'->j3 B σ0 σ'->Q .normal a' w')->aN P .any ops Q (db m σ0 H0 w0) fl (ao ops (pl.map ey)) a w
 |[],l',σ,e0,e,H,a,w,Q',hl,h3',hr,hE0,hE,h,hF,hG,hzb,hQ=>by
  simp only[dy,Option.some.injEq] at hl
  subst hl
  show aN P .any ops Q (db m σ0 H0 w0) fl [] a w
  exact hZ (hQ e H a w σ hr hE h hF hzb)
 |(k,j)::pl,l',σ,e0,e,H,a,w,Q',hl,h3',hr,hE0,hE,h,hF,hG,hzb,hQ=>by
  simp only[List.all_cons,Bool.and_eq_true] at h3'
  obtain⟨hk30,h3'⟩:=h3'
  simp only[dy] at hl
  split at hl
  rotate_left
  ·cases hl
  rename_i o ho
  obtain⟨x,hx,hl⟩:=Option.bind_eq_some_iff.1 hl
  split at hl
  rotate_left
  ·cases hl
  rename_i hk3
  obtain⟨hk3,_⟩:=hk3
  have hk2':k<=2:=by
   have:k≠3:=by simpa using hk30
   omega
  obtain⟨r,hl2,rfl⟩:=Option.map_eq_some_iff.1 hl
  unfold mJ at hx
  split at hx
  rotate_left
  ·cases hx
  rename_i hd
  obtain⟨g,hg,hx⟩:=Option.bind_eq_some_iff.1 hx
  obtain⟨ak,hk,rfl⟩:=Option.map_eq_some_iff.1 hx
  have hunk:ey (k,j)=(k,j):=by
   have:k=0\/k=1\/k=2:=by omega
   rcases this with rfl|rfl|rfl<;>rfl
  have hgp:ao ops (((k,j)::pl).map ey)=(k,j,o)::ao ops (pl.map ey):=by
   rw[List.map_cons,hunk]
   simp[ao,ho]
  rw[hgp]
  rw[cg] at hr
  simp only at hr
  split at hr
  ·
   rename_i hw
   have hwant:=dD hE.er hg hw
   split at hr
   ·rename_i hk1
    subst hk1
    obtain⟨hearly,hr⟩:=hr
    cases ak with
    |cl f args=>exact hearly.elim
    |sn neg x=>exact hearly.elim
    |ap ap0=>
     cases ap0<;>try exact hearly.elim
     rename_i nn row xx
     simp only[cR] at hr
     split at hr
     rotate_left
     ·exact hr.elim
     rename_i v H1 hrun
     obtain⟨q1,_,_,_,c,u,q2,q34,q5,q6⟩:=pq (kK hk) rfl hE0.er h0 hrun
     cases q2
     have htop':=eG.get _ _ htop
     have hclt:c<w0.heap.size/\∀b o,m<=b->b<H0.next->σ0 b≠some (c,o):=by
      rcases q34 with⟨b,off,oc,q3,q4⟩|⟨_,_,_,fs,q3,q4,q40⟩
      ·simp only[MU,q3] at hearly
       obtain⟨hbm,hearly⟩:=hearly
       obtain⟨xb,hxb⟩:=Option.isSome_iff_exists.1 hearly
       obtain⟨cs0,p2,p3,p4⟩:=h0.blk b xb c oc hxb q4
       refine⟨(Array.getElem?_eq_some_iff.1 p3).1,λb' o' h1 h2 h3=>?_⟩
       obtain⟨x',hx',_⟩:=htop' b' h1 (by omega)
       have:=h0.inj b b' xb x' c oc o' hxb hx' q4 h3
       omega
      ·refine⟨h0.fzlt q4,λb' o' h1 h2 h3=>?_⟩
       obtain⟨x',hx',hx0⟩:=htop' b' h1 (by omega)
       obtain⟨cs',t',fr',_,_,m3⟩:=h0.frz c fs q4
       have:=m3 b' x' o' hx' h3
       omega
     have hcell:∀{w':World},db m σ0 H0 w0 w'->∀i,w'.cell? ⟨c,i,none⟩=w0.cell? ⟨c,i,none⟩:=λhw' i=>by
      have:=hw' c hclt.1 hclt.2
      simp only[World.cell?,this]
     unfold aN
     rw[if_pos hwant]
     refine⟨u,λw' hw'=>q6 w' (λi=>hcell hw' i),?_⟩
     exact fq h0 htop hp pl r hl2 h3' hr (hE0.put q5 hd) (hE.put (q5.mono hF.ext) hd) h hF hG hzb hQ
   ·split at hr
    ·
     rename_i hk1 hk2
     subst hk2
     obtain⟨hpure,hr⟩:=hr
     cases ak with
     |cl f args=>cases hpure
     |sn neg x=>cases hpure
     |ap xx=>
      have hkind:xx.kind=2:=by simpa [hJ] using hpure
      have now:(match cR (.ap xx) e H with
       |some (v,_)=>cg P H0 m r (bc e0 o.dst .u) (bc e o.dst v) H Q'
       |none=>False)->aN P .any ops Q (db m σ0 H0 w0) fl ((2,j,o)::ao ops (pl.map ey)) a w:=by
       intro hr
       simp only[cR] at hr
       split at hr
       rotate_left
       ·exact hr.elim
       rename_i v H1 hrun
       obtain⟨q1,u,q2,q3⟩:=mI (kK hk) hkind hE.er h hrun
       subst q1
       unfold aN
       rw[if_pos hwant]
       exact⟨u,q3,fq h0 htop hp pl r hl2 h3' hr (hE0.put (.u u) hd) (hE.put q2 hd) h hF hG hzb hQ⟩
      split at hr
      ·exact now hr
      ·exact now hr
      ·rename_i v H1 hne hrun
       simp only[cR] at hrun
       obtain⟨q1,u,q2,q3⟩:=mI (kK hk) hkind hE0.er h0 hrun
       unfold aN
       rw[if_pos hwant]
       exact⟨u,q3,fq h0 htop hp pl r hl2 h3' hr (hE0.put q2 hd) (hE.put (q2.mono hF.ext) hd) h hF hG hzb hQ⟩
    ·rename_i hk1 hk2
     have hk0:k=0:=by omega
     subst hk0
     refine gi (dT hwant ?_)
     refine nH hk hE.er h hr λv H1 u w1 σ1 q0 q1 q2 q3 q5 q4=>?_
     have hF1:=hF.trans q3 h
     have hg1:=db.of_fr hF1 q0.1
     exact⟨hg1,fq h0 htop hp pl r hl2 h3' q0.2 (hE0.put (.u u) hd) ((hE.mono q3.ext).put q1 hd) q2 hF1 hg1 (hzb.trans q5) hQ⟩
  ·rename_i hw
   obtain⟨hlow,hr⟩:=hr
   have hwant:=dD hE.er hg hw
   have hput:=hE.put (u:=undef) (v:= .tup []) (.tup rfl (λi v h=>by simp at h)) hd
   have hput0:=hE0.put (u:=undef) (v:= .tup []) (.tup rfl (λi v h=>by simp at h)) hd
   have next:=fq h0 htop hp pl r hl2 h3' hr hput0 hput h hF hG hzb hQ
   have:k=0\/k=1\/k=2:=by omega
   rcases this with rfl|rfl|rfl
   ·have hskip:∀R:Exit->Act->World->Prop,R .normal (a.put o.dst undef) w->wpList P ops R [o] a w:=λR hR=>by
     unfold wpList
     rw[hwant,if_neg (by simp)]
     exact hR
    unfold aN
    split
    ·exact hskip _ next
    ·exact hskip _ ⟨db.of_fr hF hlow,next⟩
   ·unfold aN
    rw[hwant,if_neg (by simp)]
    exact next
   ·unfold aN
    rw[hwant,if_neg (by simp)]
    exact next
  ·exact hr.elim
end
section
variable {P:Program} {n:Nat} {hints:cK} {e:Tr AV} {H:AH} {Q:AE->Tr AV->AH->Prop}
theorem jB {P:Program} {n:Nat} {ops:Array Oper} {fl:List Nat}:∀{pl:List (Nat×Nat)} {l:List (Nat×AO)},dy P n ops fl pl=some l->pl.all (·.1 != 3)=l.all (·.1 != 3)
 |[],l,h=>by simp only[dy,Option.some.injEq] at h;subst h;rfl
 |(k,j)::pl,l,h=>by
  simp only[dy] at h
  split at h
  rotate_left
  ·cases h
  obtain⟨x,hx,h⟩:=Option.bind_eq_some_iff.1 h
  split at h
  rotate_left
  ·cases h
  obtain⟨r,h2,rfl⟩:=Option.map_eq_some_iff.1 h
  simp only[List.all_cons,jB h2]
theorem GA.mixv (hm:P.follows .mixedOrders=true) {l:List (Nat×AO)} (hk:l.all (·.1 != 3)=true) (h:cg P (H.setLow (2^40)) H.next l e e (H.setLow (2^40)) (λe' H'=>Q .normal e' (H'.setLow (min H.low H'.low)))):GA P n hints (.mix l) e H Q:=λc hc B σ a w R hE hH hp hR=>by
 obtain⟨id,ops,fl,pu,pl,rfl,hB,hl⟩:=cU hc
 have hops:ops=ops.toList.toArray:=by simp
 rw[hops]
 rw[hops] at hB
 have hd:HR B σ (H.setLow (2^40)) w.drew:=⟨hH.new,hH.newl,hH.old,hH.small,hH.hB,hH.nil,hH.nilp,hH.blk,hH.szs,hH.inj,hH.frz⟩
 refine eT (db H.next σ (H.setLow (2^40)) w.drew) fl pu (pl.map ey) hm hB (λc a d v w hq=>(hp _ _ _ hq).elim) (db.refl _ _ _ _) ?_
 rw[<-hops]
 refine fq hd (by rw[show(H.setLow (2^40)).next=H.next from rfl,Nat.sub_self];exact True.intro) hp pl l hl (by rw[jB hl];exact hk) h hE hE hd (Fr.refl hd) (db.refl _ _ _ _) (.refl _ _) (λe' H' a' w' σ' q q1 q2 q3 q4=>?_)
 exact hR .normal e' _ a' w' σ' q q1 (q2.relow _) ((Below.refl _ _).drew.trans q3.bel) q4
end
theorem HR.recell {B:Nat} {σ:Sg} {H:AH} {w:World} {b:Nat} {x x':AB} (h:HR B σ H w) (hx:H.at b=some x) (hb:b<1000000) (hsz:x'.size=x.size) (hty:x'.ty=x.ty) (hesz:x'.esz=x.esz) (hop:x'.opn=x.opn) (hlv:x'.live=true) (hfz:x'.fzn=x.fzn)
  (hc:∀i u,i<x.size->VR σ (x.get i) u->VR σ (x'.get i) u):HR B σ (H.upd b x') w:=by
 have look:∀b2 y,(H.upd b x').at b2=some y->(b2=b/\y=x')\/(b2≠b/\H.at b2=some y):=by
  intro b2 y hy
  rw[uj hb] at hy
  by_cases e:b2=b
  ·rw[if_pos e,if_pos hlv] at hy;cases hy;exact .inl ⟨e,rfl⟩
  ·rw[if_neg e] at hy;exact .inr ⟨e,hy⟩
 refine⟨h.new,h.newl,λb2 hb2=>?_,h.small,h.hB,λb2 y hy hn=>?_,h.nilp,λb2 y c o hy hs=>?_,λb2 y hy=>?_,λb2 b3 y y' c o o' k1 k2 k3 k4=>?_,λc fs hf=>?_⟩
 ·cases hy:(H.upd b x').at b2 with
  |none=>rfl
  |some y=>
   rcases look b2 y hy with⟨rfl,_⟩|⟨_,h1⟩
   ·have:=h.old b2 hb2;rw[hx] at this;cases this
   ·have:=h.old b2 hb2;rw[h1] at this;cases this
 ·rcases look b2 y hy with⟨rfl,rfl⟩|⟨_,h1⟩
  ·have:=h.nil b2 x hx hn
   exact⟨by rw[hsz];exact this.1,by rw[hop];exact this.2.1,this.2.2⟩
  ·exact h.nil b2 y h1 hn
 ·rcases look b2 y hy with⟨rfl,rfl⟩|⟨_,h1⟩
  ·obtain⟨cs,g1,g2,g3⟩:=h.blk b2 x c o hx hs
   exact⟨cs,g1,by rw[hty];exact g2,by rw[hsz];exact g3.sz,λe=>by rw[hsz];exact g3.ex e,λk hk=>by rw[hesz];exact g3.op k hk,by rw[hop];exact g3.ob,λi hi=>hc i _ (by rw[<-hsz];exact hi) (g3.cell i (by rw[<-hsz];exact hi))⟩
  ·exact h.blk b2 y c o h1 hs
 ·rcases look b2 y hy with⟨rfl,rfl⟩|⟨_,h1⟩
  ·rw[hsz];exact h.szs b2 x hx
  ·exact h.szs b2 y h1
 ·have f:∀b2 y,(H.upd b x').at b2=some y->∃z,H.at b2=some z:=λb2 y hy=>by
   rcases look b2 y hy with⟨rfl,rfl⟩|⟨_,h1⟩
   ·exact⟨x,hx⟩
   ·exact⟨y,h1⟩
  obtain⟨z1,hz1⟩:=f b2 y k1
  obtain⟨z2,hz2⟩:=f b3 y' k2
  exact h.inj b2 b3 z1 z2 c o o' hz1 hz2 k3 k4
 ·obtain⟨cs,t,fr,g1,g2,g3⟩:=h.frz c fs hf
  refine⟨cs,t,fr,g1,g2,λb2 y o hy hs=>?_⟩
  rcases look b2 y hy with⟨rfl,rfl⟩|⟨_,h1⟩
  ·rw[hfz];exact g3 b2 x o hx hs
  ·exact g3 b2 y o h1 hs
theorem Wk.nilb {n:Nat} {e:Tr AV} {H:AH} (b i esz ty:Nat) {x:AB} (hx:H.at b=some x) (hg:x.get i= .sl0) (hi:i<1000000) (hb:b<1000000) (hbn:b<H.next) (hlv:x.live=true) (hn:H.next<1000000):
  Wk n e H e ((H.new (jM esz ty)).upd b (x.set i (.os H.next 0))):=by
 intro B σ a w hE hH
 have hle:=σ.le_extNil H.next
 have h1:=hH.placeNil (x:=jM esz ty) (H1:=H) rfl (λ_ _ h=>h) (by omega) rfl rfl rfl
 refine⟨σ.extNil H.next,⟨⟨hE.er.df,λt' v hv=>(hE.er.get t' v hv).mono hle⟩,hE.sz,hE.sm⟩,?_,λ_ _=>rfl⟩
 have hx1:(H.new (jM esz ty)).at b=some x:=by rw[mH hn,if_neg (by omega)];exact hx
 refine h1.recell hx1 hb rfl rfl rfl rfl hlv rfl (λj u hj hu=>?_)
 rw[pJ hi]
 by_cases e:j=i
 ·rw[if_pos e]
  rw[e,hg] at hu
  cases hu
  exact .os0 (σ:=σ.extNil H.next) (Or.inl rfl) _
 ·rw[if_neg e];exact hu
end Go.Proofs.YtidhfimbnjaceaaGreat