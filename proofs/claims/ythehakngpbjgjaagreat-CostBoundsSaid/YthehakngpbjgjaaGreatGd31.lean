/- A part of the proof of CostBounds: CbG CbH CbI CbJ CbK. No condition. -/
import Derived.Test.YthehakngpbjgjaaGreatGd19
import Derived.Test.YthehakngpbjgjaaGreatGd30
import Derived.Test.YthehakngpbjgjaaGreatGd24
set_option linter.unusedSimpArgs false
set_option linter.unusedVariables false
set_option linter.constructorNameAsVariable false
set_option maxRecDepth 100000
set_option maxHeartbeats 4000000
namespace Go.Proofs.YthehakngpbjgjaaGreat
open Go.RowKit
def uj(C:Nat->Nat->Prop):Fo->Prop
 |.nil=>True
 |.pl x y r=>C x y/\uj C r
 |.br op x y u v r=>(op=27\/op=29)/\uj C u/\uj C v/\uj C r
def uk(li:List cE)(r:Nat)(M:Nat->Option OB):Prop:=∃x,M r=some (.mp x)/\∀a,x.look false (.n .i64 0) a= .n .i64 (aN li a)
def KN(cs:List (Int×Int))(r:Nat)(g:FuncId)(pl:Nat->Nat->Int)(x y:Nat):Prop:=cg Tryz.prog g [dz cs r,.n .i64 x,.n .i64 y] [.v (.n .i64 (pl x y))]/\0<=pl x y/\pl x y<=100000
def lX(cs:List (Int×Int))(r:Nat)(li:List cE)(g:FuncId)(pl:Nat->Nat->Int)(own:Int)(o:Fo):Prop:=
 xZ Tryz.prog 33 [dz cs r,.fs 5 o.len o.cell,.f g [dz cs r] [],.n .i64 own] (uk li r) (λM rs N=>rs=[.v (.n .i64 (bu li pl own o 0))]/\N=λ_=>none)
theorem XD{P:List RT->(Nat->Option OB)->Prop}{v:AV}{H:AH}(h:P [.v v] (λ_=>none))(hp:v.pu 3=true):∃(rs:List RT) (N:Nat->Option OB) (l:List AV),P rs N/\v=aZ l/\gQ rs l H/\∀r x,N r=some x->H.ob r=some x/\wV x=true:=
 ⟨_,_,[v],h,rfl,⟨⟨rfl,hp⟩,trivial⟩,λr x hx=>by cases hx⟩
theorem eY{C:Nat->Nat->Prop}{li:List cE}{pl:Nat->Nat->Int}{own:Int}(hown:0<=own/\own<=1)(hC:∀x y,C x y->0<=pl x y/\pl x y<=100000)(hm:∀a,0<=aN li a):∀(o:Fo) (n:Int),uj C o->0<=n/\n<=281474976710657->0<=bu li pl own o n/\bu li pl own o n<=281474976710657
 |.nil,n,_,h=>h
 |.pl x y r,n,ho,h=>eY hown hC hm r _ ho.2 (aI (by have:=hC x y ho.1;omega))
 |.br op x y u v r,n,ho,h=>by
  have hu:=eY hown hC hm u 0 ho.2.1 (by omega)
  have hv:=eY hown hC hm v 0 ho.2.2.1 (by omega)
  refine eY hown hC hm r _ ho.2.2.2 (aI ?_)
  split
  ·have:=aI (n:=own+(if bu li pl own u 0<bu li pl own v 0 then bu li pl own v 0 else bu li pl own u 0)) (by split<;>omega)
   omega
  ·have h1:=(cw (aI (n:=own+bu li pl own u 0) (by omega)).1 (hm x)).1
   have:=aI (n:=own+bX (bA (own+bu li pl own u 0)) (aN li x)) (by omega)
   omega
theorem oB(cs:List (Int×Int))(r:Nat)(li:List cE)(g:FuncId)(pl:Nat->Nat->Int)(own:Int)(hown:0<=own/\own<=1)(hm:∀a,0<=aN li a/\aN li a<=65536)(o:Fo)(ho:uj (KN cs r g pl) o)(hlen:o.len<=100000)(ih:∀u:Fo,u.size<o.size->uj (KN cs r g pl) u->lX cs r li g pl own u):lX cs r li g pl own o:=by
 refine n9 am yi ⟨by simp,by decide⟩ λM hM=>?_
 obtain⟨y,hob,hlook⟩:∃y,iy M r=some (.mp y)/\∀a,y.look false (.n .i64 0) a= .n .i64 (aN li a):=by
  obtain⟨x0,hx0,hlook⟩:=hM
  exact⟨_,xo hx0,hlook⟩
 have hW:∀u:Fo,uj (KN cs r g pl) u->0<=bu li pl own u 0/\bu li pl own u 0<=281474976710657:=λu hu=>eY hown (λx y h=>h.2) (λa=>(hm a).1) u 0 hu (by omega)
 have hMap:uk li r (iy M):=⟨y,hob,hlook⟩
 clear hM
 simp only[aQ,dz]
 repeat first|with_reducible refine ay ?_|simp only[go_sem,simprocAttr]
 refine GA.loop (I:=λm ev H=>∃(rest:Fo) (k:Nat) (n:Int),m=rest.size/\k+rest.len=o.len/\bu li pl own o 0=bu li pl own rest n/\(0<=n/\n<=281474976710657)/\uj (KN cs r g pl) rest/\(∀i j,i<rest.len->rest.cell i j=o.cell (k+i) j)/\rest.size<=o.size/\ev=aC [(2,.f g [.agg [.fs 2 cs.length (pI cs),.cv (.map (some r))]] []),(3,.n .i64 own),(4,.p 0 0),(9,.n .i64 n),(13,.fs 5 o.len o.cell),(14,.n .i64 o.len),(15,.n .i64 k)]/\H=aH (iy M) [aj 0 69 [.fs 2 cs.length (pI cs),.cv (.map (some r))]]) (Wk.mkS [0] [] ?_ ?_ ?_) ⟨o,0,0,rfl,by omega,rfl,by omega,ho,λi j _=>by rw[Nat.zero_add],Nat.le_refl _,rfl,rfl⟩ ?_
 ·simp only[aK,aJ,go_sem,simprocAttr]
  repeat' refine af ?_ ?_
  all_goals first|exact aR|skip
 ·exact .cons rfl (.lstj (x:=_) (by simp only[go_sem,simprocAttr]<;>rfl) (by rfl) (by rfl) (by rfl) (by rfl) (by rfl) (by rfl) (by simp) (λi hi=>by rcases Ku hi with rfl|rfl<;>(simp only[go_sem,simprocAttr];exact Wv.same rfl))) .nil
 ·simp
 rintro m ev H ⟨rest,k,n,rfl,hkl,hs,hn,hok,hc,hsz,rfl,rfl⟩
 have h0:(0:Int)<=(k:Int):=by omega
 cases rest with
 |nil=>
  have hk:¬(k:Int)<o.len:=by simp[Fo.len] at hkl;omega
  repeat first|with_reducible refine ay ?_|simp only[hk,decide_false,go_sem,simprocAttr]
  exact XD (P:=λrs N=>rs=_/\N=λ_=>none) ⟨by rw[hs];rfl,rfl⟩ rfl
 |pl x y r'=>
  obtain⟨g1,g3⟩:=hok
  simp only[Fo.len] at hkl hc
  have hk:(k:Int)<o.len:=by omega
  have d0:o.cell k 0= .n .i64 (-1):=(hc 0 0 (by omega)).symm
  have d1:o.cell k 1= .n .i64 x:=(hc 0 1 (by omega)).symm
  have d2:o.cell k 2= .n .i64 y:=(hc 0 2 (by omega)).symm
  have d3:o.cell k 3= .sl0:=(hc 0 3 (by omega)).symm
  have d4:o.cell k 4= .sl0:=(hc 0 4 (by omega)).symm
  have wk:IntKind.i64.wrap ((k:Int)+1)=((k+1:Nat):Int):=(ao (by omega)).trans (by omega)
  obtain⟨g1,g2⟩:=g1
  repeat first|with_reducible refine ay ?_|simp only[h0,hk,d0,d1,d2,d3,d4,decide_true,decide_false,go_sem,simprocAttr]
  refine ae [] (fargs:=[dz cs r,.n .i64 x,.n .i64 y]) (aV.same rfl) g1 ?_ ?_
  ·simp only[go_sem,simprocAttr]
  repeat first|with_reducible refine ay ?_|simp only[go_sem,simprocAttr]
  refine ae [] (fargs:=[.n .i64 n,.n .i64 (pl x y)]) (aV.same rfl) (ea n (pl x y) (by omega) (by omega)) ?_ ?_
  ·simp only[go_sem,simprocAttr]
  repeat first|with_reducible refine ay ?_|simp only[wk,go_sem,simprocAttr]
  refine⟨_,_,_,?_,Wk.mkS [0] [] ?_ ?_ ?_,r',k+1,bA (n+pl x y),rfl,by omega,hs,aI (by omega),g3,λi j hi=>?_,by simp only[Fo.size] at hsz;omega,rfl,rfl⟩
  ·simp only[Fo.size];omega
  ·simp only[aK,aJ,go_sem,simprocAttr]
   repeat' refine af ?_ ?_
   all_goals first|exact aR|skip
  ·exact .cons rfl .ls .nil
  ·simp
  ·have:=hc (i+1) j (by omega)
   rw[show k+1+i=k+(i+1) by omega]
   exact this
 |br op x y u v r'=>
  obtain⟨hop,gu,gv,gr⟩:=hok
  simp only[Fo.len] at hkl hc
  have hk:(k:Int)<o.len:=by omega
  have d0:o.cell k 0= .n .i64 op:=(hc 0 0 (by omega)).symm
  have d1:o.cell k 1= .n .i64 x:=(hc 0 1 (by omega)).symm
  have d2:o.cell k 2= .n .i64 y:=(hc 0 2 (by omega)).symm
  have d3:o.cell k 3= .fs 5 u.len u.cell:=(hc 0 3 (by omega)).symm
  have d4:o.cell k 4= .fs 5 v.len v.cell:=(hc 0 4 (by omega)).symm
  have wk:IntKind.i64.wrap ((k:Int)+1)=((k+1:Nat):Int):=(ao (by omega)).trans (by omega)
  have hsu:u.size<o.size:=by simp only[Fo.size] at hsz;omega
  have hsv:v.size<o.size:=by simp only[Fo.size] at hsz;omega
  have Bu:=hW u gu
  have Bv:=hW v gv
  have hc':∀i j,i<r'.len->r'.cell i j=o.cell (k+1+i) j:=λi j hi=>by
   have:=hc (i+1) j (by omega)
   rw[show k+1+i=k+(i+1) by omega]
   exact this
  rcases hop with rfl|rfl
  ·obtain⟨X,hX⟩:∃X,X=(if bu li pl own u 0<bu li pl own v 0 then bu li pl own v 0 else bu li pl own u 0):=⟨_,rfl⟩
   have BX:0<=X/\X<=281474976710657:=by rw[hX];split<;>omega
   obtain⟨S,hS⟩:∃S,S=bA (own+X):=⟨_,rfl⟩
   have BS:0<=S/\S<=281474976710657:=by rw[hS];exact aI (by omega)
   rw[bu,if_pos rfl,<-hX,<-hS] at hs
   repeat first|with_reducible refine ay ?_|simp only[h0,hk,d0,d1,d2,d3,d4,decide_true,go_sem,simprocAttr]
   refine ct [] (fargs:=[dz cs r,.fs 5 u.len u.cell,.f g [dz cs r] [],.n .i64 own]) (aV.same rfl) (ih u hsu gu) ?_ ?_ ?_
   ·simp only[go_sem,simprocAttr];exact hMap
   ·simp only[go_sem,simprocAttr]
   rintro rs N ⟨rfl,rfl⟩ _
   repeat first|with_reducible refine ay ?_|simp only[go_sem,simprocAttr]
   refine ct [] (fargs:=[dz cs r,.fs 5 v.len v.cell,.f g [dz cs r] [],.n .i64 own]) (aV.same rfl) (ih v hsv gv) ?_ ?_ ?_
   ·simp only[go_sem,simprocAttr];exact hMap
   ·simp only[go_sem,simprocAttr]
   rintro rs N ⟨rfl,rfl⟩ _
   repeat first|with_reducible refine ay ?_|simp only[go_sem,simprocAttr]
   rw[<-hX]
   refine ae [] (fargs:=[.n .i64 own,.n .i64 X]) (aV.same rfl) (ea own X (by omega) (by omega)) ?_ ?_
   ·simp only[go_sem,simprocAttr]
   rw[<-hS]
   repeat first|with_reducible refine ay ?_|simp only[go_sem,simprocAttr]
   refine ae [] (fargs:=[.n .i64 n,.n .i64 S]) (aV.same rfl) (ea n S (by omega) (by omega)) ?_ ?_
   ·simp only[go_sem,simprocAttr]
   repeat first|with_reducible refine ay ?_|simp only[wk,go_sem,simprocAttr]
   refine⟨_,_,_,?_,Wk.mkS [0] [] ?_ ?_ ?_,r',k+1,bA (n+S),rfl,by omega,hs,aI (by omega),gr,hc',by simp only[Fo.size] at hsz;omega,rfl,rfl⟩
   ·simp only[Fo.size];omega
   ·simp only[aK,aJ,go_sem,simprocAttr]
    repeat' refine af ?_ ?_
    all_goals first|exact aR|skip
   ·exact .cons rfl .ls .nil
   ·simp
  ·obtain⟨S,hS⟩:∃S,S=bA (own+bu li pl own u 0):=⟨_,rfl⟩
   have BS:0<=S/\S<=281474976710657:=by rw[hS];exact aI (by omega)
   obtain⟨T,hT⟩:∃T,T=bX S (aN li x):=⟨_,rfl⟩
   have BT:0<=T/\T<=281474976710657:=by rw[hT];exact cw BS.1 (hm x).1
   obtain⟨Z,hZ⟩:∃Z,Z=bA (own+T):=⟨_,rfl⟩
   have BZ:0<=Z/\Z<=281474976710657:=by rw[hZ];exact aI (by omega)
   rw[bu,if_neg (by decide),<-hS,<-hT,<-hZ] at hs
   repeat first|with_reducible refine ay ?_|simp only[h0,hk,d0,d1,d2,d3,d4,decide_true,decide_false,go_sem,simprocAttr]
   refine GA.mxlm am 2 (by simp only[go_sem,simprocAttr]) ?_
   simp only[hob,hlook,go_sem,simprocAttr]
   refine ct [] (fargs:=[dz cs r,.fs 5 u.len u.cell,.f g [dz cs r] [],.n .i64 own]) (aV.same rfl) (ih u hsu gu) ?_ ?_ ?_
   ·simp only[go_sem,simprocAttr];exact hMap
   ·simp only[go_sem,simprocAttr]
   rintro rs N ⟨rfl,rfl⟩ _
   repeat first|with_reducible refine ay ?_|simp only[go_sem,simprocAttr]
   refine ae [] (fargs:=[.n .i64 own,.n .i64 (bu li pl own u 0)]) (aV.same rfl) (ea own _ (by omega) (by omega)) ?_ ?_
   ·simp only[go_sem,simprocAttr]
   rw[<-hS]
   repeat first|with_reducible refine ay ?_|simp only[go_sem,simprocAttr]
   refine ae [] (fargs:=[.n .i64 S,.n .i64 (aN li x)]) (aV.same rfl) (oD S (aN li x) BS (hm x)) ?_ ?_
   ·simp only[go_sem,simprocAttr]
   rw[<-hT]
   repeat first|with_reducible refine ay ?_|simp only[go_sem,simprocAttr]
   refine ae [] (fargs:=[.n .i64 own,.n .i64 T]) (aV.same rfl) (ea own T (by omega) (by omega)) ?_ ?_
   ·simp only[go_sem,simprocAttr]
   rw[<-hZ]
   repeat first|with_reducible refine ay ?_|simp only[go_sem,simprocAttr]
   refine ae [] (fargs:=[.n .i64 n,.n .i64 Z]) (aV.same rfl) (ea n Z (by omega) (by omega)) ?_ ?_
   ·simp only[go_sem,simprocAttr]
   repeat first|with_reducible refine ay ?_|simp only[wk,go_sem,simprocAttr]
   refine⟨_,_,_,?_,Wk.mkS [0] [] ?_ ?_ ?_,r',k+1,bA (n+Z),rfl,by omega,hs,aI (by omega),gr,hc',by simp only[Fo.size] at hsz;omega,rfl,rfl⟩
   ·simp only[Fo.size];omega
   ·simp only[aK,aJ,go_sem,simprocAttr]
    repeat' refine af ?_ ?_
    all_goals first|exact aR|skip
   ·exact .cons rfl .ls .nil
   ·simp
theorem iM(cs:List (Int×Int))(r:Nat)(li:List cE)(g:FuncId)(pl:Nat->Nat->Int)(own:Int)(hown:0<=own/\own<=1)(hm:∀a,0<=aN li a/\aN li a<=65536):∀(n:Nat) (o:Fo),o.size<n->o.size<=100000->uj (KN cs r g pl) o->lX cs r li g pl own o
 |0,o,hn,_,_=>absurd hn (Nat.not_lt_zero _)
 |n+1,o,hn,hs,ho=>oB cs r li g pl own hown hm o ho (Nat.le_trans (Fo.len_le_size o) hs) λu hu gu=>iM cs r li g pl own hown hm n u (by omega) (by omega) gu
def rN:List Int->List cE->Bool->Int
 |[],_,w=>if w=true then 2 else 0
 |_::_,[],_=>0
 |a::ls,x::li,w=>if x.1=a then rN ls li (w||decide (x.2.1<0)||decide (65536<x.2.1)) else 23
abbrev zY(l:List cE):Prop:=∀x ∈ l,0<=x.2.1/\x.2.1<=65536
theorem rM:∀(ls:List Int) (li:List cE) (w:Bool),ls.length=li.length->rN ls li w=if(li.map λx=>x.1)=ls then(if w=false/\zY li then 0 else 2) else 23
 |[],[],w,_=>by
  rw[rN,if_pos (show(([]:List cE).map λx=>x.1)=[] from rfl)]
  cases w
  ·rw[if_neg (by decide),if_pos ⟨rfl,λx h=>by cases h⟩]
  ·rw[if_pos rfl,if_neg (λh=>by cases h.1)]
 |[],_::_,_,h=>by simp at h
 |_::_,[],_,h=>by simp at h
 |a::ls,x::li,w,h=>by
  have hl:ls.length=li.length:=by simpa using h
  rw[rN,rM ls li _ hl]
  by_cases e:x.1=a
  ·rw[if_pos e]
   by_cases e2:(li.map λx=>x.1)=ls
   ·have hh:(List.map (λx:cE=>x.1) (x::li))=a::ls:=by rw[List.map_cons,e,e2]
    rw[if_pos e2,if_pos hh]
    have key:((w||decide (x.2.1<0)||decide (65536<x.2.1))=false/\zY li)↔(w=false/\zY (x::li)):=by
     simp only[Bool.or_eq_false_iff,decide_eq_false_iff_not]
     constructor
     ·rintro ⟨⟨⟨h1,h2⟩,h3⟩,h4⟩
      refine⟨h1,λy hy=>?_⟩
      rcases List.mem_cons.1 hy with rfl|hy
      ·omega
      ·exact h4 y hy
     ·rintro ⟨h1,h2⟩
      have:=h2 x (List.mem_cons_self ..)
      exact⟨⟨⟨h1,by omega⟩,by omega⟩,λy hy=>h2 y (List.mem_cons_of_mem _ hy)⟩
    by_cases k:w=false/\zY (x::li)
    ·rw[if_pos (key.2 k),if_pos k]
    ·rw[if_neg (λq=>k (key.1 q)),if_neg k]
   ·rw[if_neg e2,if_neg (λq=>e2 (by rw[List.map_cons] at q;exact(List.cons.inj q).2))]
  ·rw[if_neg e,if_neg (λq=>e (by rw[List.map_cons] at q;exact(List.cons.inj q).1))]
theorem wO(ls:List Int)(li:List cE)(h:ls.length=li.length):ir ls li=rN ls li false:=by
 rw[rM ls li false h,ir]
 by_cases e:(li.map λx=>x.1)=ls
 ·rw[if_pos ⟨h,e⟩,if_pos e]
  by_cases k:zY li
  ·rw[if_pos k,if_pos ⟨rfl,k⟩]
  ·rw[if_neg k,if_neg (λq=>k q.2)]
 ·rw[if_neg (λq=>e q.2),if_neg e]
theorem lc(ls:List Int)(li:List cE)(h:ls.length≠li.length):ir ls li=23:=if_neg (λq=>h q.1)
theorem fZ(cs:List (Int×Int)):∀(k:Nat) (a:Int),a ∈ aU cs k->a<k
 |0,a,h=>by cases h
 |k+1,a,h=>by
  rw[aU] at h
  split at h
  ·rcases List.mem_append.1 h with h|h
   ·have:=fZ cs k a h;omega
   ·have:a=k:=by simpa using h
    omega
  ·have:=fZ cs k a h;omega
theorem dW(cs:List (Int×Int)):∀k:Nat,(aU cs k).Nodup
 |0=>List.nodup_nil
 |k+1=>by
  rw[aU]
  split
  ·rw[List.nodup_append]
   refine⟨dW cs k,by simp,λa ha b hb=>?_⟩
   have:=fZ cs k a ha
   have hb:b=k:=by simpa using hb
   omega
  ·exact dW cs k
theorem kr(cs:List (Int×Int)):(bN cs).Nodup:=by
 unfold bN
 split
 ·exact dW cs _
 ·exact List.nodup_nil
theorem jc:∀{l:List cE} {x:cE},x.1 ∉ (l.map λx=>x.1)->∀a,aN (l++[x]) a=if a=x.1 then x.2.1 else aN l a
 |[],x,_,a=>by
  show(if x.1=a then x.2.1 else 0)=_
  by_cases e:a=x.1
  ·rw[if_pos e,if_pos e.symm]
  ·rw[if_neg e,if_neg (λq=>e q.symm)];rfl
 |y::l,x,h,a=>by
  rw[List.map_cons,List.mem_cons,not_or] at h
  rw[List.cons_append,aN,jc h.2]
  by_cases e:y.1=a
  ·rw[if_pos e,if_neg (λq=>h.1 (q.symm.trans e.symm)),aN,if_pos e]
  ·rw[if_neg e,aN,if_neg e]
theorem fT.look_put(y:fT)(k:Int)(q:IntKind)(v a:Int)(z:AV):(y.put k (.n q v)).look false z a=if a=k then .n q v else y.look false z a:=by
 show(match(if a=k then some (AV.n q v) else y.get a) with
  |some v=>jD false v true
  |none=>jD false z false)=_
 by_cases e:a=k
 ·rw[if_pos e,if_pos e];rfl
 ·rw[if_neg e,if_neg e];rfl
def ck(la:List (Bool×Int))(loc:Int)(cs:List (Int×Int))(li:List cE):Int:=if(dY la loc cs).2=0 then ir (bN cs) li else(dY la loc cs).2
theorem nj{la:List (Bool×Int)}{loc:Int}{cs:List (Int×Int)}(h:(dY la loc cs).2=0):(au cs).2.2=0/\cs.length<=1024:=by
 have hp:(au cs).2.2=0:=by
  unfold dY at h
  split at h
  ·split at h
   ·assumption
   ·exact h
  ·rename_i h1
   exact absurd h h1
 refine⟨hp,?_⟩
 by_cases e:1024<cs.length
 ·rw[au,if_pos e] at hp
  exact absurd hp (by decide)
 ·omega
def lZ(la:List (Bool×Int))(loc:Int)(cs:List (Int×Int))(li:List cE)(rs:List RT)(N:Nat->Option OB):Prop:=
 (ck la loc cs li≠0/\rs=[.v (.agg [.sl0,.cv (.map none)]),.v .sl0,.v (.n .i64 (ck la loc cs li))]/\N=λ_=>none)\/
 (ck la loc cs li=0/\∃r,uk li r N/\rs=[.v (dz cs r),.v (.fs 5 (au cs).1.len (au cs).1.cell),.v (.n .i64 0)])
theorem om{la:List (Bool×Int)}{loc:Int}{cs:List (Int×Int)}{li:List cE}{H:AH}{e:Int}(h:ck la loc cs li=e)(h0:e≠0):∃(rs:List RT) (N:Nat->Option OB) (l:List AV),lZ la loc cs li rs N/\aZ [.agg [.sl0,.cv (.map none)],.sl0,.n .i64 e]=aZ l/\gQ rs l H/\∀r x,N r=some x->H.ob r=some x/\wV x=true:=
 ⟨_,_,[.agg [.sl0,.cv (.map none)],.sl0,.n .i64 e],.inl ⟨by rw[h];exact h0,rfl,rfl⟩,rfl,⟨⟨rfl,rfl⟩,⟨rfl,rfl⟩,⟨by rw[h],rfl⟩,trivial⟩,λr x hx=>by cases hx⟩
theorem ll(la:List (Bool×Int))(loc:Int)(cs:List (Int×Int))(hl:la.length<=9223372036854775807)(hc:cs.length<=9223372036854775807)(ha:dU cs)(s e h:Int)(li:List cE)(hli:li.length<=60):
  xZ Tryz.prog 31 [aL la loc cs,bL s e h li] (λ_=>True) (λM rs N=>lZ la loc cs li rs N):=by
 refine n9 am yl ⟨by simp,by decide⟩ λM _=>?_
 simp only[aQ,aL,bL]
 repeat first|with_reducible refine ay ?_|simp only[go_sem,simprocAttr]
 refine ae [] (fargs:=[aL la loc cs]) (aV.same rfl) (ml la loc cs hl hc ha) ?_ ?_
 ·simp only[go_sem,simprocAttr]
 by_cases h1:(dY la loc cs).2=0
 rotate_left
 ·repeat first|with_reducible refine ay ?_|simp only[h1,ne_eq,not_false_eq_true,decide_true,decide_false,Bool.not_false,go_sem,simprocAttr]
  exact om (if_neg h1) h1
 have hO:ck la loc cs li=ir (bN cs) li:=if_pos h1
 obtain⟨hp,hcs⟩:=nj h1
 repeat first|with_reducible refine ay ?_|simp only[h1,ne_eq,not_true_eq_false,decide_true,decide_false,Bool.not_true,go_sem,simprocAttr]
 refine ae [] (fargs:=[.fs 2 cs.length (pI cs)]) (aV.same rfl) (px cs (by omega)) ?_ ?_
 ·simp only[go_sem,simprocAttr]
 rw[hp]
 have hnd:=kr cs
 have hlen:(bN cs).length<=1024:=by
  rw[bN,if_pos hp]
  exact Nat.le_trans (dg cs _) hcs
 generalize hls:bN cs=ls at hO hnd hlen ⊢
 by_cases h2:ls.length=li.length
 rotate_left
 ·have h2':¬(ls.length:Int)=li.length:=by omega
  repeat first|with_reducible refine ay ?_|simp only[h2',ne_eq,not_true_eq_false,not_false_eq_true,decide_true,decide_false,Bool.not_true,Bool.not_false,go_sem,simprocAttr]
  exact om (hO.trans (lc ls li h2)) (by decide)
 have h2':(ls.length:Int)=li.length:=by omega
 rw[wO ls li h2] at hO
 repeat first|with_reducible refine ay ?_|simp only[h2',ne_eq,not_true_eq_false,decide_true,decide_false,Bool.not_true,go_sem,simprocAttr]
 refine Kt λr hr=>?_
 repeat first|with_reducible refine ay ?_|simp only[go_sem,simprocAttr]
 refine GA.loop (I:=λm ev H=>∃(k:Nat) (wr:Bool) (y:fT) (ob:Nat->Option OB),m=ls.length-k/\k<=ls.length/\rN ls li false=rN (ls.drop k) (li.drop k) wr/\ob r=some (.mp y)/\y.own=true/\(∀a,y.look false (.n .i64 0) a= .n .i64 (aN (li.take k) a))/\((li.take k).map λx=>x.1)=ls.take k/\
   ev=aC [(2,.p 0 0),(3,.p 1 0),(4,.p 2 0),(11,.p 3 0),(12,.b wr),(48,.fs 1 ls.length (iC ls)),(49,.n .i64 li.length),(50,.n .i64 k)]/\
   H=aH ob [aj 0 69 [.fs 2 cs.length (pI cs),.cv (.map (some r))],aj 0 69 [.sl0,.cv (.map none)],aj 0 44 [.n .i64 s,.n .i64 e,.n .i64 h,.fs 3 li.length (vI li)],aj 0 25 [.fs 2 la.length (pA la),.n .i64 loc,.fs 2 cs.length (pI cs)]])
  (Wk.mkS [4,2,1,0] [3] ?_ ?_ ?_) ⟨0,false,⟨true,λ_=>none,0,none⟩,_,rfl,Nat.zero_le _,rfl,?_,rfl,λa=>rfl,rfl,rfl,rfl⟩ ?_
 ·simp only[aK,aJ,go_sem,simprocAttr]
  repeat' refine af ?_ ?_
  all_goals first|exact aR|skip
  exact .cv (.os (x:=ah 3 1 ls.length 0 (iC ls)) (by simp) (by simp only[go_sem,simprocAttr]) (Nat.le_refl _) (λi j _ hj=>aE i j hj) (λi j _ _=>rfl))
 ·exact .cons rfl (.lstj (x:=_) (by simp only[go_sem,simprocAttr]<;>rfl) (by rfl) (by rfl) (by rfl) (by rfl) (by rfl) (by rfl) (by simp) (λi hi=>by rcases Ku hi with rfl|rfl<;>(simp only[go_sem,simprocAttr];exact Wv.same rfl))) (.cons rfl (.lstj (x:=_) (by simp only[go_sem,simprocAttr]<;>rfl) (by rfl) (by rfl) (by rfl) (by rfl) (by rfl) (by rfl) (by simp) (λi hi=>by rcases Ku hi with rfl|rfl<;>(simp only[go_sem,simprocAttr];exact Wv.same rfl))) (.cons rfl (.lstj (x:=_) (by simp only[go_sem,simprocAttr]<;>rfl) (by rfl) (by rfl) (by rfl) (by rfl) (by rfl) (by rfl) (by simp) (λi hi=>by rcases pj hi with rfl|rfl|rfl|rfl<;>(simp only[go_sem,simprocAttr];exact Wv.same rfl))) (.cons rfl (.lstj (x:=_) (by simp only[go_sem,simprocAttr]<;>rfl) (by rfl) (by rfl) (by rfl) (by rfl) (by rfl) (by rfl) (by simp) (λi hi=>by rcases bh hi with rfl|rfl|rfl<;>(simp only[go_sem,simprocAttr];exact Wv.same rfl))) .nil)))
 ·simp
 ·simp only[go_sem,simprocAttr]
 rintro m ev H ⟨k,wr,y,ob,rfl,hk,hs,hob,hown,hlook,hmap,rfl,rfl⟩
 have h0:(0:Int)<=(k:Int):=by omega
 by_cases hkl:k<ls.length
 rotate_left
 ·have hk':¬(k:Int)<li.length:=by omega
  obtain rfl:k=ls.length:=by omega
  rw[List.drop_length,rN] at hs
  rw[List.take_length,h2,List.take_length] at hmap
  rw[h2,List.take_length] at hlook
  cases wr
  ·repeat first|with_reducible refine ay ?_|simp only[hk',decide_false,go_sem,simprocAttr]
   refine ae [] (fargs:=[.fs 2 cs.length (pI cs)]) (aV.same rfl) (gW cs) ?_ ?_
   ·simp only[go_sem,simprocAttr]
   rw[hp]
   repeat first|with_reducible refine ay ?_|simp only[go_sem,simprocAttr]
   exact⟨_,λq=>if q=r then some (.mp y) else none,[dz cs r,.fs 5 (au cs).1.len (au cs).1.cell,.n .i64 0],.inr ⟨hO.trans (hs.trans (if_neg (by decide))),r,⟨y,if_pos rfl,hlook⟩,rfl⟩,rfl,⟨⟨rfl,rfl⟩,⟨rfl,rfl⟩,⟨rfl,rfl⟩,trivial⟩,λq x hx=>by
    have hx2:(if q=r then some (OB.mp y) else none)=some x:=hx
    clear hx
    by_cases hq:q=r
    ·rw[if_pos hq] at hx2
     cases hx2
     subst hq
     exact⟨by simp only[hob,go_sem,simprocAttr],hown⟩
    ·rw[if_neg hq] at hx2
     cases hx2⟩
  ·repeat first|with_reducible refine ay ?_|simp only[hk',decide_false,go_sem,simprocAttr]
   exact om (hO.trans (hs.trans (if_pos rfl))) (by decide)
 have hk1:(k:Int)<li.length:=by omega
 have hk2:(k:Int)<ls.length:=by omega
 have hkl':k<li.length:=by omega
 have wk:IntKind.i64.wrap ((k:Int)+1)=((k+1:Nat):Int):=(ao (by omega)).trans (by omega)
 rw[bU (d:=0) hkl,bU (d:=cn) hkl',rN] at hs
 have htl:li.take (k+1)=li.take k++[li.getD k cn]:=by
  rw[List.take_add_one,List.getD_eq_getElem?_getD,List.getElem?_eq_getElem hkl'];rfl
 have htl2:ls.take (k+1)=ls.take k++[ls.getD k 0]:=by
  rw[List.take_add_one,List.getD_eq_getElem?_getD,List.getElem?_eq_getElem hkl];rfl
 by_cases h3:(li.getD k cn).1=ls.getD k 0
 rotate_left
 ·rw[if_neg h3] at hs
  repeat first|with_reducible refine ay ?_|simp only[h0,hk1,hk2,qG,Jw,zN,WX,h3,ne_eq,not_false_eq_true,decide_true,Bool.not_false,go_sem,simprocAttr]
  exact om (hO.trans hs) (by decide)
 rw[if_pos h3] at hs
 have hnot:(li.getD k cn).1 ∉ ((li.take k).map λx=>x.1):=by
  rw[hmap,h3]
  intro hin
  have hn2:(ls.take (k+1)).Nodup:=hnd.sublist (List.take_sublist _ _)
  rw[htl2,List.nodup_append] at hn2
  exact hn2.2.2 _ hin _ (List.mem_singleton.2 rfl) rfl
 have hmap':((li.take (k+1)).map λx=>x.1)=ls.take (k+1):=by
  rw[htl,htl2,List.map_append,hmap]
  simp only[List.map_cons,List.map_nil,h3]
 have hlook':∀a,(y.put (ls.getD k 0) (.n .i64 (li.getD k cn).2.1)).look false (.n .i64 0) a= .n .i64 (aN (li.take (k+1)) a):=λa=>by
  rw[fT.look_put,htl,jc hnot,hlook,h3]
  split<;>rfl
 generalize hx:li.getD k cn=x at hs h3 hlook' htl
 obtain⟨x1,x2,x3,x4⟩:=x
 replace h3:x1=ls.getD k 0:=h3
 subst h3
 have hV0:vI li k 0= .n .i64 (ls.getD k 0):=by rw[Jw,hx]
 have hV1:vI li k 1= .n .i64 x2:=by rw[zN,hx]
 have hV2:vI li k 2= .fs 2 x3 x4:=by rw[WX,hx]
 replace hs:rN ls li false=rN (ls.drop (k+1)) (li.drop (k+1)) (wr||decide (x2<0)||decide (65536<x2)):=hs
 replace hlook':∀a,(y.put (ls.getD k 0) (.n .i64 x2)).look false (.n .i64 0) a= .n .i64 (aN (li.take (k+1)) a):=hlook'
 clear hlook htl hmap hnot
 cases wr<;>cases q1:decide (x2<0)<;>cases q2:decide (65536<x2)
 all_goals
  rw[q1,q2] at hs
  repeat first|with_reducible refine ay ?_|simp only[h0,hk1,hk2,qG,hV0,hV1,hV2,hob,hown,q1,q2,wk,gt_iff_lt,ne_eq,not_true_eq_false,decide_true,decide_false,Bool.not_true,go_sem,simprocAttr]
  refine⟨_,_,_,?_,Wk.mkS [3,2,1,0] [] ?_ ?_ ?_,k+1,_,y.put (ls.getD k 0) (.n .i64 x2),_,rfl,by omega,hs,?_,hown,hlook',hmap',rfl,rfl⟩
  ·omega
  ·simp only[aK,aJ,go_sem,simprocAttr]
   repeat' refine af ?_ ?_
   all_goals first|exact aR|skip
  ·exact .cons rfl .ls (.cons rfl .ls (.cons rfl .ls (.cons rfl .ls .nil)))
  ·simp
  ·simp only[go_sem,simprocAttr]
theorem wP{ls:List Int}{li:List cE}(h:ir ls li=0):ls.length=li.length/\(li.map λx=>x.1)=ls/\zY li:=by
 unfold ir at h
 split at h
 ·rename_i h1
  split at h
  ·rename_i h2
   exact⟨h1.1,h1.2,h2⟩
  ·exact absurd h (by decide)
 ·exact absurd h (by decide)
theorem iG{la:List (Bool×Int)}{loc:Int}{cs:List (Int×Int)}{li:List cE}(h:ck la loc cs li=0):∃out,a8 cs out (au cs).1 0 cs.length/\cs.length<=1024/\zY li/\(au cs).2.2=0:=by
 by_cases h1:(dY la loc cs).2=0
 ·have h2:ir (bN cs) li=0:=(if_pos h1).symm.trans h
  obtain⟨hp,_⟩:=nj h1
  rcases fY cs with⟨a,e,he,_,k2⟩|⟨out,o,_,k2,k3,_,k5⟩
  ·rw[k2] at hp;exact absurd hp he
  ·exact⟨out,by rw[k2];exact k5,k3,(wP h2).2.2,hp⟩
 ·exact absurd ((if_neg h1).symm.trans h) h1
theorem jH.okf{cs:List (Int×Int)}(hcs:cs.length<=100000):∀{o:Fo},jH cs o->qI o
 |.nil,_=>trivial
 |.pl x y r,h=>⟨h.1,by have:=h.2.1;omega,jH.okf hcs h.2.2⟩
 |.br op x y u v r,h=>⟨h.1,jH.okf hcs h.2.1,jH.okf hcs h.2.2.1,jH.okf hcs h.2.2.2⟩
theorem jH.okp{cs:List (Int×Int)}{C:Nat->Nat->Prop}(hC:∀x y,x<=y->y<=cs.length->C x y):∀{o:Fo},jH cs o->uj C o
 |.nil,_=>trivial
 |.pl x y r,h=>⟨hC x y h.1 h.2.1,jH.okp hC h.2.2⟩
 |.br op x y u v r,h=>⟨h.1,jH.okp hC h.2.1,jH.okp hC h.2.2.1,jH.okp hC h.2.2.2⟩
def eZ(la:List (Bool×Int))(loc:Int)(cs:List (Int×Int))(li:List cE):Int×Int:=if ck la loc cs li=0 then gM (aX li (au cs).1 0) else(0,ck la loc cs li)
def fu(la:List (Bool×Int))(loc:Int)(cs:List (Int×Int))(li:List cE):Int×Int:=if ck la loc cs li=0 then gM (bk cs li (au cs).1 0) else(0,ck la loc cs li)
theorem oS{cs:List (Int×Int)}(hcs:cs.length<=1024)(r x y:Nat)(h1:x<=y)(h2:y<=cs.length):KN cs r 34 (λx y=>(y:Int)-x) x y:=by
 have e:((y:Int)-x)=((y-x:Nat):Int):=by omega
 refine⟨?_,by show 0<=(y:Int)-x;omega,by show(y:Int)-x<=100000;omega⟩
 show cg Tryz.prog 34 [dz cs r,.n .i64 x,.n .i64 y] [.v (.n .i64 ((y:Int)-x))]
 rw[e]
 exact np cs r x y h1 (by omega)
theorem oT{cs:List (Int×Int)}(hcs:cs.length<=1024)(r x y:Nat)(h1:x<=y)(h2:y<=cs.length):KN cs r 38 (λx y=>(bG cs x (y-x):Nat)) x y:=by
 have:=gG cs x (y-x)
 exact⟨ns cs r x y h1 h2 (by omega),by show(0:Int)<=(bG cs x (y-x):Nat);omega,by show((bG cs x (y-x):Nat):Int)<=100000;omega⟩
theorem nf(la:List (Bool×Int))(loc:Int)(cs:List (Int×Int))(hl:la.length<=9223372036854775807)(hc:cs.length<=9223372036854775807)(ha:dU cs)(s e h:Int)(li:List cE)(hli:li.length<=60):
  cg Tryz.prog 16 [aL la loc cs,bL s e h li] [.v (.n .i64 (eZ la loc cs li).1),.v (.n .i64 (eZ la loc cs li).2)]:=by
 refine az am ym ⟨by simp,by decide⟩ ?_
 simp only[aQ,aL,bL]
 repeat first|with_reducible refine ay ?_|simp only[go_sem,simprocAttr]
 refine ct [] (fargs:=[aL la loc cs,bL s e h li]) (aV.same rfl) (ll la loc cs hl hc ha s e h li hli) True.intro ?_ ?_
 ·simp only[go_sem,simprocAttr]
 rintro rs N (⟨h0,rfl,rfl⟩|⟨h0,r,⟨x,hx,hlk⟩,rfl⟩) hfree
 ·rw[show eZ la loc cs li=(0,ck la loc cs li) from if_neg h0]
  repeat first|with_reducible refine ay ?_|simp only[h0,ne_eq,not_false_eq_true,decide_false,Bool.not_false,go_sem,simprocAttr]
  exact⟨[_,_],rfl,⟨rfl,rfl⟩,⟨rfl,rfl⟩,trivial⟩
 obtain⟨out,hg,hcs,hin,_⟩:=iG h0
 have hm:=fj hin
 have hok:=hg.oke (Nat.le_refl _)
 have hsz:=hg.size
 have hw:=iM cs r li 34 (λx y=>(y:Int)-x) 1 (by decide) hm _ (au cs).1 (Nat.lt_succ_self _) (by omega) (hok.okp (oS hcs r))
 unfold lX at hw
 rw[cQ (λa=>(hm a).1) _ 0 (hok.okf (by omega)) (by decide)] at hw
 rw[show eZ la loc cs li=gM (aX li (au cs).1 0) from if_pos h0]
 simp only[dz]
 repeat first|with_reducible refine ay ?_|simp only[ne_eq,not_true_eq_false,decide_true,Bool.not_true,go_sem,simprocAttr]
 refine ct [] (fargs:=[dz cs r,.fs 5 (au cs).1.len (au cs).1.cell,.f 34 [dz cs r] [],.n .i64 1]) (aV.same rfl) hw ⟨x,?_,hlk⟩ ?_ ?_
 ·simp only[go_sem,simprocAttr]
  exact(lW rfl).trans hx
 ·simp only[go_sem,simprocAttr]
 rintro rs N2 ⟨rfl,rfl⟩ _
 repeat first|with_reducible refine ay ?_|simp only[go_sem,simprocAttr]
 refine ae [] (fargs:=[.n .i64 (aX li (au cs).1 0)]) (aV.same rfl) (ik _) ?_ ?_
 ·simp only[go_sem,simprocAttr]
 repeat first|with_reducible refine ay ?_|simp only[go_sem,simprocAttr]
 exact⟨[_,_],rfl,⟨rfl,rfl⟩,⟨rfl,rfl⟩,trivial⟩
theorem nk(la:List (Bool×Int))(loc:Int)(cs:List (Int×Int))(hl:la.length<=9223372036854775807)(hc:cs.length<=9223372036854775807)(ha:dU cs)(s e h:Int)(li:List cE)(hli:li.length<=60):
  cg Tryz.prog 18 [aL la loc cs,bL s e h li] [.v (.n .i64 (fu la loc cs li).1),.v (.n .i64 (fu la loc cs li).2)]:=by
 refine az am ya ⟨by simp,by decide⟩ ?_
 simp only[aQ,aL,bL]
 repeat first|with_reducible refine ay ?_|simp only[go_sem,simprocAttr]
 refine ct [] (fargs:=[aL la loc cs,bL s e h li]) (aV.same rfl) (ll la loc cs hl hc ha s e h li hli) True.intro ?_ ?_
 ·simp only[go_sem,simprocAttr]
 rintro rs N (⟨h0,rfl,rfl⟩|⟨h0,r,⟨x,hx,hlk⟩,rfl⟩) hfree
 ·rw[show fu la loc cs li=(0,ck la loc cs li) from if_neg h0]
  repeat first|with_reducible refine ay ?_|simp only[h0,ne_eq,not_false_eq_true,decide_false,Bool.not_false,go_sem,simprocAttr]
  exact⟨[_,_],rfl,⟨rfl,rfl⟩,⟨rfl,rfl⟩,trivial⟩
 obtain⟨out,hg,hcs,hin,_⟩:=iG h0
 have hm:=fj hin
 have hok:=hg.oke (Nat.le_refl _)
 have hsz:=hg.size
 have hw:=iM cs r li 38 (λx y=>(bG cs x (y-x):Nat)) 0 (by decide) hm _ (au cs).1 (Nat.lt_succ_self _) (by omega) (hok.okp (oT hcs r))
 unfold lX at hw
 rw[cR (λa=>(hm a).1) _ 0 (by decide)] at hw
 rw[show fu la loc cs li=gM (bk cs li (au cs).1 0) from if_pos h0]
 simp only[dz]
 repeat first|with_reducible refine ay ?_|simp only[ne_eq,not_true_eq_false,decide_true,Bool.not_true,go_sem,simprocAttr]
 refine ct [] (fargs:=[dz cs r,.fs 5 (au cs).1.len (au cs).1.cell,.f 38 [dz cs r] [],.n .i64 0]) (aV.same rfl) hw ⟨x,?_,hlk⟩ ?_ ?_
 ·simp only[go_sem,simprocAttr]
  exact(lW rfl).trans hx
 ·simp only[go_sem,simprocAttr]
 rintro rs N2 ⟨rfl,rfl⟩ _
 repeat first|with_reducible refine ay ?_|simp only[go_sem,simprocAttr]
 refine ae [] (fargs:=[.n .i64 (bk cs li (au cs).1 0)]) (aV.same rfl) (ik _) ?_ ?_
 ·simp only[go_sem,simprocAttr]
 repeat first|with_reducible refine ay ?_|simp only[go_sem,simprocAttr]
 exact⟨[_,_],rfl,⟨rfl,rfl⟩,⟨rfl,rfl⟩,trivial⟩
def ic(la:List (Bool×Int))(loc:Int)(cs:List (Int×Int))(li:List cE):Fo:=if ck la loc cs li=0 then(au cs).1 else .nil
theorem sf{li:List cE}{k:Nat}(hk:k<li.length):(li.map λx=>x.1).getD k 0=(li.getD k cn).1:=by
 simp[List.getD_eq_getElem?_getD,List.getElem?_eq_getElem hk]
theorem lN{la:List (Bool×Int)}{loc:Int}{cs:List (Int×Int)}{li:List cE}{H:AH}{e:Int}(h:ck la loc cs li=e)(h0:e≠0):∃l,aZ [.sl0,.n .i64 e]=aZ l/\gQ [.o 106 5 (ic la loc cs li).len 0 (ic la loc cs li).cell,.v (.n .i64 (ck la loc cs li))] l H:=by
 rw[show ic la loc cs li= .nil from if_neg (by rw[h];exact h0),h]
 exact⟨[_,_],rfl,.inl ⟨rfl,rfl⟩,rfl,⟨rfl,rfl⟩,trivial⟩
theorem i9(la:List (Bool×Int))(loc:Int)(cs:List (Int×Int))(hl:la.length<=9223372036854775807)(hc:cs.length<=9223372036854775807)(ha:dU cs)(s e h:Int)(li:List cE)(hli:li.length<=60):
  cg Tryz.prog 35 [aL la loc cs,bL s e h li] [.o 106 5 (ic la loc cs li).len 0 (ic la loc cs li).cell,.v (.n .i64 (ck la loc cs li))]:=by
 refine az am ri ⟨by simp,by decide⟩ ?_
 simp only[aQ,aL,bL]
 repeat first|with_reducible refine ay ?_|simp only[go_sem,simprocAttr]
 refine ae [] (fargs:=[aL la loc cs]) (aV.same rfl) (kh la loc cs hl hc ha) ?_ ?_
 ·simp only[go_sem,simprocAttr]
 by_cases h1:(dY la loc cs).2=0
 rotate_left
 ·repeat first|with_reducible refine ay ?_|simp only[h1,ne_eq,not_false_eq_true,decide_true,decide_false,Bool.not_false,go_sem,simprocAttr]
  exact lN (if_neg h1) h1
 have hO:ck la loc cs li=ir (bN cs) li:=if_pos h1
 obtain⟨hp,hcs⟩:=nj h1
 repeat first|with_reducible refine ay ?_|simp only[h1,ne_eq,not_true_eq_false,decide_true,decide_false,Bool.not_true,go_sem,simprocAttr]
 refine ae [] (fargs:=[.fs 2 cs.length (pI cs)]) (aV.same rfl) (mA cs (by omega)) ?_ ?_
 ·simp only[go_sem,simprocAttr]
 rw[hp]
 have hlen:(bN cs).length<=1024:=by
  rw[bN,if_pos hp]
  exact Nat.le_trans (dg cs _) hcs
 generalize hls:bN cs=ls at hO hlen ⊢
 by_cases h2:ls.length=li.length
 rotate_left
 ·have h2':¬(ls.length:Int)=li.length:=by omega
  repeat first|with_reducible refine ay ?_|simp only[h2',ne_eq,not_true_eq_false,not_false_eq_true,decide_true,decide_false,Bool.not_true,Bool.not_false,go_sem,simprocAttr]
  exact lN (hO.trans (lc ls li h2)) (by decide)
 have h2':(ls.length:Int)=li.length:=by omega
 repeat first|with_reducible refine ay ?_|simp only[h2',ne_eq,not_true_eq_false,decide_true,decide_false,Bool.not_true,go_sem,simprocAttr]
 refine GA.loop (I:=λm ev H=>∃(k:Nat),m=ls.length-k/\k<=ls.length/\(∀i,i<k->(li.getD i cn).1=ls.getD i 0)/\
   ev=aC [(2,.p 0 0),(3,.p 1 0),(8,.fs 1 ls.length (iC ls)),(10,.n .i64 k)]/\
   H=ag [aj 0 44 [.n .i64 s,.n .i64 e,.n .i64 h,.fs 3 li.length (vI li)],aj 0 25 [.fs 2 la.length (pA la),.n .i64 loc,.fs 2 cs.length (pI cs)]])
  (Wk.mk [1,0] [2] ?_ ?_ ?_) ⟨0,rfl,Nat.zero_le _,λi hi=>absurd hi (Nat.not_lt_zero _),rfl,rfl⟩ ?_
 ·simp only[aK,aJ,go_sem,simprocAttr]
  repeat' refine af ?_ ?_
  all_goals first|exact aR|skip
  exact .cv (.os (x:=ah 3 1 ls.length 0 (iC ls)) (by simp) (by simp only[go_sem,simprocAttr]) (Nat.le_refl _) (λi j _ hj=>aE i j hj) (λi j _ _=>rfl))
 ·exact .cons rfl (.lstj (x:=_) (by simp only[go_sem,simprocAttr]<;>rfl) (by rfl) (by rfl) (by rfl) (by rfl) (by rfl) (by rfl) (by simp) (λi hi=>by rcases pj hi with rfl|rfl|rfl|rfl<;>(simp only[go_sem,simprocAttr];exact Wv.same rfl))) (.cons rfl (.lstj (x:=_) (by simp only[go_sem,simprocAttr]<;>rfl) (by rfl) (by rfl) (by rfl) (by rfl) (by rfl) (by rfl) (by simp) (λi hi=>by rcases bh hi with rfl|rfl|rfl<;>(simp only[go_sem,simprocAttr];exact Wv.same rfl))) .nil)
 ·simp
 rintro m ev H ⟨k,rfl,hk,hs,rfl,rfl⟩
 have h0:(0:Int)<=(k:Int):=by omega
 by_cases hkl:k<ls.length
 ·have hk1:(k:Int)<li.length:=by omega
  have hk2:(k:Int)<ls.length:=by omega
  have hkl':k<li.length:=by omega
  have wk:IntKind.i64.wrap ((k:Int)+1)=((k+1:Nat):Int):=(ao (by omega)).trans (by omega)
  by_cases h3:(li.getD k cn).1=ls.getD k 0
  ·repeat first|with_reducible refine ay ?_|simp only[h0,hk1,hk2,qG,Jw,h3,wk,ne_eq,not_true_eq_false,decide_true,decide_false,Bool.not_true,go_sem,simprocAttr]
   refine⟨_,_,_,?_,Wk.mk [1,0] [] ?_ ?_ ?_,k+1,rfl,by omega,λi hi=>?_,rfl,rfl⟩
   ·omega
   ·simp only[aK,aJ,go_sem,simprocAttr]
    repeat' refine af ?_ ?_
    all_goals first|exact aR|skip
   ·exact .cons rfl .ls (.cons rfl .ls .nil)
   ·simp
   ·by_cases e2:i=k
    ·rw[e2];exact h3
    ·exact hs i (by omega)
  ·have hE:ir ls li=23:=if_neg λq=>h3 (by rw[<-sf hkl',q.2])
   repeat first|with_reducible refine ay ?_|simp only[h0,hk1,hk2,qG,Jw,h3,ne_eq,not_false_eq_true,decide_true,decide_false,Bool.not_false,go_sem,simprocAttr]
   exact lN (hO.trans hE) (by decide)
 have hk':¬(k:Int)<ls.length:=by omega
 obtain rfl:k=ls.length:=by omega
 have hmap:(li.map λx=>x.1)=ls:=by
  refine List.ext_getElem (by simp[h2]) λi h5 h6=>?_
  have h5':i<li.length:=by simpa using h5
  have:=hs i h6
  rw[List.getD_eq_getElem?_getD,List.getD_eq_getElem?_getD,List.getElem?_eq_getElem h5',List.getElem?_eq_getElem h6] at this
  simpa using this
 repeat first|with_reducible refine ay ?_|simp only[hk',decide_false,go_sem,simprocAttr]
 refine GA.loop (I:=λm ev H=>∃(k:Nat),m=ls.length-k/\k<=ls.length/\(∀i,i<k->0<=(li.getD i cn).2.1/\(li.getD i cn).2.1<=65536)/\
   ev=aC [(2,.p 0 0),(3,.p 1 0),(8,.fs 1 ls.length (iC ls)),(11,.n .i64 k)]/\
   H=ag [aj 0 44 [.n .i64 s,.n .i64 e,.n .i64 h,.fs 3 li.length (vI li)],aj 0 25 [.fs 2 la.length (pA la),.n .i64 loc,.fs 2 cs.length (pI cs)]])
  (Wk.mk [1,0] [] ?_ ?_ ?_) ⟨0,rfl,Nat.zero_le _,λi hi=>absurd hi (Nat.not_lt_zero _),rfl,rfl⟩ ?_
 ·simp only[aK,aJ,go_sem,simprocAttr]
  repeat' refine af ?_ ?_
  all_goals first|exact aR|skip
 ·exact .cons rfl .ls (.cons rfl .ls .nil)
 ·simp
 rintro m ev H ⟨k,rfl,hk,hs2,rfl,rfl⟩
 have h0:(0:Int)<=(k:Int):=by omega
 by_cases hkl:k<ls.length
 ·have hk1:(k:Int)<li.length:=by omega
  have hk2:(k:Int)<ls.length:=by omega
  have hkl':k<li.length:=by omega
  have wk:IntKind.i64.wrap ((k:Int)+1)=((k+1:Nat):Int):=(ao (by omega)).trans (by omega)
  have hin:li.getD k cn ∈ li:=by
   rw[List.getD_eq_getElem?_getD,List.getElem?_eq_getElem hkl']
   exact List.getElem_mem hkl'
  have hE:¬(0<=(li.getD k cn).2.1/\(li.getD k cn).2.1<=65536)->ir ls li=2:=λhn=>(if_pos ⟨h2,hmap⟩).trans (if_neg λq=>hn (q _ hin))
  by_cases q1:(li.getD k cn).2.1<0
  ·repeat first|with_reducible refine ay ?_|simp only[h0,hk1,hk2,zN,q1,gt_iff_lt,decide_true,decide_false,go_sem,simprocAttr]
   exact lN (hO.trans (hE (by omega))) (by decide)
  by_cases q2:65536<(li.getD k cn).2.1
  ·repeat first|with_reducible refine ay ?_|simp only[h0,hk1,hk2,zN,q1,q2,gt_iff_lt,decide_true,decide_false,go_sem,simprocAttr]
   exact lN (hO.trans (hE (by omega))) (by decide)
  repeat first|with_reducible refine ay ?_|simp only[h0,hk1,hk2,zN,q1,q2,wk,gt_iff_lt,decide_true,decide_false,go_sem,simprocAttr]
  refine⟨_,_,_,?_,Wk.mk [1,0] [] ?_ ?_ ?_,k+1,rfl,by omega,λi hi=>?_,rfl,rfl⟩
  ·omega
  ·simp only[aK,aJ,go_sem,simprocAttr]
   repeat' refine af ?_ ?_
   all_goals first|exact aR|skip
  ·exact .cons rfl .ls (.cons rfl .ls .nil)
  ·simp
  ·by_cases e2:i=k
   ·rw[e2];omega
   ·exact hs2 i (by omega)
 have hk':¬(k:Int)<ls.length:=by omega
 obtain rfl:k=ls.length:=by omega
 have hin:zY li:=λx hx=>by
  obtain⟨i,hi,rfl⟩:=List.mem_iff_getElem.1 hx
  have:=hs2 i (by omega)
  rw[List.getD_eq_getElem?_getD,List.getElem?_eq_getElem hi] at this
  exact this
 have hE:ir ls li=0:=(if_pos ⟨h2,hmap⟩).trans (if_pos hin)
 rw[show ic la loc cs li=(au cs).1 from if_pos (hO.trans hE),hO.trans hE]
 repeat first|with_reducible refine ay ?_|simp only[hk',decide_false,go_sem,simprocAttr]
 refine ae [] (fargs:=[.fs 2 cs.length (pI cs)]) (aV.same rfl) (i6 cs (by omega)) ?_ ?_
 ·simp only[go_sem,simprocAttr]
 repeat first|with_reducible refine ay ?_|simp only[go_sem,simprocAttr]
 exact⟨[_,_],rfl,.inr ⟨_,rfl,by simp,_,by simp only[go_sem,simprocAttr]<;>rfl,rfl,rfl,by decide,rfl,Nat.le_refl _,Nat.le_refl _,λi j _ hj=>aE i j hj,λi j hi _=>Fo.cell_ok _ i j hi⟩,rfl,⟨rfl,rfl⟩,trivial⟩
theorem mC(la:List (Bool×Int))(loc:Int)(cs:List (Int×Int))(hl:la.length<=9223372036854775807)(hc:cs.length<=9223372036854775807)(ha:dU cs)(s e h:Int)(li:List cE)(hli:li.length<=60):
  cg Tryz.prog 17 [aL la loc cs,bL s e h li] [.v (.n .i64 (eZ la loc cs li).1),.v (.n .i64 (eZ la loc cs li).2)]:=by
 refine az am yb ⟨by simp,by decide⟩ ?_
 simp only[aQ,aL,bL]
 repeat first|with_reducible refine ay ?_|simp only[go_sem,simprocAttr]
 refine ae [] (fargs:=[aL la loc cs,bL s e h li]) (aV.same rfl) (i9 la loc cs hl hc ha s e h li hli) ?_ ?_
 ·simp only[go_sem,simprocAttr]
 by_cases h0:ck la loc cs li=0
 rotate_left
 ·rw[show eZ la loc cs li=(0,ck la loc cs li) from if_neg h0]
  repeat first|with_reducible refine ay ?_|simp only[h0,ne_eq,not_false_eq_true,decide_false,Bool.not_false,go_sem,simprocAttr]
  exact⟨[_,_],rfl,⟨rfl,rfl⟩,⟨rfl,rfl⟩,trivial⟩
 obtain⟨out,hg,hcs,hin,_⟩:=iG h0
 have hm:=fj hin
 have hok:=hg.oke (Nat.le_refl _)
 have hsz:=hg.size
 have hw:kK s e h li (au cs).1:=i5 s e h li hli hm _ (au cs).1 (Nat.lt_succ_self _) (by omega) (hok.okf (by omega))
 rw[show eZ la loc cs li=gM (aX li (au cs).1 0) from if_pos h0,show ic la loc cs li=(au cs).1 from if_pos h0]
 repeat first|with_reducible refine ay ?_|simp only[h0,ne_eq,not_true_eq_false,decide_true,Bool.not_true,go_sem,simprocAttr]
 refine ae [2] (fargs:=[.fs 5 (au cs).1.len (au cs).1.cell,bL s e h li]) (.cons (.os (x:=ah 106 5 (au cs).1.len 0 (au cs).1.cell) (by simp) (by simp only[go_sem,simprocAttr]) (Nat.le_refl _) (λi j _ hj=>aE i j hj) (λi j hi _=>Fo.cell_ok _ i j hi)) (.cons (.rfl (by rfl)) .nil)) hw ?_ ?_
 ·simp only[go_sem,simprocAttr]
 repeat first|with_reducible refine ay ?_|simp only[go_sem,simprocAttr]
 refine ae [] (fargs:=[.n .i64 (aX li (au cs).1 0)]) (aV.same rfl) (gh _) ?_ ?_
 ·simp only[go_sem,simprocAttr]
 repeat first|with_reducible refine ay ?_|simp only[go_sem,simprocAttr]
 exact⟨[_,_],rfl,⟨rfl,rfl⟩,⟨rfl,rfl⟩,trivial⟩
theorem mD(la:List (Bool×Int))(loc:Int)(cs:List (Int×Int))(hl:la.length<=9223372036854775807)(hc:cs.length<=9223372036854775807)(ha:dU cs)(s e h:Int)(li:List cE)(hli:li.length<=60):
  cg Tryz.prog 19 [aL la loc cs,bL s e h li] [.v (.n .i64 (fu la loc cs li).1),.v (.n .i64 (fu la loc cs li).2)]:=by
 refine az am x9 ⟨by simp,by decide⟩ ?_
 simp only[aQ,aL,bL]
 repeat first|with_reducible refine ay ?_|simp only[go_sem,simprocAttr]
 refine ae [] (fargs:=[aL la loc cs,bL s e h li]) (aV.same rfl) (i9 la loc cs hl hc ha s e h li hli) ?_ ?_
 ·simp only[go_sem,simprocAttr]
 by_cases h0:ck la loc cs li=0
 rotate_left
 ·rw[show fu la loc cs li=(0,ck la loc cs li) from if_neg h0]
  repeat first|with_reducible refine ay ?_|simp only[h0,ne_eq,not_false_eq_true,decide_false,Bool.not_false,go_sem,simprocAttr]
  exact⟨[_,_],rfl,⟨rfl,rfl⟩,⟨rfl,rfl⟩,trivial⟩
 obtain⟨out,hg,hcs,hin,_⟩:=iG h0
 have hm:=fj hin
 have hok:=hg.oke (Nat.le_refl _)
 have hsz:=hg.size
 have hw:kO cs s e h li (au cs).1:=i7 cs (by omega) s e h li hli hm _ (au cs).1 (Nat.lt_succ_self _) (by omega) hok
 rw[show fu la loc cs li=gM (bk cs li (au cs).1 0) from if_pos h0,show ic la loc cs li=(au cs).1 from if_pos h0]
 repeat first|with_reducible refine ay ?_|simp only[h0,ne_eq,not_true_eq_false,decide_true,Bool.not_true,go_sem,simprocAttr]
 refine ae [2] (fargs:=[.fs 5 (au cs).1.len (au cs).1.cell,.fs 2 cs.length (pI cs),bL s e h li]) (.cons (.os (x:=ah 106 5 (au cs).1.len 0 (au cs).1.cell) (by simp) (by simp only[go_sem,simprocAttr]) (Nat.le_refl _) (λi j _ hj=>aE i j hj) (λi j hi _=>Fo.cell_ok _ i j hi)) (.cons (.rfl (by rfl)) (.cons (.rfl (by rfl)) .nil))) hw ?_ ?_
 ·simp only[go_sem,simprocAttr]
 repeat first|with_reducible refine ay ?_|simp only[go_sem,simprocAttr]
 refine ae [] (fargs:=[.n .i64 (bk cs li (au cs).1 0)]) (aV.same rfl) (gh _) ?_ ?_
 ·simp only[go_sem,simprocAttr]
 repeat first|with_reducible refine ay ?_|simp only[go_sem,simprocAttr]
 exact⟨[_,_],rfl,⟨rfl,rfl⟩,⟨rfl,rfl⟩,trivial⟩
theorem mY(la:List (Bool×Int))(loc:Int)(cs:List (Int×Int))(s e h:Int)(li:List cE)(hli:li.length<=9223372036854775807):cg Tryz.prog 15 [aL la loc cs,bL s e h li] [.v (.b (iA la cs&&(mZ li 0&&decide (li.length<=60))))]:=by
 refine az am yc ⟨by simp,by decide⟩ ?_
 simp only[aQ,aL,bL]
 repeat first|with_reducible refine ay ?_|simp only[go_sem,simprocAttr]
 refine ae [] (fargs:=[aL la loc cs]) (aV.same rfl) (xD la loc cs) ?_ ?_
 ·simp only[go_sem,simprocAttr]
 cases hF:iA la cs
 ·repeat first|with_reducible refine ay ?_|simp only[hF,go_sem,simprocAttr]
  exact ai rfl rfl
 repeat first|with_reducible refine ay ?_|simp only[hF,go_sem,simprocAttr]
 refine ae [] (fargs:=[bL s e h li]) (aV.same rfl) (oO s e h li hli) ?_ ?_
 ·simp only[go_sem,simprocAttr]
 repeat first|with_reducible refine ay ?_|simp only[hF,go_sem,simprocAttr]
 exact ai rfl rfl
theorem jp(la:List (Bool×Int))(loc:Int)(cs:List (Int×Int))(hl:la.length<=9223372036854775807)(hc:cs.length<=9223372036854775807)(ha:dU cs)(s e h:Int)(li:List cE)(hli:li.length<=9223372036854775807):cg Tryz.prog 6 [aL la loc cs,bL s e h li] [.v (.b true)]:=by
 refine az am ye ⟨by simp,by decide⟩ ?_
 simp only[aQ,aL,bL]
 repeat first|with_reducible refine ay ?_|simp only[go_sem,simprocAttr]
 refine ae [] (fargs:=[aL la loc cs,bL s e h li]) (aV.same rfl) (mY la loc cs s e h li hli) ?_ ?_
 ·simp only[go_sem,simprocAttr]
 cases hF:(iA la cs&&(mZ li 0&&decide (li.length<=60)))
 ·repeat first|with_reducible refine ay ?_|simp only[hF,go_sem,simprocAttr]
  refine ae [] (fargs:=[]) (aV.same rfl) il ?_ ?_
  ·simp only[go_sem,simprocAttr]
  repeat first|with_reducible refine ay ?_|simp only[go_sem,simprocAttr]
  exact ai rfl rfl
 have hl60:li.length<=60:=by
  simp only[Bool.and_eq_true,decide_eq_true_eq] at hF
  exact hF.2.2
 repeat first|with_reducible refine ay ?_|simp only[hF,go_sem,simprocAttr]
 refine ae [] (fargs:=[aL la loc cs,bL s e h li]) (aV.same rfl) (nf la loc cs hl hc ha s e h li hl60) ?_ ?_
 ·simp only[go_sem,simprocAttr]
 repeat first|with_reducible refine ay ?_|simp only[go_sem,simprocAttr]
 refine ae [] (fargs:=[aL la loc cs,bL s e h li]) (aV.same rfl) (mC la loc cs hl hc ha s e h li hl60) ?_ ?_
 ·simp only[go_sem,simprocAttr]
 repeat first|with_reducible refine ay ?_|simp only[go_sem,simprocAttr]
 refine ae [] (fargs:=[aL la loc cs,bL s e h li]) (aV.same rfl) (nk la loc cs hl hc ha s e h li hl60) ?_ ?_
 ·simp only[go_sem,simprocAttr]
 repeat first|with_reducible refine ay ?_|simp only[go_sem,simprocAttr]
 refine ae [] (fargs:=[aL la loc cs,bL s e h li]) (aV.same rfl) (mD la loc cs hl hc ha s e h li hl60) ?_ ?_
 ·simp only[go_sem,simprocAttr]
 repeat first|with_reducible refine ay ?_|simp only[decide_true,go_sem,simprocAttr]
 refine ae [] (fargs:=[]) (aV.same rfl) il ?_ ?_
 ·simp only[go_sem,simprocAttr]
 repeat first|with_reducible refine ay ?_|simp only[go_sem,simprocAttr]
 exact ai rfl rfl
end Go.Proofs.YthehakngpbjgjaaGreat