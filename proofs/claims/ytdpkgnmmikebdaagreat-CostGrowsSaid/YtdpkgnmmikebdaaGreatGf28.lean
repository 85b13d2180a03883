/- A part of the proof of CostGrows: CbG VfD VfE VfF VfG VfH CbH CbI. No condition. -/
import Derived.Test.YtdpkgnmmikebdaaGreatGf27
import Derived.Test.YtdpkgnmmikebdaaGreatGf26
import Derived.Test.YtdpkgnmmikebdaaGreatGf22
import Derived.Test.YtdpkgnmmikebdaaGreatGf16
import Derived.Test.YtdpkgnmmikebdaaGreatGf20
import Derived.Test.YtdpkgnmmikebdaaGreatGf17
set_option linter.unusedSimpArgs false
set_option linter.unusedVariables false
set_option linter.constructorNameAsVariable false
set_option maxRecDepth 100000
set_option maxHeartbeats 4000000
namespace Go.Proofs.YtdpkgnmmikebdaaGreat
open Go.RowKit
def Az(C:Nat->Nat->Prop):Fo->Prop
 |.nil=>True
 |.pl x y r=>C x y/\Az C r
 |.br op x y u v r=>(op=27\/op=29)/\Az C u/\Az C v/\Az C r
def AA(li:List ep)(r:Nat)(M:Nat->Option OB):Prop:=∃x,M r=some (.mp x)/\∀a,x.look false (.n .i64 0) a= .n .i64 (aZ li a)
def Kp(cs:List (Int×Int))(r:Nat)(g:FuncId)(pl:Nat->Nat->Int)(x y:Nat):Prop:=bM Tryz.prog g [eN cs r,.n .i64 x,.n .i64 y] [.v (.n .i64 (pl x y))]/\0<=pl x y/\pl x y<=100000
def rS(cs:List (Int×Int))(r:Nat)(li:List ep)(g:FuncId)(pl:Nat->Nat->Int)(own:Int)(o:Fo):Prop:=
 wZ Tryz.prog 35 [eN cs r,.fs 5 o.len o.cell,.f g [eN cs r] [],.n .i64 own] (AA li r) (λM rs N=>rs=[.v (.n .i64 (bJ li pl own o 0))]/\N=λ_=>none)
theorem Wz{P:List RT->(Nat->Option OB)->Prop}{v:AV}{H:AH}(h:P [.v v] (λ_=>none))(hp:v.pu 3=true):∃(rs:List RT) (N:Nat->Option OB) (l:List AV),P rs N/\v=a9 l/\ku rs l H/\∀r x,N r=some x->H.ob r=some x/\x5 x=true:=
 ⟨_,_,[v],h,rfl,⟨⟨rfl,hp⟩,trivial⟩,λr x hx=>by cases hx⟩
theorem gY{C:Nat->Nat->Prop}{li:List ep}{pl:Nat->Nat->Int}{own:Int}(hown:0<=own/\own<=1)(hC:∀x y,C x y->0<=pl x y/\pl x y<=100000)(hm:∀a,0<=aZ li a):∀(o:Fo) (n:Int),Az C o->0<=n/\n<=281474976710657->0<=bJ li pl own o n/\bJ li pl own o n<=281474976710657
 |.nil,n,_,h=>h
 |.pl x y r,n,ho,h=>gY hown hC hm r _ ho.2 (aC (by have:=hC x y ho.1;omega))
 |.br op x y u v r,n,ho,h=>by
  have hu:=gY hown hC hm u 0 ho.2.1 (by omega)
  have hv:=gY hown hC hm v 0 ho.2.2.1 (by omega)
  refine gY hown hC hm r _ ho.2.2.2 (aC ?_)
  split
  ·have:=aC (n:=own+(if bJ li pl own u 0<bJ li pl own v 0 then bJ li pl own v 0 else bJ li pl own u 0)) (by split<;>omega)
   omega
  ·have h1:=(bz (aC (n:=own+bJ li pl own u 0) (by omega)).1 (hm x)).1
   have:=aC (n:=own+aU (bk (own+bJ li pl own u 0)) (aZ li x)) (by omega)
   omega
theorem uW(cs:List (Int×Int))(r:Nat)(li:List ep)(g:FuncId)(pl:Nat->Nat->Int)(own:Int)(hown:0<=own/\own<=1)(hm:∀a,0<=aZ li a/\aZ li a<=65536)(o:Fo)(ho:Az (Kp cs r g pl) o)(hlen:o.len<=100000)(ih:∀u:Fo,u.size<o.size->Az (Kp cs r g pl) u->rS cs r li g pl own u):rS cs r li g pl own o:=by
 refine lR aD N0 ⟨by simp,by decide⟩ λM hM=>?_
 obtain⟨y,hob,hlook⟩:∃y,lG M r=some (.mp y)/\∀a,y.look false (.n .i64 0) a= .n .i64 (aZ li a):=by
  obtain⟨x0,hx0,hlook⟩:=hM
  exact⟨_,Cd hx0,hlook⟩
 have hW:∀u:Fo,Az (Kp cs r g pl) u->0<=bJ li pl own u 0/\bJ li pl own u 0<=281474976710657:=λu hu=>gY hown (λx y h=>h.2) (λa=>(hm a).1) u 0 hu (by omega)
 have hMap:AA li r (lG M):=⟨y,hob,hlook⟩
 clear hM
 simp only[aE,eN]
 repeat first|with_reducible refine aq ?_|simp only[go_sem,simprocAttr]
 refine GA.loop (I:=λm ev H=>∃(rest:Fo) (k:Nat) (n:Int),m=rest.size/\k+rest.len=o.len/\bJ li pl own o 0=bJ li pl own rest n/\(0<=n/\n<=281474976710657)/\Az (Kp cs r g pl) rest/\(∀i j,i<rest.len->rest.cell i j=o.cell (k+i) j)/\rest.size<=o.size/\ev=az [(2,.f g [.agg [.fs 2 cs.length (pI cs),.cv (.map (some r))]] []),(3,.n .i64 own),(4,.p 0 0),(9,.n .i64 n),(13,.fs 5 o.len o.cell),(14,.n .i64 o.len),(15,.n .i64 k)]/\H=aw (lG M) [ae 0 88 [.fs 2 cs.length (pI cs),.cv (.map (some r))]]) (Wk.mkS [0] [] ?_ ?_ ?_) ⟨o,0,0,rfl,by omega,rfl,by omega,ho,λi j _=>by rw[Nat.zero_add],Nat.le_refl _,rfl,rfl⟩ ?_
 ·exact a8
 ·exact .cr (.j2) .nil
 ·simp
 rintro m ev H ⟨rest,k,n,rfl,hkl,hs,hn,hok,hc,hsz,rfl,rfl⟩
 have h0:(0:Int)<=(k:Int):=by omega
 cases rest with
 |nil=>
  have hk:¬(k:Int)<o.len:=by simp[Fo.len] at hkl;omega
  repeat first|with_reducible refine aq ?_|simp only[hk,decide_false,go_sem,simprocAttr]
  exact Wz (P:=λrs N=>rs=_/\N=λ_=>none) ⟨by rw[hs];rfl,rfl⟩ rfl
 |pl x y r'=>
  obtain⟨g1,g3⟩:=hok
  simp only[Fo.len] at hkl hc
  have hk:(k:Int)<o.len:=by omega
  have d0:o.cell k 0= .n .i64 (-1):=(hc 0 0 (by omega)).symm
  have d1:o.cell k 1= .n .i64 x:=(hc 0 1 (by omega)).symm
  have d2:o.cell k 2= .n .i64 y:=(hc 0 2 (by omega)).symm
  have d3:o.cell k 3= .sl0:=(hc 0 3 (by omega)).symm
  have d4:o.cell k 4= .sl0:=(hc 0 4 (by omega)).symm
  have wk:IntKind.i64.wrap ((k:Int)+1)=((k+1:Nat):Int):=(aj (by omega)).trans (by omega)
  obtain⟨g1,g2⟩:=g1
  repeat first|with_reducible refine aq ?_|simp only[h0,hk,d0,d1,d2,d3,d4,decide_true,decide_false,go_sem,simprocAttr]
  refine bS ([eN cs r,.n .i64 x,.n .i64 y]) g1 ?_
  repeat first|with_reducible refine aq ?_|simp only[go_sem,simprocAttr]
  refine bS ([.n .i64 n,.n .i64 (pl x y)]) (fM n (pl x y) (by omega) (by omega)) ?_
  repeat first|with_reducible refine aq ?_|simp only[wk,go_sem,simprocAttr]
  refine⟨_,_,_,?_,Wk.mkS [0] [] ?_ ?_ ?_,r',k+1,bk (n+pl x y),rfl,by omega,hs,aC (by omega),g3,λi j hi=>?_,by simp only[Fo.size] at hsz;omega,rfl,rfl⟩
  ·simp only[Fo.size];omega
  ·exact a8
  ·exact .cr .ls .nil
  ·simp
  ·have:=hc (i+1) j (by omega)
   rw[show k+1+i=k+(i+1) by omega]
   exact this
 |br op x y u v r'=>
  obtain⟨hop,gu,gv,gr⟩:=hok
  simp only[Fo.len] at hkl hc
  have hk:(k:Int)<o.len:=by omega
  have d0:o.cell k 0= .n .i64 op:=(hc 0 0 (by omega)).symm
  have d1:o.cell k 1= .n .i64 x:=(hc 0 1 (by omega)).symm
  have d2:o.cell k 2= .n .i64 y:=(hc 0 2 (by omega)).symm
  have d3:o.cell k 3= .fs 5 u.len u.cell:=(hc 0 3 (by omega)).symm
  have d4:o.cell k 4= .fs 5 v.len v.cell:=(hc 0 4 (by omega)).symm
  have wk:IntKind.i64.wrap ((k:Int)+1)=((k+1:Nat):Int):=(aj (by omega)).trans (by omega)
  have hsu:u.size<o.size:=by simp only[Fo.size] at hsz;omega
  have hsv:v.size<o.size:=by simp only[Fo.size] at hsz;omega
  have Bu:=hW u gu
  have Bv:=hW v gv
  have hc':∀i j,i<r'.len->r'.cell i j=o.cell (k+1+i) j:=λi j hi=>by
   have:=hc (i+1) j (by omega)
   rw[show k+1+i=k+(i+1) by omega]
   exact this
  rcases hop with rfl|rfl
  ·obtain⟨X,hX⟩:∃X,X=(if bJ li pl own u 0<bJ li pl own v 0 then bJ li pl own v 0 else bJ li pl own u 0):=⟨_,rfl⟩
   have BX:0<=X/\X<=281474976710657:=by rw[hX];split<;>omega
   obtain⟨S,hS⟩:∃S,S=bk (own+X):=⟨_,rfl⟩
   have BS:0<=S/\S<=281474976710657:=by rw[hS];exact aC (by omega)
   rw[bJ,if_pos rfl,<-hX,<-hS] at hs
   repeat first|with_reducible refine aq ?_|simp only[h0,hk,d0,d1,d2,d3,d4,decide_true,go_sem,simprocAttr]
   refine cn [] (fargs:=[eN cs r,.fs 5 u.len u.cell,.f g [eN cs r] [],.n .i64 own]) (ck.same rfl) (ih u hsu gu) ?_ ?_ ?_
   ·simp only[go_sem,simprocAttr];exact hMap
   ·simp only[go_sem,simprocAttr]
   rintro rs N ⟨rfl,rfl⟩ _
   repeat first|with_reducible refine aq ?_|simp only[go_sem,simprocAttr]
   refine cn [] (fargs:=[eN cs r,.fs 5 v.len v.cell,.f g [eN cs r] [],.n .i64 own]) (ck.same rfl) (ih v hsv gv) ?_ ?_ ?_
   ·simp only[go_sem,simprocAttr];exact hMap
   ·simp only[go_sem,simprocAttr]
   rintro rs N ⟨rfl,rfl⟩ _
   repeat first|with_reducible refine aq ?_|simp only[go_sem,simprocAttr]
   rw[<-hX]
   refine bS ([.n .i64 own,.n .i64 X]) (fM own X (by omega) (by omega)) ?_
   rw[<-hS]
   repeat first|with_reducible refine aq ?_|simp only[go_sem,simprocAttr]
   refine bS ([.n .i64 n,.n .i64 S]) (fM n S (by omega) (by omega)) ?_
   repeat first|with_reducible refine aq ?_|simp only[wk,go_sem,simprocAttr]
   refine⟨_,_,_,?_,Wk.mkS [0] [] ?_ ?_ ?_,r',k+1,bk (n+S),rfl,by omega,hs,aC (by omega),gr,hc',by simp only[Fo.size] at hsz;omega,rfl,rfl⟩
   ·simp only[Fo.size];omega
   ·exact a8
   ·exact .cr .ls .nil
   ·simp
  ·obtain⟨S,hS⟩:∃S,S=bk (own+bJ li pl own u 0):=⟨_,rfl⟩
   have BS:0<=S/\S<=281474976710657:=by rw[hS];exact aC (by omega)
   obtain⟨T,hT⟩:∃T,T=aU S (aZ li x):=⟨_,rfl⟩
   have BT:0<=T/\T<=281474976710657:=by rw[hT];exact bz BS.1 (hm x).1
   obtain⟨Z,hZ⟩:∃Z,Z=bk (own+T):=⟨_,rfl⟩
   have BZ:0<=Z/\Z<=281474976710657:=by rw[hZ];exact aC (by omega)
   rw[bJ,if_neg (by decide),<-hS,<-hT,<-hZ] at hs
   repeat first|with_reducible refine aq ?_|simp only[h0,hk,d0,d1,d2,d3,d4,decide_true,decide_false,go_sem,simprocAttr]
   refine GA.mxlm aD 2 (by simp only[go_sem,simprocAttr]) ?_
   simp only[hob,hlook,go_sem,simprocAttr]
   refine cn [] (fargs:=[eN cs r,.fs 5 u.len u.cell,.f g [eN cs r] [],.n .i64 own]) (ck.same rfl) (ih u hsu gu) ?_ ?_ ?_
   ·simp only[go_sem,simprocAttr];exact hMap
   ·simp only[go_sem,simprocAttr]
   rintro rs N ⟨rfl,rfl⟩ _
   repeat first|with_reducible refine aq ?_|simp only[go_sem,simprocAttr]
   refine bS ([.n .i64 own,.n .i64 (bJ li pl own u 0)]) (fM own _ (by omega) (by omega)) ?_
   rw[<-hS]
   repeat first|with_reducible refine aq ?_|simp only[go_sem,simprocAttr]
   refine bS ([.n .i64 S,.n .i64 (aZ li x)]) (nV S (aZ li x) BS (hm x)) ?_
   rw[<-hT]
   repeat first|with_reducible refine aq ?_|simp only[go_sem,simprocAttr]
   refine bS ([.n .i64 own,.n .i64 T]) (fM own T (by omega) (by omega)) ?_
   rw[<-hZ]
   repeat first|with_reducible refine aq ?_|simp only[go_sem,simprocAttr]
   refine bS ([.n .i64 n,.n .i64 Z]) (fM n Z (by omega) (by omega)) ?_
   repeat first|with_reducible refine aq ?_|simp only[wk,go_sem,simprocAttr]
   refine⟨_,_,_,?_,Wk.mkS [0] [] ?_ ?_ ?_,r',k+1,bk (n+Z),rfl,by omega,hs,aC (by omega),gr,hc',by simp only[Fo.size] at hsz;omega,rfl,rfl⟩
   ·simp only[Fo.size];omega
   ·exact a8
   ·exact .cr .ls .nil
   ·simp
theorem lX(cs:List (Int×Int))(r:Nat)(li:List ep)(g:FuncId)(pl:Nat->Nat->Int)(own:Int)(hown:0<=own/\own<=1)(hm:∀a,0<=aZ li a/\aZ li a<=65536):∀(n:Nat) (o:Fo),o.size<n->o.size<=100000->Az (Kp cs r g pl) o->rS cs r li g pl own o
 |0,o,hn,_,_=>absurd hn (Nat.not_lt_zero _)
 |n+1,o,hn,hs,ho=>uW cs r li g pl own hown hm o ho (Nat.le_trans (Fo.len_le_size o) hs) λu hu gu=>lX cs r li g pl own hown hm n u (by omega) (by omega) gu
def iv(x:Iv):AV:= .agg [.n .i64 x.1,.n .i64 x.2]
theorem iX(x:Iv):bM Tryz.prog 128 [iv x] [.v (.n .i64 (wO x))]:=by
 refine ag aD Sy ⟨by simp,by decide⟩ ?_
 obtain⟨a,b⟩:=x
 simp only[aE,iv,wO]
 by_cases h1:a<0
 ·repeat first|with_reducible refine aq ?_|simp only[h1,gt_iff_lt,decide_true,decide_false,go_sem,simprocAttr]
  exact aa (by simp[h1]) rfl
 by_cases h2:4294967295<a
 ·repeat first|with_reducible refine aq ?_|simp only[h1,h2,gt_iff_lt,decide_true,decide_false,go_sem,simprocAttr]
  exact aa (by simp[h1,h2]) rfl
 by_cases h3:b<0
 ·repeat first|with_reducible refine aq ?_|simp only[h1,h2,h3,gt_iff_lt,decide_true,decide_false,go_sem,simprocAttr]
  exact aa (by simp[h1,h2,h3]) rfl
 by_cases h4:4294967295<b
 ·repeat first|with_reducible refine aq ?_|simp only[h1,h2,h3,h4,gt_iff_lt,decide_true,decide_false,go_sem,simprocAttr]
  exact aa (by simp[h1,h2,h3,h4]) rfl
 by_cases h5:b<a
 ·repeat first|with_reducible refine aq ?_|simp only[h1,h2,h3,h4,h5,gt_iff_lt,decide_true,decide_false,go_sem,simprocAttr]
  exact aa (by simp[h1,h2,h3,h4,h5]) rfl
 repeat first|with_reducible refine aq ?_|simp only[h1,h2,h3,h4,h5,gt_iff_lt,decide_true,decide_false,go_sem,simprocAttr]
 exact aa (by simp[h1,h2,h3,h4,h5]) rfl
theorem kH(x y:Iv):bM Tryz.prog 92 [iv x,iv y] [.v (.b (decide (cN x/\cN y)))]:=by
 refine ag aD SC ⟨by simp,by decide⟩ ?_
 simp only[aE,iv]
 repeat first|with_reducible refine aq ?_|simp only[go_sem,simprocAttr]
 refine bS ([iv x]) (iX x) ?_
 by_cases hx:wO x=0
 rotate_left
 ·repeat first|with_reducible refine aq ?_|simp only[hx,decide_false,go_sem,simprocAttr]
  exact aa (by rw[decide_eq_false (λh=>hx (i5.2 h.1))]) rfl
 repeat first|with_reducible refine aq ?_|simp only[hx,decide_true,go_sem,simprocAttr]
 refine bS ([iv y]) (iX y) ?_
 repeat first|with_reducible refine aq ?_|simp only[hx,decide_true,go_sem,simprocAttr]
 refine aa ?_ rfl
 congr 1
 by_cases hy:wO y=0
 ·rw[decide_eq_true hy,decide_eq_true ⟨i5.1 hx,i5.1 hy⟩]
 ·rw[decide_eq_false hy,decide_eq_false (λh=>hy (i5.2 h.2))]
theorem cm:bM Tryz.prog 63 [] [.v (iv (0,4294967295))]:=by
 refine ag aD Sb ⟨by simp,by decide⟩ ?_
 simp only[aE,iv]
 repeat first|with_reducible refine aq ?_|simp only[go_sem,simprocAttr]
 exact aa rfl rfl
theorem ft(n:Int)(h:0<=n/\n<=4294967295):bM Tryz.prog 54 [.n .u32 n] [.v (iv (n,n))]:=by
 refine ag aD RR ⟨by simp,by decide⟩ ?_
 simp only[aE,iv]
 have w:IntKind.i64.wrap n=n:=aj (by omega)
 repeat first|with_reducible refine aq ?_|simp only[w,go_sem,simprocAttr]
 exact aa rfl rfl
theorem mG(x y:Iv):bM Tryz.prog 62 [iv x,iv y] [.v (iv (fT x y))]:=by
 refine ag aD SI ⟨by simp,by decide⟩ ?_
 simp only[aE,iv]
 repeat first|with_reducible refine aq ?_|simp only[go_sem,simprocAttr]
 refine bS ([iv x,iv y]) (kH x y) ?_
 by_cases h:cN x/\cN y
 ·have hd:=decide_eq_true h
  rw[show fT x y=(ja x.1 y.1,aQ x.2 y.2) from if_pos h]
  repeat first|with_reducible refine aq ?_|simp only[hd,oB,gG,B2,sa,go_sem,simprocAttr]
  exact aa rfl rfl
 ·have hd:=decide_eq_false h
  rw[show fT x y=(0,0) from if_neg h]
  repeat first|with_reducible refine aq ?_|simp only[hd,go_sem,simprocAttr]
  exact aa rfl rfl
theorem pD(x y:Iv):bM Tryz.prog 172 [iv x,iv y] [.v (.b (dp x y))]:=by
 refine ag aD LM ⟨by simp,by decide⟩ ?_
 simp only[aE,iv]
 repeat first|with_reducible refine aq ?_|simp only[go_sem,simprocAttr]
 refine bS ([iv x,iv y]) (kH x y) ?_
 unfold dp
 by_cases h:cN x/\cN y
 rotate_left
 ·have hd:=decide_eq_false h
  repeat first|with_reducible refine aq ?_|simp only[hd,go_sem,simprocAttr]
  exact aa (by simp) rfl
 have hd:=decide_eq_true h
 by_cases h1:y.1<=x.1
 rotate_left
 ·repeat first|with_reducible refine aq ?_|simp only[hd,h1,decide_true,decide_false,go_sem,simprocAttr]
  exact aa (by simp[h1]) rfl
 repeat first|with_reducible refine aq ?_|simp only[hd,h1,decide_true,decide_false,go_sem,simprocAttr]
 exact aa rfl rfl
theorem rh(x y:Iv):bM Tryz.prog 61 [iv x,iv y] [.v (iv (fA x y))]:=by
 refine ag aD Sp ⟨by simp,by decide⟩ ?_
 simp only[aE,iv]
 repeat first|with_reducible refine aq ?_|simp only[go_sem,simprocAttr]
 refine bS ([iv x,iv y]) (kH x y) ?_
 by_cases h:cN x/\cN y
 rotate_left
 ·have hd:=decide_eq_false h
  rw[show fA x y=(0,0) from if_neg h]
  repeat first|with_reducible refine aq ?_|simp only[hd,go_sem,simprocAttr]
  exact aa rfl rfl
 obtain⟨lo,hlo⟩:∃lo,lo=(if y.1<x.1 then 0 else x.1):=⟨_,rfl⟩
 have hw:fA x y=(lo,if x.2<y.2 then Cl y.2 else x.2):=by rw[hlo];exact if_pos h
 rw[hw]
 have hy3:=h.2.2.2
 have hd:=decide_eq_true h
 by_cases h1:y.1<x.1
 ·rw[if_pos h1] at hlo
  subst hlo
  by_cases h2:x.2<y.2
  rotate_left
  ·repeat first|with_reducible refine aq ?_|simp only[hd,h1,h2,gt_iff_lt,decide_true,decide_false,go_sem,simprocAttr]
   exact aa (by simp[h2]) rfl
  repeat first|with_reducible refine aq ?_|simp only[hd,h1,h2,gt_iff_lt,decide_true,decide_false,go_sem,simprocAttr]
  refine GA.loop (I:=λm e H=>∃(k:Nat),m=3-k/\k<=2/\(1<=k->255<y.2)/\(2<=k->65535<y.2)/\e=az [(2,.p 0 0),(3,.p 1 0),(4,.p 2 0),(23,.agg [.n .i64 255,.n .i64 65535,.n .i64 4294967295]),(24,.n .i64 k)]/\H=ah [ae 0 127 [.n .i64 0,.n .i64 0],ae 0 127 [.n .i64 y.1,.n .i64 y.2],ae 0 127 [.n .i64 0,.n .i64 x.2]]) (Wk.mk [2,1,0] [] ?_ ?_ ?_) ⟨0,rfl,by omega,λh=>by omega,λh=>by omega,rfl,rfl⟩ ?_
  ·exact a8
  ·exact .cr (.j2) (.cr (.j2) (.cr (.j2) .nil))
  ·simp
  rintro m e H ⟨k,rfl,hk,g1,g2,rfl,rfl⟩
  rcases(show k=0\/k=1\/k=2 by omega) with rfl|rfl|rfl
  ·by_cases q:y.2<=255
   ·repeat first|with_reducible refine aq ?_|simp only[q,ge_iff_le,decide_true,go_sem,simprocAttr]
    exact aa (by simp[h2,Cl,q]) rfl
   ·repeat first|with_reducible refine aq ?_|simp only[q,ge_iff_le,decide_false,go_sem,simprocAttr]
    refine⟨_,_,_,?_,Wk.mk [2,1,0] [] ?_ ?_ ?_,1,rfl,by omega,λ_=>by omega,λh=>by omega,rfl,rfl⟩
    ·omega
    ·exact a8
    ·exact .cr .ls (.cr .ls (.cr .ls .nil))
    ·simp
  ·have q0:¬y.2<=255:=by have:=g1 (by omega);omega
   by_cases q:y.2<=65535
   ·repeat first|with_reducible refine aq ?_|simp only[q,ge_iff_le,decide_true,go_sem,simprocAttr]
    exact aa (by simp[h2,Cl,q0,q]) rfl
   ·repeat first|with_reducible refine aq ?_|simp only[q,ge_iff_le,decide_false,go_sem,simprocAttr]
    refine⟨_,_,_,?_,Wk.mk [2,1,0] [] ?_ ?_ ?_,2,rfl,by omega,λ_=>by omega,λ_=>by omega,rfl,rfl⟩
    ·omega
    ·exact a8
    ·exact .cr .ls (.cr .ls (.cr .ls .nil))
    ·simp
  ·have q0:¬y.2<=255:=by have:=g1 (by omega);omega
   have q1:¬y.2<=65535:=by have:=g2 (by omega);omega
   repeat first|with_reducible refine aq ?_|simp only[hy3,ge_iff_le,decide_true,go_sem,simprocAttr]
   exact aa (by simp[h2,Cl,q0,q1]) rfl
 ·rw[if_neg h1] at hlo
  subst hlo
  by_cases h2:x.2<y.2
  rotate_left
  ·repeat first|with_reducible refine aq ?_|simp only[hd,h1,h2,gt_iff_lt,decide_true,decide_false,go_sem,simprocAttr]
   exact aa (by simp[h2]) rfl
  repeat first|with_reducible refine aq ?_|simp only[hd,h1,h2,gt_iff_lt,decide_true,decide_false,go_sem,simprocAttr]
  refine GA.loop (I:=λm e H=>∃(k:Nat),m=3-k/\k<=2/\(1<=k->255<y.2)/\(2<=k->65535<y.2)/\e=az [(2,.p 0 0),(3,.p 1 0),(4,.p 2 0),(23,.agg [.n .i64 255,.n .i64 65535,.n .i64 4294967295]),(24,.n .i64 k)]/\H=ah [ae 0 127 [.n .i64 0,.n .i64 0],ae 0 127 [.n .i64 y.1,.n .i64 y.2],ae 0 127 [.n .i64 x.1,.n .i64 x.2]]) (Wk.mk [2,1,0] [] ?_ ?_ ?_) ⟨0,rfl,by omega,λh=>by omega,λh=>by omega,rfl,rfl⟩ ?_
  ·exact a8
  ·exact .cr (.j2) (.cr (.j2) (.cr (.j2) .nil))
  ·simp
  rintro m e H ⟨k,rfl,hk,g1,g2,rfl,rfl⟩
  rcases(show k=0\/k=1\/k=2 by omega) with rfl|rfl|rfl
  ·by_cases q:y.2<=255
   ·repeat first|with_reducible refine aq ?_|simp only[q,ge_iff_le,decide_true,go_sem,simprocAttr]
    exact aa (by simp[h2,Cl,q]) rfl
   ·repeat first|with_reducible refine aq ?_|simp only[q,ge_iff_le,decide_false,go_sem,simprocAttr]
    refine⟨_,_,_,?_,Wk.mk [2,1,0] [] ?_ ?_ ?_,1,rfl,by omega,λ_=>by omega,λh=>by omega,rfl,rfl⟩
    ·omega
    ·exact a8
    ·exact .cr .ls (.cr .ls (.cr .ls .nil))
    ·simp
  ·have q0:¬y.2<=255:=by have:=g1 (by omega);omega
   by_cases q:y.2<=65535
   ·repeat first|with_reducible refine aq ?_|simp only[q,ge_iff_le,decide_true,go_sem,simprocAttr]
    exact aa (by simp[h2,Cl,q0,q]) rfl
   ·repeat first|with_reducible refine aq ?_|simp only[q,ge_iff_le,decide_false,go_sem,simprocAttr]
    refine⟨_,_,_,?_,Wk.mk [2,1,0] [] ?_ ?_ ?_,2,rfl,by omega,λ_=>by omega,λ_=>by omega,rfl,rfl⟩
    ·omega
    ·exact a8
    ·exact .cr .ls (.cr .ls (.cr .ls .nil))
    ·simp
  ·have q0:¬y.2<=255:=by have:=g1 (by omega);omega
   have q1:¬y.2<=65535:=by have:=g2 (by omega);omega
   repeat first|with_reducible refine aq ?_|simp only[hy3,ge_iff_le,decide_true,go_sem,simprocAttr]
   exact aa (by simp[h2,Cl,q0,q1]) rfl
theorem IH(a b:Int):dF (binOp .and 0 (.int .u32 a) (.int .u32 b))=some (.n .u32 (WL a b)):=by
 unfold binOp Op.intBits
 simp only[ne_eq,not_true_eq_false,if_false]
 rfl
theorem Iw(a b:Int):dF (binOp .or 0 (.int .u32 a) (.int .u32 b))=some (.n .u32 (orU a b)):=by
 unfold binOp Op.intBits
 simp only[ne_eq,not_true_eq_false,if_false]
 rfl
theorem xH(a b:Int):dF (binOp .xor 0 (.int .u32 a) (.int .u32 b))=some (.n .u32 (uU a b)):=by
 unfold binOp Op.intBits
 simp only[ne_eq,not_true_eq_false,if_false]
 rfl
theorem Iu{k:IntKind}{a b:Int}(h:b≠0):dF (binOp .rem 0 (.int k a) (.int k b))=some (.n k (a.tmod b)):=by
 unfold binOp Op.intDiv
 simp only[ne_eq,not_true_eq_false,if_false,if_neg h]
 rfl
theorem tL{x:Int}(h:0<=x/\x<=4294967295):IntKind.wrap .u32 x=x:=Bc h
theorem ue(b:Int)(hb:0<=b):Int.tmod b 32=b%32:=Int.tmod_eq_emod_of_nonneg hb
def fx(f:FuncId)(op:Int):Prop:=∀a b:Int,0<=a/\a<=4294967295->0<=b/\b<=4294967295->((op=11\/op=12)->b≠0)->bM Tryz.prog f [.n .u32 a,.n .u32 b] [.v (.n .u32 (cC op a b))]
theorem WJ:fx 202 8:=λa b ha hb hz=>by
 refine ag aD Ie ⟨by simp,by decide⟩ ?_
 simp only[aE]
 repeat first|with_reducible refine aq ?_|simp only[go_sem,simprocAttr]
 exact aa rfl rfl
theorem WI:fx 203 9:=λa b ha hb hz=>by
 refine ag aD Ia ⟨by simp,by decide⟩ ?_
 simp only[aE]
 repeat first|with_reducible refine aq ?_|simp only[go_sem,simprocAttr]
 exact aa rfl rfl
theorem Ki:fx 204 10:=λa b ha hb hz=>by
 refine ag aD H7 ⟨by simp,by decide⟩ ?_
 simp only[aE]
 repeat first|with_reducible refine aq ?_|simp only[go_sem,simprocAttr]
 exact aa rfl rfl
theorem Kh:fx 205 11:=λa b ha hb hz=>by
 refine ag aD HZ ⟨by simp,by decide⟩ ?_
 simp only[aE]
 have hz:=hz (.inl rfl)
 have hd:=jv ha.1 hb.1
 have w:IntKind.u32.wrap (Int.tdiv a b)=a / b:=by rw[Int.tdiv_eq_ediv_of_nonneg ha.1];exact tL (by omega)
 repeat first|with_reducible refine aq ?_|simp only[ky hz,hz,if_false,cd,w,go_sem,simprocAttr]
 exact aa rfl rfl
theorem Kg:fx 206 12:=λa b ha hb hz=>by
 refine ag aD HW ⟨by simp,by decide⟩ ?_
 simp only[aE]
 have hz:=hz (.inr rfl)
 have h1:=Int.emod_nonneg a hz
 have h2:=Int.emod_lt_of_pos a (show 0<b by omega)
 have w:Int.tmod a b=a%b:=Int.tmod_eq_emod_of_nonneg ha.1
 repeat first|with_reducible refine aq ?_|simp only[Iu hz,hz,if_false,cd,w,go_sem,simprocAttr]
 exact aa rfl rfl
theorem Kf:fx 207 13:=λa b ha hb hz=>by
 refine ag aD HS ⟨by simp,by decide⟩ ?_
 simp only[aE]
 repeat first|with_reducible refine aq ?_|simp only[IH,go_sem,simprocAttr]
 exact aa rfl rfl
theorem Ke:fx 208 14:=λa b ha hb hz=>by
 refine ag aD HO ⟨by simp,by decide⟩ ?_
 simp only[aE]
 repeat first|with_reducible refine aq ?_|simp only[Iw,go_sem,simprocAttr]
 exact aa rfl rfl
theorem Kd:fx 209 15:=λa b ha hb hz=>by
 refine ag aD HL ⟨by simp,by decide⟩ ?_
 simp only[aE]
 repeat first|with_reducible refine aq ?_|simp only[xH,go_sem,simprocAttr]
 exact aa rfl rfl
theorem Kc:fx 210 16:=λa b ha hb hz=>by
 refine ag aD HI ⟨by simp,by decide⟩ ?_
 simp only[aE]
 have h0:=Int.emod_nonneg b (show(32:Int)≠0 by decide)
 have h1:=Int.emod_lt_of_pos b (show(0:Int)<32 by decide)
 have w:Int.tmod b 32=b%32:=ue b hb.1
 have hb32:IntKind.u32.bits=32:=rfl
 repeat first|with_reducible refine aq ?_|simp only[cd,w,o9 h0,go_sem,simprocAttr]
 exact aa rfl rfl
theorem Kb:fx 211 17:=λa b ha hb hz=>by
 refine ag aD HD ⟨by simp,by decide⟩ ?_
 simp only[aE]
 have h0:=Int.emod_nonneg b (show(32:Int)≠0 by decide)
 have h1:=Int.emod_lt_of_pos b (show(0:Int)<32 by decide)
 have w:Int.tmod b 32=b%32:=ue b hb.1
 have hb32:IntKind.u32.bits=32:=rfl
 repeat first|with_reducible refine aq ?_|simp only[cd,w,bt h0,go_sem,simprocAttr]
 exact aa rfl rfl
theorem Ka:fx 212 18:=λa b ha hb hz=>by
 refine ag aD Hz ⟨by simp,by decide⟩ ?_
 simp only[aE]
 repeat first|with_reducible refine aq ?_|simp only[go_sem,simprocAttr]
 exact aa rfl rfl
theorem J9:fx 213 19:=λa b ha hb hz=>by
 refine ag aD Hw ⟨by simp,by decide⟩ ?_
 simp only[aE]
 repeat first|with_reducible refine aq ?_|simp only[go_sem,simprocAttr]
 exact aa rfl rfl
theorem J8:fx 214 20:=λa b ha hb hz=>by
 refine ag aD Ht ⟨by simp,by decide⟩ ?_
 simp only[aE]
 have h16:(0:Int)<=16:=by decide
 have hb32:IntKind.u32.bits=32:=rfl
 have e16':(2:Int)^min (Int.toNat 16) IntKind.u32.bits=65536:=by decide
 repeat first|with_reducible refine aq ?_|simp only[xH,bt h16,go_sem,simprocAttr]
 have x:∀a b,bits .xor .u32 a b=uU a b:=λ_ _=>rfl
 have e:(2:Int)^min 16 32=65536:=by decide
 have z:cC 20 a b=Dk a b:=by simp[cC]
 rw[z]
 simp only[x,e]
 exact aa rfl rfl
/-! ### the length of a number-/
def JP(n L:Nat):Prop:=n<2^L/\(L=0\/2^(L-1)<=n)
instance (n L:Nat):Decidable (JP n L):=inferInstanceAs (Decidable (_/\_))
def lgB:Bool:=(List.range 256).all λj=>decide (JP j (l8 j).toNat)
theorem JQ:lgB=true:=by kernel_rfl
theorem yW{j:Nat}(h:j<256):JP j (l8 j).toNat:=of_decide_eq_true (List.all_eq_true.1 JQ j (List.mem_range.2 h))
theorem uj{n L:Nat}(k:Nat)(h:JP (n / 2^k) L)(hn:2^k<=n):JP n (L+k):=by
 obtain⟨h1,h2⟩:=h
 have hp:0<2^k:=Nat.two_pow_pos k
 have h3:1<=n / 2^k:=(Nat.le_div_iff_mul_le hp).2 (by omega)
 have h4:L≠0:=λe=>by subst e;simp at h1;omega
 refine⟨?_,.inr ?_⟩
 ·rw[Nat.pow_add]
  exact(Nat.div_lt_iff_lt_mul hp).1 h1
 ·have:=(Nat.le_div_iff_mul_le hp).1 (h2.resolve_left h4)
  rw[show L+k-1=(L-1)+k by omega,Nat.pow_add]
  exact this
theorem Wn{y:Nat}(h:y<65536)(n:Int):∃L:Nat,jW y n=n+L/\JP y L:=by
 unfold jW
 by_cases g:256<=(y:Int)
 ·rw[if_pos g]
  obtain⟨c,_,_,q1,q2⟩:=jG (y / 256) (by omega)
  refine⟨(l8 (y / 256)).toNat+8,?_,uj 8 (yW (by omega)) (by omega)⟩
  rw[show((y:Int) / 256).toNat=y / 256 by omega]
  omega
 ·rw[if_neg g]
  obtain⟨c,_,_,q1,q2⟩:=jG y (by omega)
  exact⟨(l8 y).toNat,by rw[Int.toNat_natCast];omega,yW (by omega)⟩
theorem Z9{y:Nat}(h:y<4294967296):∃L:Nat,ew y=L/\JP y L:=by
 unfold ew mD
 rw[if_neg (by omega)]
 by_cases g:65536<=(y:Int)
 ·rw[if_pos g]
  obtain⟨L,h1,h2⟩:=Wn (y:=y / 65536) (by omega) (0+16)
  exact⟨L+16,by rw[show(y:Int) / 65536=((y / 65536:Nat):Int) by omega,h1];omega,uj 16 h2 (by omega)⟩
 ·rw[if_neg g]
  obtain⟨L,h1,h2⟩:=Wn (y:=y) (by omega) 0
  exact⟨L,by rw[h1];omega,h2⟩
theorem yc{n:Int}(h:0<=n/\n<=4294967295):∃L:Nat,ew n=L/\L<=32/\(2:Int)^L-1=fN n:=by
 obtain⟨y,rfl⟩:∃y:Nat,n=y:=⟨n.toNat,by omega⟩
 obtain⟨L,h1,h2,h3⟩:=Z9 (y:=y) (by omega)
 have hL:L<=32:=by
  rcases h3 with h3|h3
  ·omega
  ·apply Nat.le_of_not_lt
   intro hlt
   have:2^32<=2^(L-1):=Nat.pow_le_pow_right (by decide) (by omega)
   omega
 refine⟨L,h1,hL,?_⟩
 unfold fN
 by_cases hy:(y:Int)=0
 ·rw[if_pos hy]
  obtain rfl:y=0:=by omega
  have:L=0:=by
   rcases h3 with h3|h3
   ·exact h3
   ·have:=Nat.two_pow_pos (L-1);omega
  subst this;rfl
 ·rw[if_neg hy,Int.toNat_natCast]
  have h4:L≠0:=λe=>by subst e;simp at h2;omega
  have:y.log2=L-1:=(Nat.log2_eq_iff (by omega)).2 ⟨h3.resolve_left h4,by rw[show L-1+1=L by omega];exact h2⟩
  rw[this,show L-1+1=L by omega]
theorem qL(n:Int)(h:0<=n/\n<=4294967295):bM Tryz.prog 228 [.n .i64 n] [.v (.n .i64 (fN n))]:=by
 refine ag aD Ii ⟨by simp,by decide⟩ ?_
 simp only[aE]
 obtain⟨L,h1,h2,h3⟩:=yc h
 obtain⟨_,ho⟩:=t9 h
 have hw:IntKind.u64.wrap n=n:=by rw[IntKind.wrap_u64];omega
 repeat first|with_reducible refine aq ?_|simp only[hw,go_sem,simprocAttr]
 refine bS ([.n .u64 n]) (uk n h.1 (by omega)) ?_
 rw[h1]
 have h0:(0:Int)<=(L:Int):=by omega
 have e:min L 64=L:=by omega
 have w1:IntKind.i64.wrap (1*2^L)=fN n+1:=by rw[Int.one_mul,<-h3,aj (by omega)];omega
 have w2:IntKind.i64.wrap (fN n+1-1)=fN n:=(aj (by omega)).trans (by omega)
 have w3:IntKind.i64.wrap (2^L)=fN n+1:=by rw[<-h3,aj (by omega)];omega
 repeat first|with_reducible refine aq ?_|simp only[o9 h0,Int.toNat_natCast,e,w1,w2,w3,go_sem,simprocAttr]
 exact aa (by first|rfl|(rw[w1,w2])|(rw[w3,w2])|skip) rfl
theorem k8(l h:Int)(hb: -8589934592<=l/\h<=36893488147419103232/\l<=8589934592/\h<=8589934592/\ -8589934592<=h):bM Tryz.prog 227 [.n .i64 l,.n .i64 h] [.v (iv (cW l h))]:=by
 refine ag aD KP ⟨by simp,by decide⟩ ?_
 simp only[aE,iv]
 have w1:IntKind.i64.wrap (l-4294967295)=l-4294967295:=aj (by omega)
 have w2:IntKind.i64.wrap (l-4294967295-1)=l-4294967296:=(aj (by omega)).trans (by omega)
 have w3:IntKind.i64.wrap (h-4294967295)=h-4294967295:=aj (by omega)
 have w4:IntKind.i64.wrap (h-4294967295-1)=h-4294967296:=(aj (by omega)).trans (by omega)
 have w5:IntKind.i64.wrap (l+4294967295)=l+4294967295:=aj (by omega)
 have w6:IntKind.i64.wrap (l+4294967295+1)=l+4294967296:=(aj (by omega)).trans (by omega)
 have w7:IntKind.i64.wrap (h+4294967295)=h+4294967295:=aj (by omega)
 have w8:IntKind.i64.wrap (h+4294967295+1)=h+4294967296:=(aj (by omega)).trans (by omega)
 have full:(iv (0,4294967295))= .agg [.n .i64 0,.n .i64 4294967295]:=rfl
 by_cases h0:0<=l
 ·by_cases h1:h<=4294967295
  ·repeat first|with_reducible refine aq ?_|simp only[h0,h1,ge_iff_le,decide_true,go_sem,simprocAttr]
   exact aa (by simp[cW,h0,h1]) rfl
  ·by_cases h2:4294967295<l
   ·repeat first|with_reducible refine aq ?_|simp only[h0,h1,h2,ge_iff_le,gt_iff_lt,decide_true,decide_false,w1,w2,w3,w4,go_sem,simprocAttr]
    exact aa (by simp[cW,h0,h1,h2]) rfl
   ·have h3:¬h<0:=by omega
    repeat first|with_reducible refine aq ?_|simp only[h0,h1,h2,h3,ge_iff_le,gt_iff_lt,decide_true,decide_false,go_sem,simprocAttr]
    refine bS ([]) cm ?_
    rw[full]
    repeat first|with_reducible refine aq ?_|simp only[go_sem,simprocAttr]
    exact aa (by simp[cW,h0,h1,h2,h3]) rfl
 ·have h2:¬4294967295<l:=by omega
  by_cases h3:h<0
  ·repeat first|with_reducible refine aq ?_|simp only[h0,h2,h3,ge_iff_le,gt_iff_lt,decide_true,decide_false,w5,w6,w7,w8,go_sem,simprocAttr]
   exact aa (by simp[cW,h0,h2,h3]) rfl
  ·repeat first|with_reducible refine aq ?_|simp only[h0,h2,h3,ge_iff_le,gt_iff_lt,decide_true,decide_false,go_sem,simprocAttr]
   refine bS ([]) cm ?_
   rw[full]
   repeat first|with_reducible refine aq ?_|simp only[go_sem,simprocAttr]
   exact aa (by simp[cW,h0,h2,h3]) rfl
/-! ### each rule-/
def gM(x y:Iv):AV:= .agg [.n .i64 x.1,.n .i64 x.2,.n .i64 y.1,.n .i64 y.2]
def fv(f:FuncId)(op:Int):Prop:=∀x y:Iv,cN x->cN y->((op=11\/op=12)->y.1≠0)->bM Tryz.prog f [gM x y] [.v (iv (bZ op x y))]
theorem VP:fv 187 8:=λx y hx hy hz=>by
 refine ag aD LJ ⟨by simp,by decide⟩ ?_
 obtain⟨a,b⟩:=x
 obtain⟨c,d⟩:=y
 obtain⟨hx1,hx2,hx3⟩:=hx
 obtain⟨hy1,hy2,hy3⟩:=hy
 dsimp only at*
 simp only[aE,gM,iv]
 have w1:IntKind.i64.wrap (a+c)=a+c:=aj (by omega)
 have w2:IntKind.i64.wrap (b+d)=b+d:=aj (by omega)
 repeat first|with_reducible refine aq ?_|simp only[w1,w2,go_sem,simprocAttr]
 refine bS ([.n .i64 (a+c),.n .i64 (b+d)]) (k8 (a+c) (b+d) (by omega)) ?_
 simp only[iv]
 repeat first|with_reducible refine aq ?_|simp only[go_sem,simprocAttr]
 exact aa rfl rfl
theorem VO:fv 188 9:=λx y hx hy hz=>by
 refine ag aD LG ⟨by simp,by decide⟩ ?_
 obtain⟨a,b⟩:=x
 obtain⟨c,d⟩:=y
 obtain⟨hx1,hx2,hx3⟩:=hx
 obtain⟨hy1,hy2,hy3⟩:=hy
 dsimp only at*
 simp only[aE,gM,iv]
 have w1:IntKind.i64.wrap (a-d)=a-d:=aj (by omega)
 have w2:IntKind.i64.wrap (b-c)=b-c:=aj (by omega)
 repeat first|with_reducible refine aq ?_|simp only[w1,w2,go_sem,simprocAttr]
 refine bS ([.n .i64 (a-d),.n .i64 (b-c)]) (k8 (a-d) (b-c) (by omega)) ?_
 simp only[iv]
 repeat first|with_reducible refine aq ?_|simp only[go_sem,simprocAttr]
 exact aa rfl rfl
theorem IY:fv 189 10:=λx y hx hy hz=>by
 refine ag aD LB ⟨by simp,by decide⟩ ?_
 obtain⟨a,b⟩:=x
 obtain⟨c,d⟩:=y
 obtain⟨hx1,hx2,hx3⟩:=hx
 obtain⟨hy1,hy2,hy3⟩:=hy
 dsimp only at*
 simp only[aE,gM,iv]
 by_cases h0:0<d
 ·have hz0:d≠0:=by omega
  have w:IntKind.i64.wrap (Int.tdiv 4294967295 d)=4294967295 / d:=by
   rw[Int.tdiv_eq_ediv_of_nonneg (by decide)]
   have:=jv (a:=4294967295) (b:=d) (by decide) (by omega)
   exact aj (by omega)
  by_cases h1:4294967295 / d<b
  ·repeat first|with_reducible refine aq ?_|simp only[h0,ky hz0,hz0,if_false,cd,w,h1,gt_iff_lt,decide_true,go_sem,simprocAttr]
   refine bS ([]) cm ?_
   simp only[iv]
   repeat first|with_reducible refine aq ?_|simp only[go_sem,simprocAttr]
   exact aa (by simp[bZ,h0,h1]) rfl
  ·have hbd:b*d<=4294967295:=(Int.le_ediv_iff_mul_le h0).1 (Int.not_lt.1 h1)
   have hac:a*c<=b*d:=Int.mul_le_mul hx2 hy2 hy1 (by omega)
   have hac0:0<=a*c:=Int.mul_nonneg hx1 hy1
   have w1:IntKind.i64.wrap (a*c)=a*c:=aj (by omega)
   have w2:IntKind.i64.wrap (b*d)=b*d:=aj (by omega)
   repeat first|with_reducible refine aq ?_|simp only[h0,ky hz0,hz0,if_false,cd,w,h1,w1,w2,gt_iff_lt,decide_true,decide_false,go_sem,simprocAttr]
   exact aa (by simp[bZ,h0,h1]) rfl
 ·have hd:d=0:=by omega
  have hc:c=0:=by omega
  subst hd;subst hc
  have w0:IntKind.i64.wrap 0=0:=rfl
  repeat first|with_reducible refine aq ?_|simp only[h0,gt_iff_lt,decide_true,decide_false,Int.mul_zero,w0,go_sem,simprocAttr]
  exact aa (by simp[bZ]) rfl
theorem IX:fv 190 11:=λx y hx hy hz=>by
 refine ag aD Lw ⟨by simp,by decide⟩ ?_
 obtain⟨a,b⟩:=x
 obtain⟨c,d⟩:=y
 obtain⟨hx1,hx2,hx3⟩:=hx
 obtain⟨hy1,hy2,hy3⟩:=hy
 dsimp only at*
 simp only[aE,gM,iv]
 have hc0:=hz (.inl rfl)
 have hd0:d≠0:=by omega
 have w1:IntKind.i64.wrap (Int.tdiv a d)=a / d:=by
  rw[Int.tdiv_eq_ediv_of_nonneg hx1]
  have:=jv hx1 (show 0<=d by omega)
  exact aj (by omega)
 have w2:IntKind.i64.wrap (Int.tdiv b c)=b / c:=by
  rw[Int.tdiv_eq_ediv_of_nonneg (by omega)]
  have:=jv (show 0<=b by omega) hy1
  exact aj (by omega)
 repeat first|with_reducible refine aq ?_|simp only[hc0,hd0,if_false,cd,w1,w2,go_sem,simprocAttr]
 exact aa (by simp[bZ]) rfl
theorem IW:fv 191 12:=λx y hx hy hz=>by
 refine ag aD Lu ⟨by simp,by decide⟩ ?_
 obtain⟨a,b⟩:=x
 obtain⟨c,d⟩:=y
 obtain⟨hx1,hx2,hx3⟩:=hx
 obtain⟨hy1,hy2,hy3⟩:=hy
 dsimp only at*
 simp only[aE,gM,iv]
 have w:IntKind.i64.wrap (d-1)=d-1:=aj (by omega)
 by_cases h:b<c
 ·repeat first|with_reducible refine aq ?_|simp only[h,decide_true,go_sem,simprocAttr]
  exact aa (by simp[bZ,h]) rfl
 ·repeat first|with_reducible refine aq ?_|simp only[h,decide_false,w,go_sem,simprocAttr]
  exact aa (by simp[bZ,h,ja]) rfl
theorem IV:fv 192 13:=λx y hx hy hz=>by
 refine ag aD Lo ⟨by simp,by decide⟩ ?_
 obtain⟨a,b⟩:=x
 obtain⟨c,d⟩:=y
 obtain⟨hx1,hx2,hx3⟩:=hx
 obtain⟨hy1,hy2,hy3⟩:=hy
 dsimp only at*
 simp only[aE,gM,iv]
 repeat first|with_reducible refine aq ?_|simp only[go_sem,simprocAttr]
 exact aa (by simp[bZ,ja]) rfl
theorem IU:fv 193 14:=λx y hx hy hz=>by
 refine ag aD Lk ⟨by simp,by decide⟩ ?_
 obtain⟨a,b⟩:=x
 obtain⟨c,d⟩:=y
 obtain⟨hx1,hx2,hx3⟩:=hx
 obtain⟨hy1,hy2,hy3⟩:=hy
 dsimp only at*
 simp only[aE,gM,iv]
 have hm:0<=aQ b d/\aQ b d<=4294967295:=by unfold aQ;split<;>omega
 have e:(if b<d then d else b)=aQ b d:=rfl
 have e2:(if a<c then c else a)=aQ a c:=rfl
 have fin:(AV.agg [.n .i64 (aQ a c),.n .i64 (fN (aQ b d))])= .agg [.n .i64 (bZ 14 (a,b) (c,d)).1,.n .i64 (bZ 14 (a,b) (c,d)).2]:=rfl
 (try simp only[go_sem,simprocAttr])
 iterate 3 (with_reducible refine GA.go aD rfl ?_;try simp only[go_sem,simprocAttr])
 refine GA.frkm aD 1 (by simp only[bH,go_sem,simprocAttr]) ?_
 simp only[e,e2,go_sem,simprocAttr]
 repeat' with_reducible refine aY ?_ ?_
 all_goals
  refine bS ([.n .i64 (aQ b d)]) (qL _ hm) ?_
  simp only[e,e2,go_sem,simprocAttr]
  repeat' with_reducible refine aY ?_ ?_
 all_goals
  repeat first|with_reducible refine aq ?_|simp only[e,e2,go_sem,simprocAttr]
  first
   |decide
   |exact aa fin rfl
theorem IR:fv 194 15:=λx y hx hy hz=>by
 refine ag aD Lh ⟨by simp,by decide⟩ ?_
 obtain⟨a,b⟩:=x
 obtain⟨c,d⟩:=y
 obtain⟨hx1,hx2,hx3⟩:=hx
 obtain⟨hy1,hy2,hy3⟩:=hy
 dsimp only at*
 simp only[aE,gM,iv]
 have hm:0<=aQ b d/\aQ b d<=4294967295:=by unfold aQ;split<;>omega
 have e:(if b<d then d else b)=aQ b d:=rfl
 repeat first|with_reducible refine aq ?_|simp only[e,go_sem,simprocAttr]
 refine bS ([.n .i64 (aQ b d)]) (qL _ hm) ?_
 repeat first|with_reducible refine aq ?_|simp only[go_sem,simprocAttr]
 exact aa (by simp[bZ]) rfl
theorem IQ:fv 195 16:=λx y hx hy hz=>by
 refine ag aD Lb ⟨by simp,by decide⟩ ?_
 obtain⟨a,b⟩:=x
 obtain⟨c,d⟩:=y
 obtain⟨hx1,hx2,hx3⟩:=hx
 obtain⟨hy1,hy2,hy3⟩:=hy
 dsimp only at*
 simp only[aE,gM,iv]
 have h0:=Int.emod_nonneg c (show(32:Int)≠0 by decide)
 have h1:=Int.emod_lt_of_pos c (show(0:Int)<32 by decide)
 have w:Int.tmod c 32=c%32:=ue c hy1
 obtain⟨s,hs⟩:∃s:Nat,c%32=s:=⟨(c%32).toNat,by omega⟩
 have hs32:s<32:=by omega
 rw[hs] at w
 have hsn:(0:Int)<=(s:Int):=by omega
 have e:min s 64=s:=by omega
 have pw:∀n:Nat,n<32->(1:Int)<=2^n/\(2:Int)^n<=2147483648:=λn hn=>by
  have h1:1<=2^n:=Nat.one_le_two_pow
  have h2:2^n<=2^31:=Nat.pow_le_pow_right (by decide) (by omega)
  have e:(2:Int)^n=((2^n:Nat):Int):=by rw[Int.natCast_pow];rfl
  omega
 obtain⟨p1,p2⟩:=pw s hs32
 obtain⟨p,hp⟩:∃p:Int,p=2^s:=⟨_,rfl⟩
 have hp':(2:Int)^(min s 64)=p:=by rw[e,hp]
 have er:bZ 16 (a,b) (c,d)=if c≠d\/4294967295 / p<b then(0,4294967295) else(a*p,b*p):=by
  simp[bZ,hs,hp]
 rw[<-hp] at p1 p2
 have w4:Int.fdiv 4294967295 p=4294967295 / p:=Int.fdiv_eq_ediv_of_nonneg _ (by omega)
 by_cases g:c=d
 rotate_left
 ·repeat first|with_reducible refine aq ?_|simp only[w,g,decide_true,decide_false,go_sem,simprocAttr]
  refine bS ([]) cm ?_
  simp only[iv]
  repeat first|with_reducible refine aq ?_|simp only[go_sem,simprocAttr]
  exact aa (by rw[er,if_pos (.inl g)]) rfl
 subst g
 by_cases g1:4294967295 / p<b
 ·repeat first|with_reducible refine aq ?_|simp only[w,bt hsn,Int.toNat_natCast,e,<-hp,w4,g1,gt_iff_lt,decide_true,decide_false,go_sem,simprocAttr]
  refine bS ([]) cm ?_
  simp only[iv]
  repeat first|with_reducible refine aq ?_|simp only[go_sem,simprocAttr]
  exact aa (by rw[er,if_pos (.inr g1)]) rfl
 have hbp:b*p<=4294967295:=(Int.le_ediv_iff_mul_le (by omega)).1 (Int.not_lt.1 g1)
 have hap:a*p<=b*p:=Int.mul_le_mul_of_nonneg_right hx2 (by omega)
 have hap0:0<=a*p:=Int.mul_nonneg hx1 (by omega)
 have w1:IntKind.i64.wrap (a*p)=a*p:=aj (by omega)
 have w2:IntKind.i64.wrap (b*p)=b*p:=aj (by omega)
 repeat first|with_reducible refine aq ?_|simp only[w,bt hsn,o9 hsn,Int.toNat_natCast,e,<-hp,w4,w1,w2,g1,gt_iff_lt,decide_true,decide_false,go_sem,simprocAttr]
 exact aa (by rw[er,if_neg (by simp;omega)]) rfl
theorem IP:fv 196 17:=λx y hx hy hz=>by
 refine ag aD K4 ⟨by simp,by decide⟩ ?_
 obtain⟨a,b⟩:=x
 obtain⟨c,d⟩:=y
 obtain⟨hx1,hx2,hx3⟩:=hx
 obtain⟨hy1,hy2,hy3⟩:=hy
 dsimp only at*
 simp only[aE,gM,iv]
 have pw:∀n:Nat,n<32->(1:Int)<=2^n/\(2:Int)^n<=2147483648:=λn hn=>by
  have h1:1<=2^n:=Nat.one_le_two_pow
  have h2:2^n<=2^31:=Nat.pow_le_pow_right (by decide) (by omega)
  have e:(2:Int)^n=((2^n:Nat):Int):=by rw[Int.natCast_pow];rfl
  omega
 have fd:∀(x:Int) (n:Nat),Int.fdiv x (2^n)=x / 2^n:=λx n=>Int.fdiv_eq_ediv_of_nonneg _ (Int.le_of_lt (jF _))
 by_cases h1:d<=31
 ·have hcn:0<=c:=hy1
  have hdn:0<=d:=by omega
  have e1:min c.toNat 64=c.toNat:=by omega
  have e2:min d.toNat 64=d.toNat:=by omega
  repeat first|with_reducible refine aq ?_|simp only[h1,decide_true,bt hcn,bt hdn,e1,e2,fd,go_sem,simprocAttr]
  exact aa (by simp[bZ,h1]) rfl
 by_cases h2:c=d
 ·subst h2
  have g0:=Int.emod_nonneg c (show(32:Int)≠0 by decide)
  have g1:=Int.emod_lt_of_pos c (show(0:Int)<32 by decide)
  have w:Int.tmod c 32=c%32:=ue c hy1
  have e1:min (c%32).toNat 64=(c%32).toNat:=by omega
  repeat first|with_reducible refine aq ?_|simp only[h1,decide_true,decide_false,w,bt g0,e1,fd,go_sem,simprocAttr]
  exact aa (by simp[bZ,h1]) rfl
 ·repeat first|with_reducible refine aq ?_|simp only[h1,h2,decide_false,go_sem,simprocAttr]
  exact aa (by simp[bZ,h1,h2]) rfl
theorem IM:fv 197 18:=λx y hx hy hz=>by
 refine ag aD KZ ⟨by simp,by decide⟩ ?_
 obtain⟨a,b⟩:=x
 obtain⟨c,d⟩:=y
 obtain⟨hx1,hx2,hx3⟩:=hx
 obtain⟨hy1,hy2,hy3⟩:=hy
 dsimp only at*
 simp only[aE,gM,iv]
 repeat first|with_reducible refine aq ?_|simp only[go_sem,simprocAttr]
 exact aa (by simp[bZ,ja]) rfl
theorem IL:fv 198 19:=λx y hx hy hz=>by
 refine ag aD KW ⟨by simp,by decide⟩ ?_
 obtain⟨a,b⟩:=x
 obtain⟨c,d⟩:=y
 obtain⟨hx1,hx2,hx3⟩:=hx
 obtain⟨hy1,hy2,hy3⟩:=hy
 dsimp only at*
 simp only[aE,gM,iv]
 repeat first|with_reducible refine aq ?_|simp only[go_sem,simprocAttr]
 exact aa (by simp[bZ,aQ]) rfl
theorem IK:fv 199 20:=λx y hx hy hz=>by
 refine ag aD KT ⟨by simp,by decide⟩ ?_
 obtain⟨a,b⟩:=x
 obtain⟨c,d⟩:=y
 obtain⟨hx1,hx2,hx3⟩:=hx
 obtain⟨hy1,hy2,hy3⟩:=hy
 dsimp only at*
 simp only[aE,gM,iv]
 repeat first|with_reducible refine aq ?_|simp only[go_sem,simprocAttr]
 refine bS ([]) cm ?_
 simp only[iv]
 repeat first|with_reducible refine aq ?_|simp only[go_sem,simprocAttr]
 exact aa (by simp[bZ]) rfl
theorem cK{a b x y:AV}{H:AH}(h:a=x)(hp:x.pu 3=true)(h':b=y)(hp':y.pu 3=true):∃l1,AV.tup [a,b]=a9 l1/\ku [.v x,.v y] l1 H:=⟨[a,b],rfl,⟨h,hp⟩,⟨h',hp'⟩,trivial⟩
theorem t7(x:ga)(k:Int)(v:AV):(x.put k v).own=x.own:=id rfl
theorem qX{x:ga}{k:Int}{g:FuncId}(h:x.get k=some (.f g [] [])):x.look true .f0 k= .tup [.f g [] [],.b true]:=by
 unfold ga.look
 rw[h]
 rfl
def Kt(C:FuncId->Int->Prop)(_:Nat->Option OB)(rs:List RT)(N:Nat->Option OB):Prop:=∃r x,rs=[.v (.cv (.map (some r)))]/\N r=some (.mp x)/\∀op,8<=op->op<=20->∃g,x.get op=some (.f g [] [])/\C g op
theorem zR{C:FuncId->Int->Prop}{r:Nat}{x:ga}{H:AH}{M:Nat->Option OB}(hob:H.ob r=some (.mp x))(ho:x.own=true)(hP:∀op,8<=op->op<=20->∃g,x.get op=some (.f g [] [])/\C g op):∃(rs:List RT) (N:Nat->Option OB) (l:List AV),Kt C M rs N/\a9 [.cv (.map (some r))]=a9 l/\ku rs l H/\∀r x,N r=some x->H.ob r=some x/\x5 x=true:=
 ⟨_,λr'=>if r'=r then some (.mp x) else none,_,⟨r,x,rfl,if_pos rfl,hP⟩,rfl,⟨⟨rfl,rfl⟩,trivial⟩,λr' y h=>by
  replace h:(if r'=r then some (OB.mp x) else none)=some y:=h
  by_cases e:r'=r
  ·subst e;rw[if_pos rfl] at h;cases h;exact⟨hob,ho⟩
  ·rw[if_neg e] at h;cases h⟩
theorem u5:wZ Tryz.prog 174 [] (λ_=>True) (Kt fv):=by
 refine lR aD OW ⟨by simp,by decide⟩ λM _=>?_
 simp only[aE]
 repeat first|with_reducible refine aq ?_|simp only[go_sem,simprocAttr]
 refine po λr hr=>?_
 repeat first|with_reducible refine aq ?_|simp only[t7,go_sem,simprocAttr]
 refine zR (x:=?x) ?h ?o λop h1 h2=>?_
 case h=>simp only[go_sem,simprocAttr]<;>rfl
 case o=>rfl
 rcases(show op=8\/op=9\/op=10\/op=11\/op=12\/op=13\/op=14\/op=15\/op=16\/op=17\/op=18\/op=19\/op=20 by omega) with rfl|rfl|rfl|rfl|rfl|rfl|rfl|rfl|rfl|rfl|rfl|rfl|rfl
 ·exact⟨_,rfl,VP⟩
 ·exact⟨_,rfl,VO⟩
 ·exact⟨_,rfl,IY⟩
 ·exact⟨_,rfl,IX⟩
 ·exact⟨_,rfl,IW⟩
 ·exact⟨_,rfl,IV⟩
 ·exact⟨_,rfl,IU⟩
 ·exact⟨_,rfl,IR⟩
 ·exact⟨_,rfl,IQ⟩
 ·exact⟨_,rfl,IP⟩
 ·exact⟨_,rfl,IM⟩
 ·exact⟨_,rfl,IL⟩
 ·exact⟨_,rfl,IK⟩
theorem tj:wZ Tryz.prog 179 [] (λ_=>True) (Kt fx):=by
 refine lR aD OH ⟨by simp,by decide⟩ λM _=>?_
 simp only[aE]
 repeat first|with_reducible refine aq ?_|simp only[go_sem,simprocAttr]
 refine po λr hr=>?_
 repeat first|with_reducible refine aq ?_|simp only[t7,go_sem,simprocAttr]
 refine zR (x:=?x) ?h ?o λop h1 h2=>?_
 case h=>simp only[go_sem,simprocAttr]<;>rfl
 case o=>rfl
 rcases(show op=8\/op=9\/op=10\/op=11\/op=12\/op=13\/op=14\/op=15\/op=16\/op=17\/op=18\/op=19\/op=20 by omega) with rfl|rfl|rfl|rfl|rfl|rfl|rfl|rfl|rfl|rfl|rfl|rfl|rfl
 ·exact⟨_,rfl,WJ⟩
 ·exact⟨_,rfl,WI⟩
 ·exact⟨_,rfl,Ki⟩
 ·exact⟨_,rfl,Kh⟩
 ·exact⟨_,rfl,Kg⟩
 ·exact⟨_,rfl,Kf⟩
 ·exact⟨_,rfl,Ke⟩
 ·exact⟨_,rfl,Kd⟩
 ·exact⟨_,rfl,Kc⟩
 ·exact⟨_,rfl,Kb⟩
 ·exact⟨_,rfl,Ka⟩
 ·exact⟨_,rfl,J9⟩
 ·exact⟨_,rfl,J8⟩
theorem mL(op a b:Int)(h1:8<=op)(h2:op<=20)(ha:0<=a/\a<=4294967295)(hb:0<=b/\b<=4294967295)(hz:(op=11\/op=12)->b≠0):bM Tryz.prog 152 [.n .i64 op,.n .u32 a,.n .u32 b] [.v (.n .u32 (cC op a b)),.v (.n .i64 0)]:=by
 refine ag aD OS ⟨by simp,by decide⟩ ?_
 simp only[aE]
 repeat first|with_reducible refine aq ?_|simp only[go_sem,simprocAttr]
 refine cn [] (fargs:=[]) (ck.same rfl) tj True.intro (by simp only[go_sem,simprocAttr]) ?_
 rintro rs N ⟨r,x,rfl,hN,hF⟩ hfree
 obtain⟨g,hg,hC⟩:=hF op h1 h2
 have hN1:Av (ah []).ob N r=some (.mp x):=(ko rfl).trans hN
 have hl:=qX hg
 by_cases hb0:b=0
 ·have h11:¬op=11:=λe=>hz (.inl e) hb0
  have h12:¬op=12:=λe=>hz (.inr e) hb0
  subst hb0
  repeat first|with_reducible refine aq ?_|simp only[hN,hN1,hl,h11,h12,decide_true,decide_false,Bool.not_true,go_sem,simprocAttr]
  refine bS ([.n .u32 a,.n .u32 0]) (hC a 0 ha hb hz) ?_
  repeat first|with_reducible refine aq ?_|simp only[go_sem,simprocAttr]
  exact cK rfl rfl rfl rfl
 ·repeat first|with_reducible refine aq ?_|simp only[hN,hN1,hl,hb0,decide_true,decide_false,Bool.not_true,go_sem,simprocAttr]
  refine bS ([.n .u32 a,.n .u32 b]) (hC a b ha hb hz) ?_
  repeat first|with_reducible refine aq ?_|simp only[go_sem,simprocAttr]
  exact cK rfl rfl rfl rfl
theorem lt2a{i:Nat}(h:i<2):i=0\/i=1:=by omega
theorem lt4a{i:Nat}(h:i<4):i=0\/i=1\/i=2\/i=3:=by omega
theorem ri(op:Int)(h1:8<=op)(h2:op<=20)(x y:Iv)(hx:cN x)(hy:cN y):bM Tryz.prog 127 [.n .i64 op,iv x,iv y] [.v (iv (bi op x y).1),.v (.n .i64 (bi op x y).2)]:=by
 refine ag aD O5 ⟨by simp,by decide⟩ ?_
 have hkx:=i5.2 hx
 have hky:=i5.2 hy
 have wx:IntKind.u32.wrap x.1=x.1:=tL (by omega)
 have wy:IntKind.u32.wrap y.1=y.1:=tL (by omega)
 simp only[aE,iv]
 repeat first|with_reducible refine aq ?_|simp only[go_sem,simprocAttr]
 refine GA.loop (I:=λm e H=>∃k:Nat,m=2-k/\k<=2/\e=az [(0,.n .i64 op),(4,.p 0 0),(5,.p 1 0),(6,.p 2 0),(17,.sl 3 0 2 2),(18,.n .i64 2),(19,.n .i64 k)]/\H=ah [ae 2 127 [.n .i64 x.1,.n .i64 x.2,.n .i64 y.1,.n .i64 y.2],ae 0 127 [.n .i64 0,.n .i64 0],ae 0 127 [.n .i64 y.1,.n .i64 y.2],ae 0 127 [.n .i64 x.1,.n .i64 x.2]]) (Wk.mk [3,2,1,0] [] ?_ ?_ ?_) ⟨0,rfl,by omega,rfl,rfl⟩ ?_
 ·exact a8
 ·exact .cr (.j4) (.cr (.j2) (.cr (.j2) (.cr (.j2) .nil)))
 ·simp
 rintro m e H ⟨k,rfl,hk,rfl,rfl⟩
 rcases(show k=0\/k=1\/k=2 by omega) with rfl|rfl|rfl
 ·repeat first|with_reducible refine aq ?_|simp only[go_sem,simprocAttr]
  refine bS ([iv x]) (iX x) ?_
  repeat first|with_reducible refine aq ?_|simp only[hkx,ne_eq,not_true_eq_false,decide_true,decide_false,Bool.not_true,go_sem,simprocAttr]
  refine⟨_,_,_,?_,Wk.mk [3,2,1,0] [] ?_ ?_ ?_,1,rfl,by omega,rfl,rfl⟩
  ·omega
  ·exact a8
  ·exact .cr .ls (.cr .ls (.cr .ls (.cr .ls .nil)))
  ·simp
 ·repeat first|with_reducible refine aq ?_|simp only[go_sem,simprocAttr]
  refine bS ([iv y]) (iX y) ?_
  repeat first|with_reducible refine aq ?_|simp only[hky,ne_eq,not_true_eq_false,decide_true,decide_false,Bool.not_true,go_sem,simprocAttr]
  refine⟨_,_,_,?_,Wk.mk [3,2,1,0] [] ?_ ?_ ?_,2,rfl,by omega,rfl,rfl⟩
  ·omega
  ·exact a8
  ·exact .cr .ls (.cr .ls (.cr .ls (.cr .ls .nil)))
  ·simp
 repeat first|with_reducible refine aq ?_|simp only[go_sem,simprocAttr]
 refine cn [] (fargs:=[]) (ck.same rfl) u5 True.intro (by simp only[go_sem,simprocAttr]) ?_
 rintro rs N ⟨r,mx,rfl,hN,hF⟩ hfree
 obtain⟨g,hg,hC⟩:=hF op h1 h2
 have hl:=qX hg
 have hN1:∀bl,Av (ah bl).ob N r=some (.mp mx):=λbl=>(ko (by rw[lP])).trans hN
 by_cases hz:y.1=0/\(op=11\/op=12)
 ·have hA:bi op x y=((0,0),17):=by unfold bi;rw[if_pos hz]
  have z0:=eq_true hz.1
  rcases hz.2 with e|e
  ·subst e
   repeat first|with_reducible refine aq ?_|simp only[hN1,hl,z0,decide_true,decide_false,Bool.not_true,go_sem,simprocAttr]
   rw[hA]
   exact cK rfl rfl rfl rfl
  ·subst e
   repeat first|with_reducible refine aq ?_|simp only[hN1,hl,z0,decide_true,decide_false,Bool.not_true,go_sem,simprocAttr]
   rw[hA]
   exact cK rfl rfl rfl rfl
 by_cases z0:y.1=0
 ·have z1:=eq_true z0
  have n11:¬op=11:=λe=>hz ⟨z0,.inl e⟩
  have n12:¬op=12:=λe=>hz ⟨z0,.inr e⟩
  by_cases c1:x.1=x.2
  ·have c1':=eq_true c1
   by_cases c2:y.1=y.2
   ·have c2':=eq_true c2
    have hA:bi op x y=((cC op x.1 y.1,cC op x.1 y.1),0):=by unfold bi;rw[if_neg hz,if_pos ⟨c1,c2⟩]
    repeat first|with_reducible refine aq ?_|simp only[hN1,hl,z1,n11,n12,c1',c2',wx,wy,decide_true,decide_false,Bool.not_true,go_sem,simprocAttr]
    refine bS ([.n .i64 op,.n .u32 x.1,.n .u32 y.1]) (mL op x.1 y.1 h1 h2 ⟨hx.1,by omega⟩ ⟨hy.1,by omega⟩ (λh e=>hz ⟨e,h⟩)) ?_
    repeat first|with_reducible refine aq ?_|simp only[go_sem,simprocAttr]
    refine bS ([.n .u32 (cC op x.1 y.1)]) (ft _ (kQ ⟨h1,h2⟩ ⟨hx.1,by omega⟩ ⟨hy.1,by omega⟩ (λe=>⟨λh=>hz ⟨e,.inl h⟩,λh=>hz ⟨e,.inr h⟩⟩))) ?_
    simp only[iv]
    repeat first|with_reducible refine aq ?_|simp only[go_sem,simprocAttr]
    rw[hA]
    exact cK rfl rfl rfl rfl
   ·have hA:bi op x y=(bZ op x y,0):=by unfold bi;rw[if_neg hz,if_neg (λh=>c2 h.2)]
    repeat first|with_reducible refine aq ?_|simp only[hN1,hl,z1,n11,n12,c1',c2,decide_true,decide_false,Bool.not_true,go_sem,simprocAttr]
    refine bS ([gM x y]) (hC x y hx hy (λh e=>hz ⟨e,h⟩)) ?_
    simp only[iv]
    repeat first|with_reducible refine aq ?_|simp only[go_sem,simprocAttr]
    rw[hA]
    exact cK rfl rfl rfl rfl
  ·have hA:bi op x y=(bZ op x y,0):=by unfold bi;rw[if_neg hz,if_neg (λh=>c1 h.1)]
   repeat first|with_reducible refine aq ?_|simp only[hN1,hl,z1,n11,n12,c1,decide_true,decide_false,Bool.not_true,go_sem,simprocAttr]
   refine bS ([gM x y]) (hC x y hx hy (λh e=>hz ⟨e,h⟩)) ?_
   simp only[iv]
   repeat first|with_reducible refine aq ?_|simp only[go_sem,simprocAttr]
   rw[hA]
   exact cK rfl rfl rfl rfl
 ·by_cases c1:x.1=x.2
  ·have c1':=eq_true c1
   by_cases c2:y.1=y.2
   ·have c2':=eq_true c2
    have hA:bi op x y=((cC op x.1 y.1,cC op x.1 y.1),0):=by unfold bi;rw[if_neg hz,if_pos ⟨c1,c2⟩]
    repeat first|with_reducible refine aq ?_|simp only[hN1,hl,z0,c1',c2',wx,wy,decide_true,decide_false,Bool.not_true,go_sem,simprocAttr]
    refine bS ([.n .i64 op,.n .u32 x.1,.n .u32 y.1]) (mL op x.1 y.1 h1 h2 ⟨hx.1,by omega⟩ ⟨hy.1,by omega⟩ (λh e=>hz ⟨e,h⟩)) ?_
    repeat first|with_reducible refine aq ?_|simp only[go_sem,simprocAttr]
    refine bS ([.n .u32 (cC op x.1 y.1)]) (ft _ (kQ ⟨h1,h2⟩ ⟨hx.1,by omega⟩ ⟨hy.1,by omega⟩ (λe=>⟨λh=>hz ⟨e,.inl h⟩,λh=>hz ⟨e,.inr h⟩⟩))) ?_
    simp only[iv]
    repeat first|with_reducible refine aq ?_|simp only[go_sem,simprocAttr]
    rw[hA]
    exact cK rfl rfl rfl rfl
   ·have hA:bi op x y=(bZ op x y,0):=by unfold bi;rw[if_neg hz,if_neg (λh=>c2 h.2)]
    repeat first|with_reducible refine aq ?_|simp only[hN1,hl,z0,c1',c2,decide_true,decide_false,Bool.not_true,go_sem,simprocAttr]
    refine bS ([gM x y]) (hC x y hx hy (λh e=>hz ⟨e,h⟩)) ?_
    simp only[iv]
    repeat first|with_reducible refine aq ?_|simp only[go_sem,simprocAttr]
    rw[hA]
    exact cK rfl rfl rfl rfl
  ·have hA:bi op x y=(bZ op x y,0):=by unfold bi;rw[if_neg hz,if_neg (λh=>c1 h.1)]
   repeat first|with_reducible refine aq ?_|simp only[hN1,hl,z0,c1,decide_true,decide_false,Bool.not_true,go_sem,simprocAttr]
   refine bS ([gM x y]) (hC x y hx hy (λh e=>hz ⟨e,h⟩)) ?_
   simp only[iv]
   repeat first|with_reducible refine aq ?_|simp only[go_sem,simprocAttr]
   rw[hA]
   exact cK rfl rfl rfl rfl
def vl(v:Vl):AV:= .agg [.b v.1,.n .i64 v.2.1,.n .i64 v.2.2]
def gQ(b:Bd):AV:= .agg [.n .i64 b.1,.n .i64 b.2]
abbrev nM(b:Bd):Prop:=(0<=b.1/\b.1<=281474976710657)/\0<=b.2/\b.2<=281474976710657
theorem CO{b c:Bd}(hb:nM b)(hc:nM c):nM (bw b c):=⟨aC (by omega),aC (by omega)⟩
theorem Ak{b:Bd}{n:Int}(hb:nM b)(hn:0<=n):nM (fB b n):=⟨bz (aC (by omega)).1 hn,bz hb.2.1 hn⟩
theorem fH(x:Iv):bM Tryz.prog 125 [iv x] [.v (vl (false,x))]:=by
 refine ag aD PG ⟨by simp,by decide⟩ ?_
 simp only[aE,iv,vl]
 repeat first|with_reducible refine aq ?_|simp only[go_sem,simprocAttr]
 exact aa rfl rfl
theorem iL(b c:Bd)(hb:nM b)(hc:nM c):bM Tryz.prog 90 [gQ b,gQ c] [.v (gQ (bw b c))]:=by
 refine ag aD QN ⟨by simp,by decide⟩ ?_
 simp only[aE,gQ]
 have w1:IntKind.i64.wrap (b.1+c.1)=b.1+c.1:=aj (by omega)
 have w2:IntKind.i64.wrap (b.2+c.2)=b.2+c.2:=aj (by omega)
 repeat first|with_reducible refine aq ?_|simp only[w1,w2,go_sem,simprocAttr]
 exact aa rfl rfl
theorem kY(a n:Int)(ha:0<=a/\a<=281474976710657)(hn:0<=n/\n<=65536):bM Tryz.prog 173 [.n .i64 a,.fp 1 (λ_=> .n .i64 n) 0] [.v (.n .i64 (aU a n))]:=by
 refine ag aD P2 ⟨by simp,by decide⟩ ?_
 simp only[aE]
 have hd:=jv (a:=281474976710657) (b:=n) (by decide) hn.1
 have w1:IntKind.i64.wrap (Int.tdiv 281474976710657 n)=281474976710657 / n:=by rw[Int.tdiv_eq_ediv_of_nonneg (by decide)];exact aj (by omega)
 by_cases h0:0<n
 ·have hz:n≠0:=by omega
  by_cases hc:281474976710657 / n<a
  ·repeat first|with_reducible refine aq ?_|simp only[h0,hz,if_false,cd,w1,hc,gt_iff_lt,decide_true,go_sem,simprocAttr]
   exact aa (by rw[show aU a n=281474976710657 from if_pos ⟨h0,hc⟩]) rfl
  ·have hle:a*n<=281474976710657:=(Int.le_ediv_iff_mul_le h0).1 (Int.not_lt.1 hc)
   have hp:0<=a*n:=Int.mul_nonneg ha.1 hn.1
   have w2:IntKind.i64.wrap (a*n)=a*n:=aj (by omega)
   repeat first|with_reducible refine aq ?_|simp only[h0,hz,if_false,cd,w1,hc,w2,gt_iff_lt,decide_true,decide_false,go_sem,simprocAttr]
   exact aa (by rw[show aU a n=bk (a*n) from if_neg (λh=>hc h.2)];rfl) rfl
 ·have hz:n=0:=by omega
  subst hz
  have w0:IntKind.i64.wrap 0=0:=rfl
  repeat first|with_reducible refine aq ?_|simp only[h0,gt_iff_lt,decide_true,decide_false,Int.mul_zero,w0,go_sem,simprocAttr]
  exact aa (by rw[show aU a 0=bk (a*0) from if_neg (λh=>by cases h.1),Int.mul_zero];rfl) rfl
theorem sr(b:Bd)(n:Int)(hb:nM b)(hn:0<=n/\n<=65536):bM Tryz.prog 122 [gQ b,.n .i64 n] [.v (gQ (fB b n))]:=by
 refine ag aD P5 ⟨by simp,by decide⟩ ?_
 simp only[aE,gQ]
 have w1:IntKind.i64.wrap (b.1+1)=b.1+1:=aj (by omega)
 have hF:=aC (n:=b.1+1) (by omega)
 repeat first|with_reducible refine aq ?_|simp only[w1,go_sem,simprocAttr]
 refine oA [1] (fargs:=[.n .i64 (bk (b.1+1)),.fp 1 (λ_=> .n .i64 n) 0]) ⟨.rfl rfl,.p (o:=0) (j:=0) (x:=_) (by simp) (by simp only[go_sem,simprocAttr]<;>rfl) (by simp) (by simp) (λq hq=>by cases Nat.lt_one_iff.1 hq;simp only[go_sem,simprocAttr]) (λq hq=>rfl),trivial⟩ (kY _ n hF hn) (by simp only[go_sem,simprocAttr]) (λr hr=>by cases List.mem_singleton.1 hr;rfl) ?_
 repeat first|with_reducible refine aq ?_|simp only[go_sem,simprocAttr]
 refine oA [1] (fargs:=[.n .i64 b.2,.fp 1 (λ_=> .n .i64 n) 0]) ⟨.rfl rfl,.p (o:=0) (j:=0) (x:=_) (by simp) (by simp only[go_sem,simprocAttr]<;>rfl) (by simp) (by simp) (λq hq=>by cases Nat.lt_one_iff.1 hq;simp only[go_sem,simprocAttr]) (λq hq=>rfl),trivial⟩ (kY b.2 n hb.2 hn) (by simp only[go_sem,simprocAttr]) (λr hr=>by cases List.mem_singleton.1 hr;rfl) ?_
 repeat first|with_reducible refine aq ?_|simp only[go_sem,simprocAttr]
 exact aa rfl rfl
/-! ### the stack effect-/
def CE(l:List UInt8):AV:= .s ⟨l.toArray⟩
def VQ(k:Nat):List AV->Bool
 |[.s _,.s a,.s b,_,_]=>a.data.toList==(fg k).1&&b.data.toList==(fg k).2
 |_=>false
noncomputable def WA:Bool:=match ug (u4 W0.get 3000 20) 97 [] with
 |some (.agg L)=>(List.range 36).all λk=>VQ k ((L.drop (k*5)).take 5)
 |_=>false
theorem CF:WA=true:=by kernel_rfl
theorem te:∃L:List AV,bM Tryz.prog 97 [] [.v (.agg L)]/\L.length=36*5/\∀k:Nat,k<36->∃a,(L.drop (k*5)).take 5=[.s a,.s ⟨(fg k).1.toArray⟩,.s ⟨(fg k).2.toArray⟩,.n .u64 (lj k),.b (lx k)]:=by
 have h:=CF
 have h':=t8
 unfold WA at h
 unfold I9 at h'
 split at h
 ·rename_i L hr
  rw[hr] at h'
  simp only[Bool.and_eq_true,decide_eq_true_eq] at h'
  refine⟨L,oq (λB=>pc B aD x9 3000 20) hr,h'.1,λk hk=>?_⟩
  have h1:=List.all_eq_true.1 h k (List.mem_range.2 hk)
  obtain⟨a,b,c,h2⟩:=qD (List.all_eq_true.1 h'.2 k (List.mem_range.2 hk))
  rw[h2] at h1 ⊢
  simp only[VQ,Bool.and_eq_true,beq_iff_eq] at h1
  exact⟨a,by rw[<-h1.1,<-h1.2]⟩
 ·cases h
theorem tf(k:Nat)(hk:k<36):bM Tryz.prog 103 [.n .i64 k] [.v (CE (fg k).1),.v (CE (fg k).2),.v (.b true)]:=by
 obtain⟨L,hL,hlen,hrow⟩:=te
 obtain⟨a,hr⟩:=hrow k hk
 have hkn:bM Tryz.prog 70 [.n .i64 k] [.v (.agg [.s a,.s ⟨(fg k).1.toArray⟩,.s ⟨(fg k).2.toArray⟩,.n .u64 (lj k),.b (lx k)]),.v (.b true)]:=by
  refine ag aD Dt ⟨by simp,by decide⟩ ?_
  simp only[aE]
  have h0:¬((k:Int)<0):=by omega
  have h1:¬((36:Int)<=k):=by omega
  have h2:(0:Int)<=(k:Int):=by omega
  have h3:(k:Int)<36:=by omega
  repeat first|with_reducible refine aq ?_|simp only[h0,h1,ge_iff_le,decide_true,decide_false,go_sem,simprocAttr]
  refine bS ([]) hL ?_
  repeat first|with_reducible refine aq ?_|simp only[hlen,h2,h3,hr,Int.toNat_natCast,and_self,go_sem,simprocAttr]
  exact⟨[_,_],rfl,⟨rfl,rfl⟩,⟨rfl,rfl⟩,trivial⟩
 refine ag aD PK ⟨by simp,by decide⟩ ?_
 simp only[aE]
 repeat first|with_reducible refine aq ?_|simp only[go_sem,simprocAttr]
 refine bS ([.n .i64 k]) hkn ?_
 simp only[CE]
 repeat first|with_reducible refine aq ?_|simp only[go_sem,simprocAttr]
 exact⟨[_,_,_],rfl,⟨rfl,rfl⟩,⟨rfl,rfl⟩,⟨rfl,rfl⟩,trivial⟩
def yb:List Int->List ep->Bool->Int
 |[],_,w=>if w=true then 2 else 0
 |_::_,[],_=>0
 |a::ls,x::li,w=>if x.1=a then yb ls li (w||decide (x.2.1<0)||decide (65536<x.2.1)) else 23
abbrev C1(l:List ep):Prop:=∀x ∈ l,0<=x.2.1/\x.2.1<=65536
theorem ya:∀(ls:List Int) (li:List ep) (w:Bool),ls.length=li.length->yb ls li w=if(li.map λx=>x.1)=ls then(if w=false/\C1 li then 0 else 2) else 23
 |[],[],w,_=>by
  rw[yb,if_pos (show(([]:List ep).map λx=>x.1)=[] from rfl)]
  cases w
  ·rw[if_neg (by decide),if_pos ⟨rfl,λx h=>by cases h⟩]
  ·rw[if_pos rfl,if_neg (λh=>by cases h.1)]
 |[],_::_,_,h=>by simp at h
 |_::_,[],_,h=>by simp at h
 |a::ls,x::li,w,h=>by
  have hl:ls.length=li.length:=by simpa using h
  rw[yb,ya ls li _ hl]
  by_cases e:x.1=a
  ·rw[if_pos e]
   by_cases e2:(li.map λx=>x.1)=ls
   ·have hh:(List.map (λx:ep=>x.1) (x::li))=a::ls:=by rw[List.map_cons,e,e2]
    rw[if_pos e2,if_pos hh]
    have key:((w||decide (x.2.1<0)||decide (65536<x.2.1))=false/\C1 li)↔(w=false/\C1 (x::li)):=by
     simp only[Bool.or_eq_false_iff,decide_eq_false_iff_not]
     constructor
     ·rintro ⟨⟨⟨h1,h2⟩,h3⟩,h4⟩
      refine⟨h1,λy hy=>?_⟩
      rcases List.mem_cons.1 hy with rfl|hy
      ·omega
      ·exact h4 y hy
     ·rintro ⟨h1,h2⟩
      have:=h2 x (List.mem_cons_self ..)
      exact⟨⟨⟨h1,by omega⟩,by omega⟩,λy hy=>h2 y (List.mem_cons_of_mem _ hy)⟩
    by_cases k:w=false/\C1 (x::li)
    ·rw[if_pos (key.2 k),if_pos k]
    ·rw[if_neg (λq=>k (key.1 q)),if_neg k]
   ·rw[if_neg e2,if_neg (λq=>e2 (by rw[List.map_cons] at q;exact(List.cons.inj q).2))]
  ·rw[if_neg e,if_neg (λq=>e (by rw[List.map_cons] at q;exact(List.cons.inj q).1))]
theorem BH(ls:List Int)(li:List ep)(h:ls.length=li.length):nF ls li=yb ls li false:=by
 rw[ya ls li false h,nF]
 by_cases e:(li.map λx=>x.1)=ls
 ·rw[if_pos ⟨h,e⟩,if_pos e]
  by_cases k:C1 li
  ·rw[if_pos k,if_pos ⟨rfl,k⟩]
  ·rw[if_neg k,if_neg (λq=>k q.2)]
 ·rw[if_neg (λq=>e q.2),if_neg e]
theorem xR(ls:List Int)(li:List ep)(h:ls.length≠li.length):nF ls li=23:=if_neg (λq=>h q.1)
theorem jr(cs:List (Int×Int)):∀(k:Nat) (a:Int),a ∈ bD cs k->a<k
 |0,a,h=>by cases h
 |k+1,a,h=>by
  rw[bD] at h
  split at h
  ·rcases List.mem_append.1 h with h|h
   ·have:=jr cs k a h;omega
   ·have:a=k:=by simpa using h
    omega
  ·have:=jr cs k a h;omega
theorem fE(cs:List (Int×Int)):∀k:Nat,(bD cs k).Nodup
 |0=>List.nodup_nil
 |k+1=>by
  rw[bD]
  split
  ·rw[List.nodup_append]
   refine⟨fE cs k,by simp,λa ha b hb=>?_⟩
   have:=jr cs k a ha
   have hb:b=k:=by simpa using hb
   omega
  ·exact fE cs k
theorem pz(cs:List (Int×Int)):(dd cs).Nodup:=by
 unfold dd
 split
 ·exact fE cs _
 ·exact List.nodup_nil
theorem jq:∀{l:List ep} {x:ep},x.1 ∉ (l.map λx=>x.1)->∀a,aZ (l++[x]) a=if a=x.1 then x.2.1 else aZ l a
 |[],x,_,a=>by
  show(if x.1=a then x.2.1 else 0)=_
  by_cases e:a=x.1
  ·rw[if_pos e,if_pos e.symm]
  ·rw[if_neg e,if_neg (λq=>e q.symm)];rfl
 |y::l,x,h,a=>by
  rw[List.map_cons,List.mem_cons,not_or] at h
  rw[List.cons_append,aZ,jq h.2]
  by_cases e:y.1=a
  ·rw[if_pos e,if_neg (λq=>h.1 (q.symm.trans e.symm)),aZ,if_pos e]
  ·rw[if_neg e,aZ,if_neg e]
theorem ga.look_put(y:ga)(k:Int)(q:IntKind)(v a:Int)(z:AV):(y.put k (.n q v)).look false z a=if a=k then .n q v else y.look false z a:=by
 show(match(if a=k then some (AV.n q v) else y.get a) with
  |some v=>nB false v true
  |none=>nB false z false)=_
 by_cases e:a=k
 ·rw[if_pos e,if_pos e];rfl
 ·rw[if_neg e,if_neg e];rfl
def dH(la:List (Bool×Int))(loc:Int)(cs:List (Int×Int))(li:List ep):Int:=if(dg la loc cs).2=0 then nF (dd cs) li else(dg la loc cs).2
theorem nf{la:List (Bool×Int)}{loc:Int}{cs:List (Int×Int)}(h:(dg la loc cs).2=0):(ay cs).2.2=0/\cs.length<=1024:=by
 have hp:(ay cs).2.2=0:=by
  unfold dg at h
  split at h
  ·split at h
   ·assumption
   ·exact h
  ·rename_i h1
   exact absurd h h1
 refine⟨hp,?_⟩
 by_cases e:1024<cs.length
 ·rw[ay,if_pos e] at hp
  exact absurd hp (by decide)
 ·omega
def rT(la:List (Bool×Int))(loc:Int)(cs:List (Int×Int))(li:List ep)(rs:List RT)(N:Nat->Option OB):Prop:=
 (dH la loc cs li≠0/\rs=[.v (.agg [.sl0,.cv (.map none)]),.v .sl0,.v (.n .i64 (dH la loc cs li))]/\N=λ_=>none)\/
 (dH la loc cs li=0/\∃r,AA li r N/\rs=[.v (eN cs r),.v (.fs 5 (ay cs).1.len (ay cs).1.cell),.v (.n .i64 0)])
theorem uF{la:List (Bool×Int)}{loc:Int}{cs:List (Int×Int)}{li:List ep}{H:AH}{e:Int}(h:dH la loc cs li=e)(h0:e≠0):∃(rs:List RT) (N:Nat->Option OB) (l:List AV),rT la loc cs li rs N/\a9 [.agg [.sl0,.cv (.map none)],.sl0,.n .i64 e]=a9 l/\ku rs l H/\∀r x,N r=some x->H.ob r=some x/\x5 x=true:=
 ⟨_,_,[.agg [.sl0,.cv (.map none)],.sl0,.n .i64 e],.inl ⟨by rw[h];exact h0,rfl,rfl⟩,rfl,⟨⟨rfl,rfl⟩,⟨rfl,rfl⟩,⟨by rw[h],rfl⟩,trivial⟩,λr x hx=>by cases hx⟩
theorem qJ(la:List (Bool×Int))(loc:Int)(cs:List (Int×Int))(hl:la.length<=9223372036854775807)(hc:cs.length<=9223372036854775807)(ha:cF cs)(s e h:Int)(li:List ep)(hli:li.length<=1024)(hL:tH li):
  wZ Tryz.prog 34 [aH la loc cs,jL s e h li] (λ_=>True) (λM rs N=>rT la loc cs li rs N):=by
 refine lR aD Ow ⟨by simp,by decide⟩ λM _=>?_
 simp only[aE,aH,jL]
 repeat first|with_reducible refine aq ?_|simp only[go_sem,simprocAttr]
 refine bS ([aH la loc cs]) (ji la loc cs hl hc ha) ?_
 by_cases h1:(dg la loc cs).2=0
 rotate_left
 ·repeat first|with_reducible refine aq ?_|simp only[h1,ne_eq,not_false_eq_true,decide_true,decide_false,Bool.not_false,go_sem,simprocAttr]
  exact uF (if_neg h1) h1
 have hO:dH la loc cs li=nF (dd cs) li:=if_pos h1
 obtain⟨hp,hcs⟩:=nf h1
 repeat first|with_reducible refine aq ?_|simp only[h1,ne_eq,not_true_eq_false,decide_true,decide_false,Bool.not_true,go_sem,simprocAttr]
 refine bS ([.fs 2 cs.length (pI cs)]) (vR cs (by omega)) ?_
 rw[hp]
 have hnd:=pz cs
 have hlen:(dd cs).length<=1024:=by
  rw[dd,if_pos hp]
  exact Nat.le_trans (iq cs _) hcs
 generalize hls:dd cs=ls at hO hnd hlen ⊢
 by_cases h2:ls.length=li.length
 rotate_left
 ·have h2':¬(ls.length:Int)=li.length:=by omega
  repeat first|with_reducible refine aq ?_|simp only[h2',ne_eq,not_true_eq_false,not_false_eq_true,decide_true,decide_false,Bool.not_true,Bool.not_false,go_sem,simprocAttr]
  exact uF (hO.trans (xR ls li h2)) (by decide)
 have h2':(ls.length:Int)=li.length:=by omega
 rw[BH ls li h2] at hO
 repeat first|with_reducible refine aq ?_|simp only[h2',ne_eq,not_true_eq_false,decide_true,decide_false,Bool.not_true,go_sem,simprocAttr]
 refine po λr hr=>?_
 repeat first|with_reducible refine aq ?_|simp only[go_sem,simprocAttr]
 refine GA.loop (I:=λm ev H=>∃(k:Nat) (wr:Bool) (y:ga) (ob:Nat->Option OB),m=ls.length-k/\k<=ls.length/\yb ls li false=yb (ls.drop k) (li.drop k) wr/\ob r=some (.mp y)/\y.own=true/\(∀a,y.look false (.n .i64 0) a= .n .i64 (aZ (li.take k) a))/\((li.take k).map λx=>x.1)=ls.take k/\
   ev=az [(2,.p 0 0),(3,.p 1 0),(4,.p 2 0),(11,.p 3 0),(12,.b wr),(48,.fs 1 ls.length (iC ls)),(49,.n .i64 li.length),(50,.n .i64 k)]/\
   H=aw ob [ae 0 88 [.fs 2 cs.length (pI cs),.cv (.map (some r))],ae 0 88 [.sl0,.cv (.map none)],ae 0 38 [.n .i64 s,.n .i64 e,.n .i64 h,.fs 3 li.length (vI li)],ae 0 25 [.fs 2 la.length (pA la),.n .i64 loc,.fs 2 cs.length (pI cs)]])
  (Wk.mkS [4,2,1,0] [3] ?_ ?_ ?_) ⟨0,false,⟨true,λ_=>none,0,none⟩,_,rfl,Nat.zero_le _,rfl,?_,rfl,λa=>rfl,rfl,rfl,rfl⟩ ?_
 ·simp only[eo,cQ,go_sem,simprocAttr]
  repeat' refine aY ?_ ?_
  all_goals first|exact i8|skip
  exact .cv (.os (x:=ai 3 1 ls.length 0 (iC ls)) (by simp) (by simp only[go_sem,simprocAttr]) (Nat.le_refl _) (λi j _ hj=>aJ i j hj) (λi j _ _=>rfl))
 ·exact .cr (.j2) (.cr (.j2) (.cr (.j4) (.cr (.j3) .nil)))
 ·simp
 ·simp only[go_sem,simprocAttr]
 rintro m ev H ⟨k,wr,y,ob,rfl,hk,hs,hob,hown,hlook,hmap,rfl,rfl⟩
 have h0:(0:Int)<=(k:Int):=by omega
 by_cases hkl:k<ls.length
 rotate_left
 ·have hk':¬(k:Int)<li.length:=by omega
  obtain rfl:k=ls.length:=by omega
  rw[List.drop_length,yb] at hs
  rw[List.take_length,h2,List.take_length] at hmap
  rw[h2,List.take_length] at hlook
  cases wr
  ·repeat first|with_reducible refine aq ?_|simp only[hk',decide_false,go_sem,simprocAttr]
   refine bS ([.fs 2 cs.length (pI cs)]) (kB cs) ?_
   rw[hp]
   repeat first|with_reducible refine aq ?_|simp only[go_sem,simprocAttr]
   exact⟨_,λq=>if q=r then some (.mp y) else none,[eN cs r,.fs 5 (ay cs).1.len (ay cs).1.cell,.n .i64 0],.inr ⟨hO.trans (hs.trans (if_neg (by decide))),r,⟨y,if_pos rfl,hlook⟩,rfl⟩,rfl,⟨⟨rfl,rfl⟩,⟨rfl,rfl⟩,⟨rfl,rfl⟩,trivial⟩,λq x hx=>by
    have hx2:(if q=r then some (OB.mp y) else none)=some x:=hx
    clear hx
    by_cases hq:q=r
    ·rw[if_pos hq] at hx2
     cases hx2
     subst hq
     exact⟨by simp only[hob,go_sem,simprocAttr],hown⟩
    ·rw[if_neg hq] at hx2
     cases hx2⟩
  ·repeat first|with_reducible refine aq ?_|simp only[hk',decide_false,go_sem,simprocAttr]
   exact uF (hO.trans (hs.trans (if_pos rfl))) (by decide)
 have hk1:(k:Int)<li.length:=by omega
 have hk2:(k:Int)<ls.length:=by omega
 have hkl':k<li.length:=by omega
 have wk:IntKind.i64.wrap ((k:Int)+1)=((k+1:Nat):Int):=(aj (by omega)).trans (by omega)
 rw[cE (d:=0) hkl,cE (d:=lI) hkl',yb] at hs
 have htl:li.take (k+1)=li.take k++[li.getD k lI]:=by
  rw[List.take_add_one,List.getD_eq_getElem?_getD,List.getElem?_eq_getElem hkl'];rfl
 have htl2:ls.take (k+1)=ls.take k++[ls.getD k 0]:=by
  rw[List.take_add_one,List.getD_eq_getElem?_getD,List.getElem?_eq_getElem hkl];rfl
 have hLk:Kr (vI li k 2):=hL _ (by
  rw[List.getD_eq_getElem?_getD,List.getElem?_eq_getElem hkl'];exact List.getElem_mem hkl')
 by_cases h3:(li.getD k lI).1=ls.getD k 0
 rotate_left
 ·rw[if_neg h3] at hs
  rcases hLk with hV2|⟨x3,x4,hV2⟩
  all_goals
   repeat first|with_reducible refine aq ?_|simp only[h0,hk1,hk2,Wp,vI0,vI1,hV2,oI,ua,h3,ne_eq,not_false_eq_true,decide_true,Bool.not_false,go_sem,simprocAttr]
   exact uF (hO.trans hs) (by decide)
 rw[if_pos h3] at hs
 have hnot:(li.getD k lI).1 ∉ ((li.take k).map λx=>x.1):=by
  rw[hmap,h3]
  intro hin
  have hn2:(ls.take (k+1)).Nodup:=hnd.sublist (List.take_sublist _ _)
  rw[htl2,List.nodup_append] at hn2
  exact hn2.2.2 _ hin _ (List.mem_singleton.2 rfl) rfl
 have hmap':((li.take (k+1)).map λx=>x.1)=ls.take (k+1):=by
  rw[htl,htl2,List.map_append,hmap]
  simp only[List.map_cons,List.map_nil,h3]
 have hlook':∀a,(y.put (ls.getD k 0) (.n .i64 (li.getD k lI).2.1)).look false (.n .i64 0) a= .n .i64 (aZ (li.take (k+1)) a):=λa=>by
  rw[ga.look_put,htl,jq hnot,hlook,h3]
  split<;>rfl
 generalize hx:li.getD k lI=x at hs h3 hlook' htl
 obtain⟨x1,x2,x3⟩:=x
 replace h3:x1=ls.getD k 0:=h3
 subst h3
 have hV0:vI li k 0= .n .i64 (ls.getD k 0):=by rw[vI0,hx]
 have hV1:vI li k 1= .n .i64 x2:=by rw[vI1,hx]
 replace hs:yb ls li false=yb (ls.drop (k+1)) (li.drop (k+1)) (wr||decide (x2<0)||decide (65536<x2)):=hs
 replace hlook':∀a,(y.put (ls.getD k 0) (.n .i64 x2)).look false (.n .i64 0) a= .n .i64 (aZ (li.take (k+1)) a):=hlook'
 clear hlook htl hmap hnot
 rcases hLk with hV2|⟨x3,x4,hV2⟩<;>cases wr<;>cases q1:decide (x2<0)<;>cases q2:decide (65536<x2)
 all_goals
  rw[q1,q2] at hs
  repeat first|with_reducible refine aq ?_|simp only[h0,hk1,hk2,Wp,hV0,hV1,hV2,oI,ua,hob,hown,q1,q2,wk,gt_iff_lt,ne_eq,not_true_eq_false,decide_true,decide_false,Bool.not_true,go_sem,simprocAttr]
  refine⟨_,_,_,?_,Wk.mkS [3,2,1,0] [] ?_ ?_ ?_,k+1,_,y.put (ls.getD k 0) (.n .i64 x2),_,rfl,by omega,hs,?_,hown,hlook',hmap',rfl,rfl⟩
  ·omega
  ·exact a8
  ·exact .cr .ls (.cr .ls (.cr .ls (.cr .ls .nil)))
  ·simp
  ·simp only[go_sem,simprocAttr]
theorem tZ{ls:List Int}{li:List ep}(h:nF ls li=0):ls.length=li.length/\(li.map λx=>x.1)=ls/\C1 li:=by
 unfold nF at h
 split at h
 ·rename_i h1
  split at h
  ·rename_i h2
   exact⟨h1.1,h1.2,h2⟩
  ·exact absurd h (by decide)
 ·exact absurd h (by decide)
theorem pk{la:List (Bool×Int)}{loc:Int}{cs:List (Int×Int)}{li:List ep}(h:dH la loc cs li=0):∃out,aN cs out (ay cs).1 0 cs.length/\cs.length<=1024/\C1 li/\(ay cs).2.2=0:=by
 by_cases h1:(dg la loc cs).2=0
 ·have h2:nF (dd cs) li=0:=(if_pos h1).symm.trans h
  obtain⟨hp,_⟩:=nf h1
  rcases sI cs with⟨a,e,he,_,k2⟩|⟨out,o,_,k2,k3,_,k5⟩
  ·rw[k2] at hp;exact absurd hp he
  ·exact⟨out,by rw[k2];exact k5,k3,(tZ h2).2.2,hp⟩
 ·exact absurd ((if_neg h1).symm.trans h) h1
theorem rU.okf{cs:List (Int×Int)}(hcs:cs.length<=100000):∀{o:Fo},rU cs o->AR o
 |.nil,_=>trivial
 |.pl x y r,h=>⟨h.1,by have:=h.2.1;omega,rU.okf hcs h.2.2⟩
 |.br op x y u v r,h=>⟨h.1,rU.okf hcs h.2.1,rU.okf hcs h.2.2.1,rU.okf hcs h.2.2.2⟩
theorem rU.okp{cs:List (Int×Int)}{C:Nat->Nat->Prop}(hC:∀x y,x<=y->y<=cs.length->C x y):∀{o:Fo},rU cs o->Az C o
 |.nil,_=>trivial
 |.pl x y r,h=>⟨hC x y h.1 h.2.1,rU.okp hC h.2.2⟩
 |.br op x y u v r,h=>⟨h.1,rU.okp hC h.2.1,rU.okp hC h.2.2.1,rU.okp hC h.2.2.2⟩
def hD(la:List (Bool×Int))(loc:Int)(cs:List (Int×Int))(li:List ep):Int×Int:=if dH la loc cs li=0 then iG (aO li (ay cs).1 0) else(0,dH la loc cs li)
def mV(la:List (Bool×Int))(loc:Int)(cs:List (Int×Int))(li:List ep):Int×Int:=if dH la loc cs li=0 then iG (a7 cs li (ay cs).1 0) else(0,dH la loc cs li)
theorem vh{cs:List (Int×Int)}(hcs:cs.length<=1024)(r x y:Nat)(h1:x<=y)(h2:y<=cs.length):Kp cs r 36 (λx y=>(y:Int)-x) x y:=by
 have e:((y:Int)-x)=((y-x:Nat):Int):=by omega
 refine⟨?_,by show 0<=(y:Int)-x;omega,by show(y:Int)-x<=100000;omega⟩
 show bM Tryz.prog 36 [eN cs r,.n .i64 x,.n .i64 y] [.v (.n .i64 ((y:Int)-x))]
 rw[e]
 exact tu cs r x y h1 (by omega)
theorem vk{cs:List (Int×Int)}(hcs:cs.length<=1024)(r x y:Nat)(h1:x<=y)(h2:y<=cs.length):Kp cs r 37 (λx y=>(cA cs x (y-x):Nat)) x y:=by
 have:=kh cs x (y-x)
 exact⟨tz cs r x y h1 h2 (by omega),by show(0:Int)<=(cA cs x (y-x):Nat);omega,by show((cA cs x (y-x):Nat):Int)<=100000;omega⟩
theorem jw(la:List (Bool×Int))(loc:Int)(cs:List (Int×Int))(hl:la.length<=9223372036854775807)(hc:cs.length<=9223372036854775807)(ha:cF cs)(s e h:Int)(li:List ep)(hli:li.length<=1024)(hL:tH li):
  bM Tryz.prog 13 [aH la loc cs,jL s e h li] [.v (.n .i64 (hD la loc cs li).1),.v (.n .i64 (hD la loc cs li).2)]:=by
 refine ag aD OD ⟨by simp,by decide⟩ ?_
 simp only[aE,aH,jL]
 repeat first|with_reducible refine aq ?_|simp only[go_sem,simprocAttr]
 refine cn [] (fargs:=[aH la loc cs,jL s e h li]) (ck.same rfl) (qJ la loc cs hl hc ha s e h li hli hL) True.intro ?_ ?_
 ·simp only[go_sem,simprocAttr]
 rintro rs N (⟨h0,rfl,rfl⟩|⟨h0,r,⟨x,hx,hlk⟩,rfl⟩) hfree
 ·rw[show hD la loc cs li=(0,dH la loc cs li) from if_neg h0]
  repeat first|with_reducible refine aq ?_|simp only[h0,ne_eq,not_false_eq_true,decide_false,Bool.not_false,go_sem,simprocAttr]
  exact⟨[_,_],rfl,⟨rfl,rfl⟩,⟨rfl,rfl⟩,trivial⟩
 obtain⟨out,hg,hcs,hin,_⟩:=pk h0
 have hm:=fR hin
 have hok:=hg.oke (Nat.le_refl _)
 have hsz:=hg.size
 have hw:=lX cs r li 36 (λx y=>(y:Int)-x) 1 (by decide) hm _ (ay cs).1 (Nat.lt_succ_self _) (by omega) (hok.okp (vh hcs r))
 unfold rS at hw
 rw[dM (λa=>(hm a).1) _ 0 (hok.okf (by omega)) (by decide)] at hw
 rw[show hD la loc cs li=iG (aO li (ay cs).1 0) from if_pos h0]
 simp only[eN]
 repeat first|with_reducible refine aq ?_|simp only[ne_eq,not_true_eq_false,decide_true,Bool.not_true,go_sem,simprocAttr]
 refine cn [] (fargs:=[eN cs r,.fs 5 (ay cs).1.len (ay cs).1.cell,.f 36 [eN cs r] [],.n .i64 1]) (ck.same rfl) hw ⟨x,?_,hlk⟩ ?_ ?_
 ·simp only[go_sem,simprocAttr]
  exact(ko rfl).trans hx
 ·simp only[go_sem,simprocAttr]
 rintro rs N2 ⟨rfl,rfl⟩ _
 repeat first|with_reducible refine aq ?_|simp only[go_sem,simprocAttr]
 refine bS ([.n .i64 (aO li (ay cs).1 0)]) (iE _) ?_
 repeat first|with_reducible refine aq ?_|simp only[go_sem,simprocAttr]
 exact⟨[_,_],rfl,⟨rfl,rfl⟩,⟨rfl,rfl⟩,trivial⟩
theorem tt(la:List (Bool×Int))(loc:Int)(cs:List (Int×Int))(hl:la.length<=9223372036854775807)(hc:cs.length<=9223372036854775807)(ha:cF cs)(s e h:Int)(li:List ep)(hli:li.length<=1024)(hL:tH li):
  bM Tryz.prog 14 [aH la loc cs,jL s e h li] [.v (.n .i64 (mV la loc cs li).1),.v (.n .i64 (mV la loc cs li).2)]:=by
 refine ag aD Mz ⟨by simp,by decide⟩ ?_
 simp only[aE,aH,jL]
 repeat first|with_reducible refine aq ?_|simp only[go_sem,simprocAttr]
 refine cn [] (fargs:=[aH la loc cs,jL s e h li]) (ck.same rfl) (qJ la loc cs hl hc ha s e h li hli hL) True.intro ?_ ?_
 ·simp only[go_sem,simprocAttr]
 rintro rs N (⟨h0,rfl,rfl⟩|⟨h0,r,⟨x,hx,hlk⟩,rfl⟩) hfree
 ·rw[show mV la loc cs li=(0,dH la loc cs li) from if_neg h0]
  repeat first|with_reducible refine aq ?_|simp only[h0,ne_eq,not_false_eq_true,decide_false,Bool.not_false,go_sem,simprocAttr]
  exact⟨[_,_],rfl,⟨rfl,rfl⟩,⟨rfl,rfl⟩,trivial⟩
 obtain⟨out,hg,hcs,hin,_⟩:=pk h0
 have hm:=fR hin
 have hok:=hg.oke (Nat.le_refl _)
 have hsz:=hg.size
 have hw:=lX cs r li 37 (λx y=>(cA cs x (y-x):Nat)) 0 (by decide) hm _ (ay cs).1 (Nat.lt_succ_self _) (by omega) (hok.okp (vk hcs r))
 unfold rS at hw
 rw[dN (λa=>(hm a).1) _ 0 (by decide)] at hw
 rw[show mV la loc cs li=iG (a7 cs li (ay cs).1 0) from if_pos h0]
 simp only[eN]
 repeat first|with_reducible refine aq ?_|simp only[ne_eq,not_true_eq_false,decide_true,Bool.not_true,go_sem,simprocAttr]
 refine cn [] (fargs:=[eN cs r,.fs 5 (ay cs).1.len (ay cs).1.cell,.f 37 [eN cs r] [],.n .i64 0]) (ck.same rfl) hw ⟨x,?_,hlk⟩ ?_ ?_
 ·simp only[go_sem,simprocAttr]
  exact(ko rfl).trans hx
 ·simp only[go_sem,simprocAttr]
 rintro rs N2 ⟨rfl,rfl⟩ _
 repeat first|with_reducible refine aq ?_|simp only[go_sem,simprocAttr]
 refine bS ([.n .i64 (a7 cs li (ay cs).1 0)]) (iE _) ?_
 repeat first|with_reducible refine aq ?_|simp only[go_sem,simprocAttr]
 exact⟨[_,_],rfl,⟨rfl,rfl⟩,⟨rfl,rfl⟩,trivial⟩
end Go.Proofs.YtdpkgnmmikebdaaGreat