/- A part of the proof of CostReports: CbG VfD VfE VfF VfG VfH CbH CbI. No condition. -/
import Derived.Test.YtdpkgnmmikebdaaGreatGe27
import Derived.Test.YtdpkgnmmikebdaaGreatGe26
import Derived.Test.YtdpkgnmmikebdaaGreatGe22
import Derived.Test.YtdpkgnmmikebdaaGreatGe15
import Derived.Test.YtdpkgnmmikebdaaGreatGe20
import Derived.Test.YtdpkgnmmikebdaaGreatGe17
set_option linter.unusedSimpArgs false
set_option linter.unusedVariables false
set_option linter.constructorNameAsVariable false
set_option maxRecDepth 100000
set_option maxHeartbeats 4000000
namespace Go.Proofs.YtdpkgnmmikebdaaGreat
open Go.RowKit
def A2(C:Nat->Nat->Prop):Fo->Prop
 |.nil=>True
 |.pl x y r=>C x y/\A2 C r
 |.br op x y u v r=>(op=27\/op=29)/\A2 C u/\A2 C v/\A2 C r
def A3(li:List eV)(r:Nat)(M:Nat->Option OB):Prop:=∃x,M r=some (.mp x)/\∀a,x.look false (.n .i64 0) a= .n .i64 (bi li a)
def OZ(cs:List (Int×Int))(r:Nat)(g:FuncId)(pl:Nat->Nat->Int)(x y:Nat):Prop:=bU Tryz.prog g [eJ cs r,.n .i64 x,.n .i64 y] [.v (.n .i64 (pl x y))]/\0<=pl x y/\pl x y<=100000
def rF(cs:List (Int×Int))(r:Nat)(li:List eV)(g:FuncId)(pl:Nat->Nat->Int)(own:Int)(o:Fo):Prop:=
 wM Tryz.prog 35 [eJ cs r,.fs 5 o.len o.cell,.f g [eJ cs r] [],.n .i64 own] (A3 li r) (λM rs N=>rs=[.v (.n .i64 (bI li pl own o 0))]/\N=λ_=>none)
theorem abD{P:List RT->(Nat->Option OB)->Prop}{v:AV}{H:AH}(h:P [.v v] (λ_=>none))(hp:v.pu 3=true):∃(rs:List RT) (N:Nat->Option OB) (l:List AV),P rs N/\v=aX l/\kb rs l H/\∀r x,N r=some x->H.ob r=some x/\yp x=true:=
 ⟨_,_,[v],h,rfl,⟨⟨rfl,hp⟩,trivial⟩,λr x hx=>by cases hx⟩
theorem gS{C:Nat->Nat->Prop}{li:List eV}{pl:Nat->Nat->Int}{own:Int}(hown:0<=own/\own<=1)(hC:∀x y,C x y->0<=pl x y/\pl x y<=100000)(hm:∀a,0<=bi li a):∀(o:Fo) (n:Int),A2 C o->0<=n/\n<=281474976710657->0<=bI li pl own o n/\bI li pl own o n<=281474976710657
 |.nil,n,_,h=>h
 |.pl x y r,n,ho,h=>gS hown hC hm r _ ho.2 (aC (by have:=hC x y ho.1;omega))
 |.br op x y u v r,n,ho,h=>by
  have hu:=gS hown hC hm u 0 ho.2.1 (by omega)
  have hv:=gS hown hC hm v 0 ho.2.2.1 (by omega)
  refine gS hown hC hm r _ ho.2.2.2 (aC ?_)
  split
  ·have:=aC (n:=own+(if bI li pl own u 0<bI li pl own v 0 then bI li pl own v 0 else bI li pl own u 0)) (by split<;>omega)
   omega
  ·have h1:=(bz (aC (n:=own+bI li pl own u 0) (by omega)).1 (hm x)).1
   have:=aC (n:=own+bb (bj (own+bI li pl own u 0)) (bi li x)) (by omega)
   omega
theorem uH(cs:List (Int×Int))(r:Nat)(li:List eV)(g:FuncId)(pl:Nat->Nat->Int)(own:Int)(hown:0<=own/\own<=1)(hm:∀a,0<=bi li a/\bi li a<=65536)(o:Fo)(ho:A2 (OZ cs r g pl) o)(hlen:o.len<=100000)(ih:∀u:Fo,u.size<o.size->A2 (OZ cs r g pl) u->rF cs r li g pl own u):rF cs r li g pl own o:=by
 refine lD aE Di ⟨by simp,by decide⟩ λM hM=>?_
 obtain⟨y,hob,hlook⟩:∃y,lg M r=some (.mp y)/\∀a,y.look false (.n .i64 0) a= .n .i64 (bi li a):=by
  obtain⟨x0,hx0,hlook⟩:=hM
  exact⟨_,Cm hx0,hlook⟩
 have hW:∀u:Fo,A2 (OZ cs r g pl) u->0<=bI li pl own u 0/\bI li pl own u 0<=281474976710657:=λu hu=>gS hown (λx y h=>h.2) (λa=>(hm a).1) u 0 hu (by omega)
 have hMap:A3 li r (lg M):=⟨y,hob,hlook⟩
 clear hM
 simp only[aF,eJ]
 repeat first|with_reducible refine au ?_|simp only[go_sem,simprocAttr]
 refine GA.loop (I:=λm ev H=>∃(rest:Fo) (k:Nat) (n:Int),m=rest.size/\k+rest.len=o.len/\bI li pl own o 0=bI li pl own rest n/\(0<=n/\n<=281474976710657)/\A2 (OZ cs r g pl) rest/\(∀i j,i<rest.len->rest.cell i j=o.cell (k+i) j)/\rest.size<=o.size/\ev=aA [(2,.f g [.agg [.fs 2 cs.length (pI cs),.cv (.map (some r))]] []),(3,.n .i64 own),(4,.p 0 0),(9,.n .i64 n),(13,.fs 5 o.len o.cell),(14,.n .i64 o.len),(15,.n .i64 k)]/\H=aw (lg M) [aa 0 88 [.fs 2 cs.length (pI cs),.cv (.map (some r))]]) (Wk.mkS [0] [] ?_ ?_ ?_) ⟨o,0,0,rfl,by omega,rfl,by omega,ho,λi j _=>by rw[Nat.zero_add],Nat.le_refl _,rfl,rfl⟩ ?_
 ·exact aZ
 ·exact .cr (.j2) .nil
 ·simp
 rintro m ev H ⟨rest,k,n,rfl,hkl,hs,hn,hok,hc,hsz,rfl,rfl⟩
 have h0:(0:Int)<=(k:Int):=by omega
 cases rest with
 |nil=>
  have hk:¬(k:Int)<o.len:=by simp[Fo.len] at hkl;omega
  repeat first|with_reducible refine au ?_|simp only[hk,decide_false,go_sem,simprocAttr]
  exact abD (P:=λrs N=>rs=_/\N=λ_=>none) ⟨by rw[hs];rfl,rfl⟩ rfl
 |pl x y r'=>
  obtain⟨g1,g3⟩:=hok
  simp only[Fo.len] at hkl hc
  have hk:(k:Int)<o.len:=by omega
  have d0:o.cell k 0= .n .i64 (-1):=(hc 0 0 (by omega)).symm
  have d1:o.cell k 1= .n .i64 x:=(hc 0 1 (by omega)).symm
  have d2:o.cell k 2= .n .i64 y:=(hc 0 2 (by omega)).symm
  have d3:o.cell k 3= .sl0:=(hc 0 3 (by omega)).symm
  have d4:o.cell k 4= .sl0:=(hc 0 4 (by omega)).symm
  have wk:IntKind.i64.wrap ((k:Int)+1)=((k+1:Nat):Int):=(aj (by omega)).trans (by omega)
  obtain⟨g1,g2⟩:=g1
  repeat first|with_reducible refine au ?_|simp only[h0,hk,d0,d1,d2,d3,d4,decide_true,decide_false,go_sem,simprocAttr]
  refine b6 ([eJ cs r,.n .i64 x,.n .i64 y]) g1 ?_
  repeat first|with_reducible refine au ?_|simp only[go_sem,simprocAttr]
  refine b6 ([.n .i64 n,.n .i64 (pl x y)]) (fI n (pl x y) (by omega) (by omega)) ?_
  repeat first|with_reducible refine au ?_|simp only[wk,go_sem,simprocAttr]
  refine⟨_,_,_,?_,Wk.mkS [0] [] ?_ ?_ ?_,r',k+1,bj (n+pl x y),rfl,by omega,hs,aC (by omega),g3,λi j hi=>?_,by simp only[Fo.size] at hsz;omega,rfl,rfl⟩
  ·simp only[Fo.size];omega
  ·exact aZ
  ·exact .cr .ls .nil
  ·simp
  ·have:=hc (i+1) j (by omega)
   rw[show k+1+i=k+(i+1) by omega]
   exact this
 |br op x y u v r'=>
  obtain⟨hop,gu,gv,gr⟩:=hok
  simp only[Fo.len] at hkl hc
  have hk:(k:Int)<o.len:=by omega
  have d0:o.cell k 0= .n .i64 op:=(hc 0 0 (by omega)).symm
  have d1:o.cell k 1= .n .i64 x:=(hc 0 1 (by omega)).symm
  have d2:o.cell k 2= .n .i64 y:=(hc 0 2 (by omega)).symm
  have d3:o.cell k 3= .fs 5 u.len u.cell:=(hc 0 3 (by omega)).symm
  have d4:o.cell k 4= .fs 5 v.len v.cell:=(hc 0 4 (by omega)).symm
  have wk:IntKind.i64.wrap ((k:Int)+1)=((k+1:Nat):Int):=(aj (by omega)).trans (by omega)
  have hsu:u.size<o.size:=by simp only[Fo.size] at hsz;omega
  have hsv:v.size<o.size:=by simp only[Fo.size] at hsz;omega
  have Bu:=hW u gu
  have Bv:=hW v gv
  have hc':∀i j,i<r'.len->r'.cell i j=o.cell (k+1+i) j:=λi j hi=>by
   have:=hc (i+1) j (by omega)
   rw[show k+1+i=k+(i+1) by omega]
   exact this
  rcases hop with rfl|rfl
  ·obtain⟨X,hX⟩:∃X,X=(if bI li pl own u 0<bI li pl own v 0 then bI li pl own v 0 else bI li pl own u 0):=⟨_,rfl⟩
   have BX:0<=X/\X<=281474976710657:=by rw[hX];split<;>omega
   obtain⟨S,hS⟩:∃S,S=bj (own+X):=⟨_,rfl⟩
   have BS:0<=S/\S<=281474976710657:=by rw[hS];exact aC (by omega)
   rw[bI,if_pos rfl,<-hX,<-hS] at hs
   repeat first|with_reducible refine au ?_|simp only[h0,hk,d0,d1,d2,d3,d4,decide_true,go_sem,simprocAttr]
   refine cn [] (fargs:=[eJ cs r,.fs 5 u.len u.cell,.f g [eJ cs r] [],.n .i64 own]) (cF.same rfl) (ih u hsu gu) ?_ ?_ ?_
   ·simp only[go_sem,simprocAttr];exact hMap
   ·simp only[go_sem,simprocAttr]
   rintro rs N ⟨rfl,rfl⟩ _
   repeat first|with_reducible refine au ?_|simp only[go_sem,simprocAttr]
   refine cn [] (fargs:=[eJ cs r,.fs 5 v.len v.cell,.f g [eJ cs r] [],.n .i64 own]) (cF.same rfl) (ih v hsv gv) ?_ ?_ ?_
   ·simp only[go_sem,simprocAttr];exact hMap
   ·simp only[go_sem,simprocAttr]
   rintro rs N ⟨rfl,rfl⟩ _
   repeat first|with_reducible refine au ?_|simp only[go_sem,simprocAttr]
   rw[<-hX]
   refine b6 ([.n .i64 own,.n .i64 X]) (fI own X (by omega) (by omega)) ?_
   rw[<-hS]
   repeat first|with_reducible refine au ?_|simp only[go_sem,simprocAttr]
   refine b6 ([.n .i64 n,.n .i64 S]) (fI n S (by omega) (by omega)) ?_
   repeat first|with_reducible refine au ?_|simp only[wk,go_sem,simprocAttr]
   refine⟨_,_,_,?_,Wk.mkS [0] [] ?_ ?_ ?_,r',k+1,bj (n+S),rfl,by omega,hs,aC (by omega),gr,hc',by simp only[Fo.size] at hsz;omega,rfl,rfl⟩
   ·simp only[Fo.size];omega
   ·exact aZ
   ·exact .cr .ls .nil
   ·simp
  ·obtain⟨S,hS⟩:∃S,S=bj (own+bI li pl own u 0):=⟨_,rfl⟩
   have BS:0<=S/\S<=281474976710657:=by rw[hS];exact aC (by omega)
   obtain⟨T,hT⟩:∃T,T=bb S (bi li x):=⟨_,rfl⟩
   have BT:0<=T/\T<=281474976710657:=by rw[hT];exact bz BS.1 (hm x).1
   obtain⟨Z,hZ⟩:∃Z,Z=bj (own+T):=⟨_,rfl⟩
   have BZ:0<=Z/\Z<=281474976710657:=by rw[hZ];exact aC (by omega)
   rw[bI,if_neg (by decide),<-hS,<-hT,<-hZ] at hs
   repeat first|with_reducible refine au ?_|simp only[h0,hk,d0,d1,d2,d3,d4,decide_true,decide_false,go_sem,simprocAttr]
   refine GA.mxlm aE 2 (by simp only[go_sem,simprocAttr]) ?_
   simp only[hob,hlook,go_sem,simprocAttr]
   refine cn [] (fargs:=[eJ cs r,.fs 5 u.len u.cell,.f g [eJ cs r] [],.n .i64 own]) (cF.same rfl) (ih u hsu gu) ?_ ?_ ?_
   ·simp only[go_sem,simprocAttr];exact hMap
   ·simp only[go_sem,simprocAttr]
   rintro rs N ⟨rfl,rfl⟩ _
   repeat first|with_reducible refine au ?_|simp only[go_sem,simprocAttr]
   refine b6 ([.n .i64 own,.n .i64 (bI li pl own u 0)]) (fI own _ (by omega) (by omega)) ?_
   rw[<-hS]
   repeat first|with_reducible refine au ?_|simp only[go_sem,simprocAttr]
   refine b6 ([.n .i64 S,.n .i64 (bi li x)]) (nI S (bi li x) BS (hm x)) ?_
   rw[<-hT]
   repeat first|with_reducible refine au ?_|simp only[go_sem,simprocAttr]
   refine b6 ([.n .i64 own,.n .i64 T]) (fI own T (by omega) (by omega)) ?_
   rw[<-hZ]
   repeat first|with_reducible refine au ?_|simp only[go_sem,simprocAttr]
   refine b6 ([.n .i64 n,.n .i64 Z]) (fI n Z (by omega) (by omega)) ?_
   repeat first|with_reducible refine au ?_|simp only[wk,go_sem,simprocAttr]
   refine⟨_,_,_,?_,Wk.mkS [0] [] ?_ ?_ ?_,r',k+1,bj (n+Z),rfl,by omega,hs,aC (by omega),gr,hc',by simp only[Fo.size] at hsz;omega,rfl,rfl⟩
   ·simp only[Fo.size];omega
   ·exact aZ
   ·exact .cr .ls .nil
   ·simp
theorem lJ(cs:List (Int×Int))(r:Nat)(li:List eV)(g:FuncId)(pl:Nat->Nat->Int)(own:Int)(hown:0<=own/\own<=1)(hm:∀a,0<=bi li a/\bi li a<=65536):∀(n:Nat) (o:Fo),o.size<n->o.size<=100000->A2 (OZ cs r g pl) o->rF cs r li g pl own o
 |0,o,hn,_,_=>absurd hn (Nat.not_lt_zero _)
 |n+1,o,hn,hs,ho=>uH cs r li g pl own hown hm o ho (Nat.le_trans (Fo.len_le_size o) hs) λu hu gu=>lJ cs r li g pl own hown hm n u (by omega) (by omega) gu
def iv(x:Iv):AV:= .agg [.n .i64 x.1,.n .i64 x.2]
theorem iP(x:Iv):bU Tryz.prog 128 [iv x] [.v (.n .i64 (wz x))]:=by
 refine ah aE DQ ⟨by simp,by decide⟩ ?_
 obtain⟨a,b⟩:=x
 simp only[aF,iv,wz]
 by_cases h1:a<0
 ·repeat first|with_reducible refine au ?_|simp only[h1,gt_iff_lt,decide_true,decide_false,go_sem,simprocAttr]
  exact ae (by simp[h1]) rfl
 by_cases h2:4294967295<a
 ·repeat first|with_reducible refine au ?_|simp only[h1,h2,gt_iff_lt,decide_true,decide_false,go_sem,simprocAttr]
  exact ae (by simp[h1,h2]) rfl
 by_cases h3:b<0
 ·repeat first|with_reducible refine au ?_|simp only[h1,h2,h3,gt_iff_lt,decide_true,decide_false,go_sem,simprocAttr]
  exact ae (by simp[h1,h2,h3]) rfl
 by_cases h4:4294967295<b
 ·repeat first|with_reducible refine au ?_|simp only[h1,h2,h3,h4,gt_iff_lt,decide_true,decide_false,go_sem,simprocAttr]
  exact ae (by simp[h1,h2,h3,h4]) rfl
 by_cases h5:b<a
 ·repeat first|with_reducible refine au ?_|simp only[h1,h2,h3,h4,h5,gt_iff_lt,decide_true,decide_false,go_sem,simprocAttr]
  exact ae (by simp[h1,h2,h3,h4,h5]) rfl
 repeat first|with_reducible refine au ?_|simp only[h1,h2,h3,h4,h5,gt_iff_lt,decide_true,decide_false,go_sem,simprocAttr]
 exact ae (by simp[h1,h2,h3,h4,h5]) rfl
theorem kr(x y:Iv):bU Tryz.prog 92 [iv x,iv y] [.v (.b (decide (cN x/\cN y)))]:=by
 refine ah aE DR ⟨by simp,by decide⟩ ?_
 simp only[aF,iv]
 repeat first|with_reducible refine au ?_|simp only[go_sem,simprocAttr]
 refine b6 ([iv x]) (iP x) ?_
 by_cases hx:wz x=0
 rotate_left
 ·repeat first|with_reducible refine au ?_|simp only[hx,decide_false,go_sem,simprocAttr]
  exact ae (by rw[decide_eq_false (λh=>hx (iT.2 h.1))]) rfl
 repeat first|with_reducible refine au ?_|simp only[hx,decide_true,go_sem,simprocAttr]
 refine b6 ([iv y]) (iP y) ?_
 repeat first|with_reducible refine au ?_|simp only[hx,decide_true,go_sem,simprocAttr]
 refine ae ?_ rfl
 congr 1
 by_cases hy:wz y=0
 ·rw[decide_eq_true hy,decide_eq_true ⟨iT.1 hx,iT.1 hy⟩]
 ·rw[decide_eq_false hy,decide_eq_false (λh=>hy (iT.2 h.2))]
theorem cm:bU Tryz.prog 63 [] [.v (iv (0,4294967295))]:=by
 refine ah aE DN ⟨by simp,by decide⟩ ?_
 simp only[aF,iv]
 repeat first|with_reducible refine au ?_|simp only[go_sem,simprocAttr]
 exact ae rfl rfl
theorem fh(n:Int)(h:0<=n/\n<=4294967295):bU Tryz.prog 54 [.n .u32 n] [.v (iv (n,n))]:=by
 refine ah aE DL ⟨by simp,by decide⟩ ?_
 simp only[aF,iv]
 have w:IntKind.i64.wrap n=n:=aj (by omega)
 repeat first|with_reducible refine au ?_|simp only[w,go_sem,simprocAttr]
 exact ae rfl rfl
theorem mg(x y:Iv):bU Tryz.prog 62 [iv x,iv y] [.v (iv (fO x y))]:=by
 refine ah aE DS ⟨by simp,by decide⟩ ?_
 simp only[aF,iv]
 repeat first|with_reducible refine au ?_|simp only[go_sem,simprocAttr]
 refine b6 ([iv x,iv y]) (kr x y) ?_
 by_cases h:cN x/\cN y
 ·have hd:=decide_eq_true h
  rw[show fO x y=(iY x.1 y.1,aQ x.2 y.2) from if_pos h]
  repeat first|with_reducible refine au ?_|simp only[hd,ol,gz,Cb,rR,go_sem,simprocAttr]
  exact ae rfl rfl
 ·have hd:=decide_eq_false h
  rw[show fO x y=(0,0) from if_neg h]
  repeat first|with_reducible refine au ?_|simp only[hd,go_sem,simprocAttr]
  exact ae rfl rfl
theorem pk(x y:Iv):bU Tryz.prog 172 [iv x,iv y] [.v (.b (dm x y))]:=by
 refine ah aE xN ⟨by simp,by decide⟩ ?_
 simp only[aF,iv]
 repeat first|with_reducible refine au ?_|simp only[go_sem,simprocAttr]
 refine b6 ([iv x,iv y]) (kr x y) ?_
 unfold dm
 by_cases h:cN x/\cN y
 rotate_left
 ·have hd:=decide_eq_false h
  repeat first|with_reducible refine au ?_|simp only[hd,go_sem,simprocAttr]
  exact ae (by simp) rfl
 have hd:=decide_eq_true h
 by_cases h1:y.1<=x.1
 rotate_left
 ·repeat first|with_reducible refine au ?_|simp only[hd,h1,decide_true,decide_false,go_sem,simprocAttr]
  exact ae (by simp[h1]) rfl
 repeat first|with_reducible refine au ?_|simp only[hd,h1,decide_true,decide_false,go_sem,simprocAttr]
 exact ae rfl rfl
theorem qT(x y:Iv):bU Tryz.prog 61 [iv x,iv y] [.v (iv (ft x y))]:=by
 refine ah aE DP ⟨by simp,by decide⟩ ?_
 simp only[aF,iv]
 repeat first|with_reducible refine au ?_|simp only[go_sem,simprocAttr]
 refine b6 ([iv x,iv y]) (kr x y) ?_
 by_cases h:cN x/\cN y
 rotate_left
 ·have hd:=decide_eq_false h
  rw[show ft x y=(0,0) from if_neg h]
  repeat first|with_reducible refine au ?_|simp only[hd,go_sem,simprocAttr]
  exact ae rfl rfl
 obtain⟨lo,hlo⟩:∃lo,lo=(if y.1<x.1 then 0 else x.1):=⟨_,rfl⟩
 have hw:ft x y=(lo,if x.2<y.2 then Cu y.2 else x.2):=by rw[hlo];exact if_pos h
 rw[hw]
 have hy3:=h.2.2.2
 have hd:=decide_eq_true h
 by_cases h1:y.1<x.1
 ·rw[if_pos h1] at hlo
  subst hlo
  by_cases h2:x.2<y.2
  rotate_left
  ·repeat first|with_reducible refine au ?_|simp only[hd,h1,h2,gt_iff_lt,decide_true,decide_false,go_sem,simprocAttr]
   exact ae (by simp[h2]) rfl
  repeat first|with_reducible refine au ?_|simp only[hd,h1,h2,gt_iff_lt,decide_true,decide_false,go_sem,simprocAttr]
  refine GA.loop (I:=λm e H=>∃(k:Nat),m=3-k/\k<=2/\(1<=k->255<y.2)/\(2<=k->65535<y.2)/\e=aA [(2,.p 0 0),(3,.p 1 0),(4,.p 2 0),(23,.agg [.n .i64 255,.n .i64 65535,.n .i64 4294967295]),(24,.n .i64 k)]/\H=ag [aa 0 127 [.n .i64 0,.n .i64 0],aa 0 127 [.n .i64 y.1,.n .i64 y.2],aa 0 127 [.n .i64 0,.n .i64 x.2]]) (Wk.mk [2,1,0] [] ?_ ?_ ?_) ⟨0,rfl,by omega,λh=>by omega,λh=>by omega,rfl,rfl⟩ ?_
  ·exact aZ
  ·exact .cr (.j2) (.cr (.j2) (.cr (.j2) .nil))
  ·simp
  rintro m e H ⟨k,rfl,hk,g1,g2,rfl,rfl⟩
  rcases(show k=0\/k=1\/k=2 by omega) with rfl|rfl|rfl
  ·by_cases q:y.2<=255
   ·repeat first|with_reducible refine au ?_|simp only[q,ge_iff_le,decide_true,go_sem,simprocAttr]
    exact ae (by simp[h2,Cu,q]) rfl
   ·repeat first|with_reducible refine au ?_|simp only[q,ge_iff_le,decide_false,go_sem,simprocAttr]
    refine⟨_,_,_,?_,Wk.mk [2,1,0] [] ?_ ?_ ?_,1,rfl,by omega,λ_=>by omega,λh=>by omega,rfl,rfl⟩
    ·omega
    ·exact aZ
    ·exact .cr .ls (.cr .ls (.cr .ls .nil))
    ·simp
  ·have q0:¬y.2<=255:=by have:=g1 (by omega);omega
   by_cases q:y.2<=65535
   ·repeat first|with_reducible refine au ?_|simp only[q,ge_iff_le,decide_true,go_sem,simprocAttr]
    exact ae (by simp[h2,Cu,q0,q]) rfl
   ·repeat first|with_reducible refine au ?_|simp only[q,ge_iff_le,decide_false,go_sem,simprocAttr]
    refine⟨_,_,_,?_,Wk.mk [2,1,0] [] ?_ ?_ ?_,2,rfl,by omega,λ_=>by omega,λ_=>by omega,rfl,rfl⟩
    ·omega
    ·exact aZ
    ·exact .cr .ls (.cr .ls (.cr .ls .nil))
    ·simp
  ·have q0:¬y.2<=255:=by have:=g1 (by omega);omega
   have q1:¬y.2<=65535:=by have:=g2 (by omega);omega
   repeat first|with_reducible refine au ?_|simp only[hy3,ge_iff_le,decide_true,go_sem,simprocAttr]
   exact ae (by simp[h2,Cu,q0,q1]) rfl
 ·rw[if_neg h1] at hlo
  subst hlo
  by_cases h2:x.2<y.2
  rotate_left
  ·repeat first|with_reducible refine au ?_|simp only[hd,h1,h2,gt_iff_lt,decide_true,decide_false,go_sem,simprocAttr]
   exact ae (by simp[h2]) rfl
  repeat first|with_reducible refine au ?_|simp only[hd,h1,h2,gt_iff_lt,decide_true,decide_false,go_sem,simprocAttr]
  refine GA.loop (I:=λm e H=>∃(k:Nat),m=3-k/\k<=2/\(1<=k->255<y.2)/\(2<=k->65535<y.2)/\e=aA [(2,.p 0 0),(3,.p 1 0),(4,.p 2 0),(23,.agg [.n .i64 255,.n .i64 65535,.n .i64 4294967295]),(24,.n .i64 k)]/\H=ag [aa 0 127 [.n .i64 0,.n .i64 0],aa 0 127 [.n .i64 y.1,.n .i64 y.2],aa 0 127 [.n .i64 x.1,.n .i64 x.2]]) (Wk.mk [2,1,0] [] ?_ ?_ ?_) ⟨0,rfl,by omega,λh=>by omega,λh=>by omega,rfl,rfl⟩ ?_
  ·exact aZ
  ·exact .cr (.j2) (.cr (.j2) (.cr (.j2) .nil))
  ·simp
  rintro m e H ⟨k,rfl,hk,g1,g2,rfl,rfl⟩
  rcases(show k=0\/k=1\/k=2 by omega) with rfl|rfl|rfl
  ·by_cases q:y.2<=255
   ·repeat first|with_reducible refine au ?_|simp only[q,ge_iff_le,decide_true,go_sem,simprocAttr]
    exact ae (by simp[h2,Cu,q]) rfl
   ·repeat first|with_reducible refine au ?_|simp only[q,ge_iff_le,decide_false,go_sem,simprocAttr]
    refine⟨_,_,_,?_,Wk.mk [2,1,0] [] ?_ ?_ ?_,1,rfl,by omega,λ_=>by omega,λh=>by omega,rfl,rfl⟩
    ·omega
    ·exact aZ
    ·exact .cr .ls (.cr .ls (.cr .ls .nil))
    ·simp
  ·have q0:¬y.2<=255:=by have:=g1 (by omega);omega
   by_cases q:y.2<=65535
   ·repeat first|with_reducible refine au ?_|simp only[q,ge_iff_le,decide_true,go_sem,simprocAttr]
    exact ae (by simp[h2,Cu,q0,q]) rfl
   ·repeat first|with_reducible refine au ?_|simp only[q,ge_iff_le,decide_false,go_sem,simprocAttr]
    refine⟨_,_,_,?_,Wk.mk [2,1,0] [] ?_ ?_ ?_,2,rfl,by omega,λ_=>by omega,λ_=>by omega,rfl,rfl⟩
    ·omega
    ·exact aZ
    ·exact .cr .ls (.cr .ls (.cr .ls .nil))
    ·simp
  ·have q0:¬y.2<=255:=by have:=g1 (by omega);omega
   have q1:¬y.2<=65535:=by have:=g2 (by omega);omega
   repeat first|with_reducible refine au ?_|simp only[hy3,ge_iff_le,decide_true,go_sem,simprocAttr]
   exact ae (by simp[h2,Cu,q0,q1]) rfl
theorem M5(a b:Int):dA (binOp .and 0 (.int .u32 a) (.int .u32 b))=some (.n .u32 (abO a b)):=by
 unfold binOp Op.intBits
 simp only[ne_eq,not_true_eq_false,if_false]
 rfl
theorem MV(a b:Int):dA (binOp .or 0 (.int .u32 a) (.int .u32 b))=some (.n .u32 (orU a b)):=by
 unfold binOp Op.intBits
 simp only[ne_eq,not_true_eq_false,if_false]
 rfl
theorem x7(a b:Int):dA (binOp .xor 0 (.int .u32 a) (.int .u32 b))=some (.n .u32 (uF a b)):=by
 unfold binOp Op.intBits
 simp only[ne_eq,not_true_eq_false,if_false]
 rfl
theorem MU{k:IntKind}{a b:Int}(h:b≠0):dA (binOp .rem 0 (.int k a) (.int k b))=some (.n k (a.tmod b)):=by
 unfold binOp Op.intDiv
 simp only[ne_eq,not_true_eq_false,if_false,if_neg h]
 rfl
theorem tw{x:Int}(h:0<=x/\x<=4294967295):IntKind.wrap .u32 x=x:=Bm h
theorem tW(b:Int)(hb:0<=b):Int.tmod b 32=b%32:=Int.tmod_eq_emod_of_nonneg hb
def fk(f:FuncId)(op:Int):Prop:=∀a b:Int,0<=a/\a<=4294967295->0<=b/\b<=4294967295->((op=11\/op=12)->b≠0)->bU Tryz.prog f [.n .u32 a,.n .u32 b] [.v (.n .u32 (cC op a b))]
theorem abM:fk 202 8:=λa b ha hb hz=>by
 refine ah aE xw ⟨by simp,by decide⟩ ?_
 simp only[aF]
 repeat first|with_reducible refine au ?_|simp only[go_sem,simprocAttr]
 exact ae rfl rfl
theorem abL:fk 203 9:=λa b ha hb hz=>by
 refine ah aE xv ⟨by simp,by decide⟩ ?_
 simp only[aF]
 repeat first|with_reducible refine au ?_|simp only[go_sem,simprocAttr]
 exact ae rfl rfl
theorem OS:fk 204 10:=λa b ha hb hz=>by
 refine ah aE xu ⟨by simp,by decide⟩ ?_
 simp only[aF]
 repeat first|with_reducible refine au ?_|simp only[go_sem,simprocAttr]
 exact ae rfl rfl
theorem OQ:fk 205 11:=λa b ha hb hz=>by
 refine ah aE xt ⟨by simp,by decide⟩ ?_
 simp only[aF]
 have hz:=hz (.inl rfl)
 have hd:=jl ha.1 hb.1
 have w:IntKind.u32.wrap (Int.tdiv a b)=a / b:=by rw[Int.tdiv_eq_ediv_of_nonneg ha.1];exact tw (by omega)
 repeat first|with_reducible refine au ?_|simp only[kg hz,hz,if_false,cf,w,go_sem,simprocAttr]
 exact ae rfl rfl
theorem OP:fk 206 12:=λa b ha hb hz=>by
 refine ah aE xr ⟨by simp,by decide⟩ ?_
 simp only[aF]
 have hz:=hz (.inr rfl)
 have h1:=Int.emod_nonneg a hz
 have h2:=Int.emod_lt_of_pos a (show 0<b by omega)
 have w:Int.tmod a b=a%b:=Int.tmod_eq_emod_of_nonneg ha.1
 repeat first|with_reducible refine au ?_|simp only[MU hz,hz,if_false,cf,w,go_sem,simprocAttr]
 exact ae rfl rfl
theorem OO:fk 207 13:=λa b ha hb hz=>by
 refine ah aE xq ⟨by simp,by decide⟩ ?_
 simp only[aF]
 repeat first|with_reducible refine au ?_|simp only[M5,go_sem,simprocAttr]
 exact ae rfl rfl
theorem OL:fk 208 14:=λa b ha hb hz=>by
 refine ah aE xp ⟨by simp,by decide⟩ ?_
 simp only[aF]
 repeat first|with_reducible refine au ?_|simp only[MV,go_sem,simprocAttr]
 exact ae rfl rfl
theorem OK:fk 209 15:=λa b ha hb hz=>by
 refine ah aE xo ⟨by simp,by decide⟩ ?_
 simp only[aF]
 repeat first|with_reducible refine au ?_|simp only[x7,go_sem,simprocAttr]
 exact ae rfl rfl
theorem OJ:fk 210 16:=λa b ha hb hz=>by
 refine ah aE xk ⟨by simp,by decide⟩ ?_
 simp only[aF]
 have h0:=Int.emod_nonneg b (show(32:Int)≠0 by decide)
 have h1:=Int.emod_lt_of_pos b (show(0:Int)<32 by decide)
 have w:Int.tmod b 32=b%32:=tW b hb.1
 have hb32:IntKind.u32.bits=32:=rfl
 repeat first|with_reducible refine au ?_|simp only[cf,w,oS h0,go_sem,simprocAttr]
 exact ae rfl rfl
theorem OI:fk 211 17:=λa b ha hb hz=>by
 refine ah aE xj ⟨by simp,by decide⟩ ?_
 simp only[aF]
 have h0:=Int.emod_nonneg b (show(32:Int)≠0 by decide)
 have h1:=Int.emod_lt_of_pos b (show(0:Int)<32 by decide)
 have w:Int.tmod b 32=b%32:=tW b hb.1
 have hb32:IntKind.u32.bits=32:=rfl
 repeat first|with_reducible refine au ?_|simp only[cf,w,bq h0,go_sem,simprocAttr]
 exact ae rfl rfl
theorem OH:fk 212 18:=λa b ha hb hz=>by
 refine ah aE xi ⟨by simp,by decide⟩ ?_
 simp only[aF]
 repeat first|with_reducible refine au ?_|simp only[go_sem,simprocAttr]
 exact ae rfl rfl
theorem OG:fk 213 19:=λa b ha hb hz=>by
 refine ah aE xh ⟨by simp,by decide⟩ ?_
 simp only[aF]
 repeat first|with_reducible refine au ?_|simp only[go_sem,simprocAttr]
 exact ae rfl rfl
theorem OE:fk 214 20:=λa b ha hb hz=>by
 refine ah aE xg ⟨by simp,by decide⟩ ?_
 simp only[aF]
 have h16:(0:Int)<=16:=by decide
 have hb32:IntKind.u32.bits=32:=rfl
 have e16':(2:Int)^min (Int.toNat 16) IntKind.u32.bits=65536:=by decide
 repeat first|with_reducible refine au ?_|simp only[x7,bq h16,go_sem,simprocAttr]
 have x:∀a b,bits .xor .u32 a b=uF a b:=λ_ _=>rfl
 have e:(2:Int)^min 16 32=65536:=by decide
 have z:cC 20 a b=E3 a b:=by simp[cC]
 rw[z]
 simp only[x,e]
 exact ae rfl rfl
/-! ### the length of a number-/
def Oi(n L:Nat):Prop:=n<2^L/\(L=0\/2^(L-1)<=n)
instance (n L:Nat):Decidable (Oi n L):=inferInstanceAs (Decidable (_/\_))
def lgB:Bool:=(List.range 256).all λj=>decide (Oi j (lR j).toNat)
theorem Oj:lgB=true:=by kernel_rfl
theorem zk{j:Nat}(h:j<256):Oi j (lR j).toNat:=of_decide_eq_true (List.all_eq_true.1 Oj j (List.mem_range.2 h))
theorem t7{n L:Nat}(k:Nat)(h:Oi (n / 2^k) L)(hn:2^k<=n):Oi n (L+k):=by
 obtain⟨h1,h2⟩:=h
 have hp:0<2^k:=Nat.two_pow_pos k
 have h3:1<=n / 2^k:=(Nat.le_div_iff_mul_le hp).2 (by omega)
 have h4:L≠0:=λe=>by subst e;simp at h1;omega
 refine⟨?_,.inr ?_⟩
 ·rw[Nat.pow_add]
  exact(Nat.div_lt_iff_lt_mul hp).1 h1
 ·have:=(Nat.le_div_iff_mul_le hp).1 (h2.resolve_left h4)
  rw[show L+k-1=(L-1)+k by omega,Nat.pow_add]
  exact this
theorem abt{y:Nat}(h:y<65536)(n:Int):∃L:Nat,jK y n=n+L/\Oi y L:=by
 unfold jK
 by_cases g:256<=(y:Int)
 ·rw[if_pos g]
  obtain⟨c,_,_,q1,q2⟩:=jv (y / 256) (by omega)
  refine⟨(lR (y / 256)).toNat+8,?_,t7 8 (zk (by omega)) (by omega)⟩
  rw[show((y:Int) / 256).toNat=y / 256 by omega]
  omega
 ·rw[if_neg g]
  obtain⟨c,_,_,q1,q2⟩:=jv y (by omega)
  exact⟨(lR y).toNat,by rw[Int.toNat_natCast];omega,zk (by omega)⟩
theorem adI{y:Nat}(h:y<4294967296):∃L:Nat,ep y=L/\Oi y L:=by
 unfold ep ma
 rw[if_neg (by omega)]
 by_cases g:65536<=(y:Int)
 ·rw[if_pos g]
  obtain⟨L,h1,h2⟩:=abt (y:=y / 65536) (by omega) (0+16)
  exact⟨L+16,by rw[show(y:Int) / 65536=((y / 65536:Nat):Int) by omega,h1];omega,t7 16 h2 (by omega)⟩
 ·rw[if_neg g]
  obtain⟨L,h1,h2⟩:=abt (y:=y) (by omega) 0
  exact⟨L,by rw[h1];omega,h2⟩
theorem yx{n:Int}(h:0<=n/\n<=4294967295):∃L:Nat,ep n=L/\L<=32/\(2:Int)^L-1=fJ n:=by
 obtain⟨y,rfl⟩:∃y:Nat,n=y:=⟨n.toNat,by omega⟩
 obtain⟨L,h1,h2,h3⟩:=adI (y:=y) (by omega)
 have hL:L<=32:=by
  rcases h3 with h3|h3
  ·omega
  ·apply Nat.le_of_not_lt
   intro hlt
   have:2^32<=2^(L-1):=Nat.pow_le_pow_right (by decide) (by omega)
   omega
 refine⟨L,h1,hL,?_⟩
 unfold fJ
 by_cases hy:(y:Int)=0
 ·rw[if_pos hy]
  obtain rfl:y=0:=by omega
  have:L=0:=by
   rcases h3 with h3|h3
   ·exact h3
   ·have:=Nat.two_pow_pos (L-1);omega
  subst this;rfl
 ·rw[if_neg hy,Int.toNat_natCast]
  have h4:L≠0:=λe=>by subst e;simp at h2;omega
  have:y.log2=L-1:=(Nat.log2_eq_iff (by omega)).2 ⟨h3.resolve_left h4,by rw[show L-1+1=L by omega];exact h2⟩
  rw[this,show L-1+1=L by omega]
theorem qD(n:Int)(h:0<=n/\n<=4294967295):bU Tryz.prog 228 [.n .i64 n] [.v (.n .i64 (fJ n))]:=by
 refine ah aE xy ⟨by simp,by decide⟩ ?_
 simp only[aF]
 obtain⟨L,h1,h2,h3⟩:=yx h
 obtain⟨_,ho⟩:=tR h
 have hw:IntKind.u64.wrap n=n:=by rw[IntKind.wrap_u64];omega
 repeat first|with_reducible refine au ?_|simp only[hw,go_sem,simprocAttr]
 refine b6 ([.n .u64 n]) (t8 n h.1 (by omega)) ?_
 rw[h1]
 have h0:(0:Int)<=(L:Int):=by omega
 have e:min L 64=L:=by omega
 have w1:IntKind.i64.wrap (1*2^L)=fJ n+1:=by rw[Int.one_mul,<-h3,aj (by omega)];omega
 have w2:IntKind.i64.wrap (fJ n+1-1)=fJ n:=(aj (by omega)).trans (by omega)
 have w3:IntKind.i64.wrap (2^L)=fJ n+1:=by rw[<-h3,aj (by omega)];omega
 repeat first|with_reducible refine au ?_|simp only[oS h0,Int.toNat_natCast,e,w1,w2,w3,go_sem,simprocAttr]
 exact ae (by first|rfl|(rw[w1,w2])|(rw[w3,w2])|skip) rfl
theorem kJ(l h:Int)(hb: -8589934592<=l/\h<=36893488147419103232/\l<=8589934592/\h<=8589934592/\ -8589934592<=h):bU Tryz.prog 227 [.n .i64 l,.n .i64 h] [.v (iv (cX l h))]:=by
 refine ah aE xz ⟨by simp,by decide⟩ ?_
 simp only[aF,iv]
 have w1:IntKind.i64.wrap (l-4294967295)=l-4294967295:=aj (by omega)
 have w2:IntKind.i64.wrap (l-4294967295-1)=l-4294967296:=(aj (by omega)).trans (by omega)
 have w3:IntKind.i64.wrap (h-4294967295)=h-4294967295:=aj (by omega)
 have w4:IntKind.i64.wrap (h-4294967295-1)=h-4294967296:=(aj (by omega)).trans (by omega)
 have w5:IntKind.i64.wrap (l+4294967295)=l+4294967295:=aj (by omega)
 have w6:IntKind.i64.wrap (l+4294967295+1)=l+4294967296:=(aj (by omega)).trans (by omega)
 have w7:IntKind.i64.wrap (h+4294967295)=h+4294967295:=aj (by omega)
 have w8:IntKind.i64.wrap (h+4294967295+1)=h+4294967296:=(aj (by omega)).trans (by omega)
 have full:(iv (0,4294967295))= .agg [.n .i64 0,.n .i64 4294967295]:=rfl
 by_cases h0:0<=l
 ·by_cases h1:h<=4294967295
  ·repeat first|with_reducible refine au ?_|simp only[h0,h1,ge_iff_le,decide_true,go_sem,simprocAttr]
   exact ae (by simp[cX,h0,h1]) rfl
  ·by_cases h2:4294967295<l
   ·repeat first|with_reducible refine au ?_|simp only[h0,h1,h2,ge_iff_le,gt_iff_lt,decide_true,decide_false,w1,w2,w3,w4,go_sem,simprocAttr]
    exact ae (by simp[cX,h0,h1,h2]) rfl
   ·have h3:¬h<0:=by omega
    repeat first|with_reducible refine au ?_|simp only[h0,h1,h2,h3,ge_iff_le,gt_iff_lt,decide_true,decide_false,go_sem,simprocAttr]
    refine b6 ([]) cm ?_
    rw[full]
    repeat first|with_reducible refine au ?_|simp only[go_sem,simprocAttr]
    exact ae (by simp[cX,h0,h1,h2,h3]) rfl
 ·have h2:¬4294967295<l:=by omega
  by_cases h3:h<0
  ·repeat first|with_reducible refine au ?_|simp only[h0,h2,h3,ge_iff_le,gt_iff_lt,decide_true,decide_false,w5,w6,w7,w8,go_sem,simprocAttr]
   exact ae (by simp[cX,h0,h2,h3]) rfl
  ·repeat first|with_reducible refine au ?_|simp only[h0,h2,h3,ge_iff_le,gt_iff_lt,decide_true,decide_false,go_sem,simprocAttr]
   refine b6 ([]) cm ?_
   rw[full]
   repeat first|with_reducible refine au ?_|simp only[go_sem,simprocAttr]
   exact ae (by simp[cX,h0,h2,h3]) rfl
/-! ### each rule-/
def gG(x y:Iv):AV:= .agg [.n .i64 x.1,.n .i64 x.2,.n .i64 y.1,.n .i64 y.2]
def fj(f:FuncId)(op:Int):Prop:=∀x y:Iv,cN x->cN y->((op=11\/op=12)->y.1≠0)->bU Tryz.prog f [gG x y] [.v (iv (b7 op x y))]
theorem aaY:fj 187 8:=λx y hx hy hz=>by
 refine ah aE xM ⟨by simp,by decide⟩ ?_
 obtain⟨a,b⟩:=x
 obtain⟨c,d⟩:=y
 obtain⟨hx1,hx2,hx3⟩:=hx
 obtain⟨hy1,hy2,hy3⟩:=hy
 dsimp only at*
 simp only[aF,gG,iv]
 have w1:IntKind.i64.wrap (a+c)=a+c:=aj (by omega)
 have w2:IntKind.i64.wrap (b+d)=b+d:=aj (by omega)
 repeat first|with_reducible refine au ?_|simp only[w1,w2,go_sem,simprocAttr]
 refine b6 ([.n .i64 (a+c),.n .i64 (b+d)]) (kJ (a+c) (b+d) (by omega)) ?_
 simp only[iv]
 repeat first|with_reducible refine au ?_|simp only[go_sem,simprocAttr]
 exact ae rfl rfl
theorem aaX:fj 188 9:=λx y hx hy hz=>by
 refine ah aE xL ⟨by simp,by decide⟩ ?_
 obtain⟨a,b⟩:=x
 obtain⟨c,d⟩:=y
 obtain⟨hx1,hx2,hx3⟩:=hx
 obtain⟨hy1,hy2,hy3⟩:=hy
 dsimp only at*
 simp only[aF,gG,iv]
 have w1:IntKind.i64.wrap (a-d)=a-d:=aj (by omega)
 have w2:IntKind.i64.wrap (b-c)=b-c:=aj (by omega)
 repeat first|with_reducible refine au ?_|simp only[w1,w2,go_sem,simprocAttr]
 refine b6 ([.n .i64 (a-d),.n .i64 (b-c)]) (kJ (a-d) (b-c) (by omega)) ?_
 simp only[iv]
 repeat first|with_reducible refine au ?_|simp only[go_sem,simprocAttr]
 exact ae rfl rfl
theorem Nk:fj 189 10:=λx y hx hy hz=>by
 refine ah aE xK ⟨by simp,by decide⟩ ?_
 obtain⟨a,b⟩:=x
 obtain⟨c,d⟩:=y
 obtain⟨hx1,hx2,hx3⟩:=hx
 obtain⟨hy1,hy2,hy3⟩:=hy
 dsimp only at*
 simp only[aF,gG,iv]
 by_cases h0:0<d
 ·have hz0:d≠0:=by omega
  have w:IntKind.i64.wrap (Int.tdiv 4294967295 d)=4294967295 / d:=by
   rw[Int.tdiv_eq_ediv_of_nonneg (by decide)]
   have:=jl (a:=4294967295) (b:=d) (by decide) (by omega)
   exact aj (by omega)
  by_cases h1:4294967295 / d<b
  ·repeat first|with_reducible refine au ?_|simp only[h0,kg hz0,hz0,if_false,cf,w,h1,gt_iff_lt,decide_true,go_sem,simprocAttr]
   refine b6 ([]) cm ?_
   simp only[iv]
   repeat first|with_reducible refine au ?_|simp only[go_sem,simprocAttr]
   exact ae (by simp[b7,h0,h1]) rfl
  ·have hbd:b*d<=4294967295:=(Int.le_ediv_iff_mul_le h0).1 (Int.not_lt.1 h1)
   have hac:a*c<=b*d:=Int.mul_le_mul hx2 hy2 hy1 (by omega)
   have hac0:0<=a*c:=Int.mul_nonneg hx1 hy1
   have w1:IntKind.i64.wrap (a*c)=a*c:=aj (by omega)
   have w2:IntKind.i64.wrap (b*d)=b*d:=aj (by omega)
   repeat first|with_reducible refine au ?_|simp only[h0,kg hz0,hz0,if_false,cf,w,h1,w1,w2,gt_iff_lt,decide_true,decide_false,go_sem,simprocAttr]
   exact ae (by simp[b7,h0,h1]) rfl
 ·have hd:d=0:=by omega
  have hc:c=0:=by omega
  subst hd;subst hc
  have w0:IntKind.i64.wrap 0=0:=rfl
  repeat first|with_reducible refine au ?_|simp only[h0,gt_iff_lt,decide_true,decide_false,Int.mul_zero,w0,go_sem,simprocAttr]
  exact ae (by simp[b7]) rfl
theorem Nj:fj 190 11:=λx y hx hy hz=>by
 refine ah aE xJ ⟨by simp,by decide⟩ ?_
 obtain⟨a,b⟩:=x
 obtain⟨c,d⟩:=y
 obtain⟨hx1,hx2,hx3⟩:=hx
 obtain⟨hy1,hy2,hy3⟩:=hy
 dsimp only at*
 simp only[aF,gG,iv]
 have hc0:=hz (.inl rfl)
 have hd0:d≠0:=by omega
 have w1:IntKind.i64.wrap (Int.tdiv a d)=a / d:=by
  rw[Int.tdiv_eq_ediv_of_nonneg hx1]
  have:=jl hx1 (show 0<=d by omega)
  exact aj (by omega)
 have w2:IntKind.i64.wrap (Int.tdiv b c)=b / c:=by
  rw[Int.tdiv_eq_ediv_of_nonneg (by omega)]
  have:=jl (show 0<=b by omega) hy1
  exact aj (by omega)
 repeat first|with_reducible refine au ?_|simp only[hc0,hd0,if_false,cf,w1,w2,go_sem,simprocAttr]
 exact ae (by simp[b7]) rfl
theorem Ni:fj 191 12:=λx y hx hy hz=>by
 refine ah aE xI ⟨by simp,by decide⟩ ?_
 obtain⟨a,b⟩:=x
 obtain⟨c,d⟩:=y
 obtain⟨hx1,hx2,hx3⟩:=hx
 obtain⟨hy1,hy2,hy3⟩:=hy
 dsimp only at*
 simp only[aF,gG,iv]
 have w:IntKind.i64.wrap (d-1)=d-1:=aj (by omega)
 by_cases h:b<c
 ·repeat first|with_reducible refine au ?_|simp only[h,decide_true,go_sem,simprocAttr]
  exact ae (by simp[b7,h]) rfl
 ·repeat first|with_reducible refine au ?_|simp only[h,decide_false,w,go_sem,simprocAttr]
  exact ae (by simp[b7,h,iY]) rfl
theorem Nh:fj 192 13:=λx y hx hy hz=>by
 refine ah aE xH ⟨by simp,by decide⟩ ?_
 obtain⟨a,b⟩:=x
 obtain⟨c,d⟩:=y
 obtain⟨hx1,hx2,hx3⟩:=hx
 obtain⟨hy1,hy2,hy3⟩:=hy
 dsimp only at*
 simp only[aF,gG,iv]
 repeat first|with_reducible refine au ?_|simp only[go_sem,simprocAttr]
 exact ae (by simp[b7,iY]) rfl
theorem Ng:fj 193 14:=λx y hx hy hz=>by
 refine ah aE xG ⟨by simp,by decide⟩ ?_
 obtain⟨a,b⟩:=x
 obtain⟨c,d⟩:=y
 obtain⟨hx1,hx2,hx3⟩:=hx
 obtain⟨hy1,hy2,hy3⟩:=hy
 dsimp only at*
 simp only[aF,gG,iv]
 have hm:0<=aQ b d/\aQ b d<=4294967295:=by unfold aQ;split<;>omega
 have e:(if b<d then d else b)=aQ b d:=rfl
 have e2:(if a<c then c else a)=aQ a c:=rfl
 have fin:(AV.agg [.n .i64 (aQ a c),.n .i64 (fJ (aQ b d))])= .agg [.n .i64 (b7 14 (a,b) (c,d)).1,.n .i64 (b7 14 (a,b) (c,d)).2]:=rfl
 (try simp only[go_sem,simprocAttr])
 iterate 3 (with_reducible refine GA.go aE rfl ?_;try simp only[go_sem,simprocAttr])
 refine GA.frkm aE 1 (by simp only[bH,go_sem,simprocAttr]) ?_
 simp only[e,e2,go_sem,simprocAttr]
 repeat' with_reducible refine aW ?_ ?_
 all_goals
  refine b6 ([.n .i64 (aQ b d)]) (qD _ hm) ?_
  simp only[e,e2,go_sem,simprocAttr]
  repeat' with_reducible refine aW ?_ ?_
 all_goals
  repeat first|with_reducible refine au ?_|simp only[e,e2,go_sem,simprocAttr]
  first
   |decide
   |exact ae fin rfl
theorem Nf:fj 194 15:=λx y hx hy hz=>by
 refine ah aE xF ⟨by simp,by decide⟩ ?_
 obtain⟨a,b⟩:=x
 obtain⟨c,d⟩:=y
 obtain⟨hx1,hx2,hx3⟩:=hx
 obtain⟨hy1,hy2,hy3⟩:=hy
 dsimp only at*
 simp only[aF,gG,iv]
 have hm:0<=aQ b d/\aQ b d<=4294967295:=by unfold aQ;split<;>omega
 have e:(if b<d then d else b)=aQ b d:=rfl
 repeat first|with_reducible refine au ?_|simp only[e,go_sem,simprocAttr]
 refine b6 ([.n .i64 (aQ b d)]) (qD _ hm) ?_
 repeat first|with_reducible refine au ?_|simp only[go_sem,simprocAttr]
 exact ae (by simp[b7]) rfl
theorem Nd:fj 195 16:=λx y hx hy hz=>by
 refine ah aE xE ⟨by simp,by decide⟩ ?_
 obtain⟨a,b⟩:=x
 obtain⟨c,d⟩:=y
 obtain⟨hx1,hx2,hx3⟩:=hx
 obtain⟨hy1,hy2,hy3⟩:=hy
 dsimp only at*
 simp only[aF,gG,iv]
 have h0:=Int.emod_nonneg c (show(32:Int)≠0 by decide)
 have h1:=Int.emod_lt_of_pos c (show(0:Int)<32 by decide)
 have w:Int.tmod c 32=c%32:=tW c hy1
 obtain⟨s,hs⟩:∃s:Nat,c%32=s:=⟨(c%32).toNat,by omega⟩
 have hs32:s<32:=by omega
 rw[hs] at w
 have hsn:(0:Int)<=(s:Int):=by omega
 have e:min s 64=s:=by omega
 have pw:∀n:Nat,n<32->(1:Int)<=2^n/\(2:Int)^n<=2147483648:=λn hn=>by
  have h1:1<=2^n:=Nat.one_le_two_pow
  have h2:2^n<=2^31:=Nat.pow_le_pow_right (by decide) (by omega)
  have e:(2:Int)^n=((2^n:Nat):Int):=by rw[Int.natCast_pow];rfl
  omega
 obtain⟨p1,p2⟩:=pw s hs32
 obtain⟨p,hp⟩:∃p:Int,p=2^s:=⟨_,rfl⟩
 have hp':(2:Int)^(min s 64)=p:=by rw[e,hp]
 have er:b7 16 (a,b) (c,d)=if c≠d\/4294967295 / p<b then(0,4294967295) else(a*p,b*p):=by
  simp[b7,hs,hp]
 rw[<-hp] at p1 p2
 have w4:Int.fdiv 4294967295 p=4294967295 / p:=Int.fdiv_eq_ediv_of_nonneg _ (by omega)
 by_cases g:c=d
 rotate_left
 ·repeat first|with_reducible refine au ?_|simp only[w,g,decide_true,decide_false,go_sem,simprocAttr]
  refine b6 ([]) cm ?_
  simp only[iv]
  repeat first|with_reducible refine au ?_|simp only[go_sem,simprocAttr]
  exact ae (by rw[er,if_pos (.inl g)]) rfl
 subst g
 by_cases g1:4294967295 / p<b
 ·repeat first|with_reducible refine au ?_|simp only[w,bq hsn,Int.toNat_natCast,e,<-hp,w4,g1,gt_iff_lt,decide_true,decide_false,go_sem,simprocAttr]
  refine b6 ([]) cm ?_
  simp only[iv]
  repeat first|with_reducible refine au ?_|simp only[go_sem,simprocAttr]
  exact ae (by rw[er,if_pos (.inr g1)]) rfl
 have hbp:b*p<=4294967295:=(Int.le_ediv_iff_mul_le (by omega)).1 (Int.not_lt.1 g1)
 have hap:a*p<=b*p:=Int.mul_le_mul_of_nonneg_right hx2 (by omega)
 have hap0:0<=a*p:=Int.mul_nonneg hx1 (by omega)
 have w1:IntKind.i64.wrap (a*p)=a*p:=aj (by omega)
 have w2:IntKind.i64.wrap (b*p)=b*p:=aj (by omega)
 repeat first|with_reducible refine au ?_|simp only[w,bq hsn,oS hsn,Int.toNat_natCast,e,<-hp,w4,w1,w2,g1,gt_iff_lt,decide_true,decide_false,go_sem,simprocAttr]
 exact ae (by rw[er,if_neg (by simp;omega)]) rfl
theorem Nc:fj 196 17:=λx y hx hy hz=>by
 refine ah aE xD ⟨by simp,by decide⟩ ?_
 obtain⟨a,b⟩:=x
 obtain⟨c,d⟩:=y
 obtain⟨hx1,hx2,hx3⟩:=hx
 obtain⟨hy1,hy2,hy3⟩:=hy
 dsimp only at*
 simp only[aF,gG,iv]
 have pw:∀n:Nat,n<32->(1:Int)<=2^n/\(2:Int)^n<=2147483648:=λn hn=>by
  have h1:1<=2^n:=Nat.one_le_two_pow
  have h2:2^n<=2^31:=Nat.pow_le_pow_right (by decide) (by omega)
  have e:(2:Int)^n=((2^n:Nat):Int):=by rw[Int.natCast_pow];rfl
  omega
 have fd:∀(x:Int) (n:Nat),Int.fdiv x (2^n)=x / 2^n:=λx n=>Int.fdiv_eq_ediv_of_nonneg _ (Int.le_of_lt (ju _))
 by_cases h1:d<=31
 ·have hcn:0<=c:=hy1
  have hdn:0<=d:=by omega
  have e1:min c.toNat 64=c.toNat:=by omega
  have e2:min d.toNat 64=d.toNat:=by omega
  repeat first|with_reducible refine au ?_|simp only[h1,decide_true,bq hcn,bq hdn,e1,e2,fd,go_sem,simprocAttr]
  exact ae (by simp[b7,h1]) rfl
 by_cases h2:c=d
 ·subst h2
  have g0:=Int.emod_nonneg c (show(32:Int)≠0 by decide)
  have g1:=Int.emod_lt_of_pos c (show(0:Int)<32 by decide)
  have w:Int.tmod c 32=c%32:=tW c hy1
  have e1:min (c%32).toNat 64=(c%32).toNat:=by omega
  repeat first|with_reducible refine au ?_|simp only[h1,decide_true,decide_false,w,bq g0,e1,fd,go_sem,simprocAttr]
  exact ae (by simp[b7,h1]) rfl
 ·repeat first|with_reducible refine au ?_|simp only[h1,h2,decide_false,go_sem,simprocAttr]
  exact ae (by simp[b7,h1,h2]) rfl
theorem Nb:fj 197 18:=λx y hx hy hz=>by
 refine ah aE xC ⟨by simp,by decide⟩ ?_
 obtain⟨a,b⟩:=x
 obtain⟨c,d⟩:=y
 obtain⟨hx1,hx2,hx3⟩:=hx
 obtain⟨hy1,hy2,hy3⟩:=hy
 dsimp only at*
 simp only[aF,gG,iv]
 repeat first|with_reducible refine au ?_|simp only[go_sem,simprocAttr]
 exact ae (by simp[b7,iY]) rfl
theorem Na:fj 198 19:=λx y hx hy hz=>by
 refine ah aE xB ⟨by simp,by decide⟩ ?_
 obtain⟨a,b⟩:=x
 obtain⟨c,d⟩:=y
 obtain⟨hx1,hx2,hx3⟩:=hx
 obtain⟨hy1,hy2,hy3⟩:=hy
 dsimp only at*
 simp only[aF,gG,iv]
 repeat first|with_reducible refine au ?_|simp only[go_sem,simprocAttr]
 exact ae (by simp[b7,aQ]) rfl
theorem M9:fj 199 20:=λx y hx hy hz=>by
 refine ah aE xA ⟨by simp,by decide⟩ ?_
 obtain⟨a,b⟩:=x
 obtain⟨c,d⟩:=y
 obtain⟨hx1,hx2,hx3⟩:=hx
 obtain⟨hy1,hy2,hy3⟩:=hy
 dsimp only at*
 simp only[aF,gG,iv]
 repeat first|with_reducible refine au ?_|simp only[go_sem,simprocAttr]
 refine b6 ([]) cm ?_
 simp only[iv]
 repeat first|with_reducible refine au ?_|simp only[go_sem,simprocAttr]
 exact ae (by simp[b7]) rfl
theorem cJ{a b x y:AV}{H:AH}(h:a=x)(hp:x.pu 3=true)(h':b=y)(hp':y.pu 3=true):∃l1,AV.tup [a,b]=aX l1/\kb [.v x,.v y] l1 H:=⟨[a,b],rfl,⟨h,hp⟩,⟨h',hp'⟩,trivial⟩
theorem tN(x:fW)(k:Int)(v:AV):(x.put k v).own=x.own:=id rfl
theorem qP{x:fW}{k:Int}{g:FuncId}(h:x.get k=some (.f g [] [])):x.look true .f0 k= .tup [.f g [] [],.b true]:=by
 unfold fW.look
 rw[h]
 rfl
def O2(C:FuncId->Int->Prop)(_:Nat->Option OB)(rs:List RT)(N:Nat->Option OB):Prop:=∃r x,rs=[.v (.cv (.map (some r)))]/\N r=some (.mp x)/\∀op,8<=op->op<=20->∃g,x.get op=some (.f g [] [])/\C g op
theorem Aa{C:FuncId->Int->Prop}{r:Nat}{x:fW}{H:AH}{M:Nat->Option OB}(hob:H.ob r=some (.mp x))(ho:x.own=true)(hP:∀op,8<=op->op<=20->∃g,x.get op=some (.f g [] [])/\C g op):∃(rs:List RT) (N:Nat->Option OB) (l:List AV),O2 C M rs N/\aX [.cv (.map (some r))]=aX l/\kb rs l H/\∀r x,N r=some x->H.ob r=some x/\yp x=true:=
 ⟨_,λr'=>if r'=r then some (.mp x) else none,_,⟨r,x,rfl,if_pos rfl,hP⟩,rfl,⟨⟨rfl,rfl⟩,trivial⟩,λr' y h=>by
  replace h:(if r'=r then some (OB.mp x) else none)=some y:=h
  by_cases e:r'=r
  ·subst e;rw[if_pos rfl] at h;cases h;exact⟨hob,ho⟩
  ·rw[if_neg e] at h;cases h⟩
theorem uL:wM Tryz.prog 174 [] (λ_=>True) (O2 fj):=by
 refine lD aE Dq ⟨by simp,by decide⟩ λM _=>?_
 simp only[aF]
 repeat first|with_reducible refine au ?_|simp only[go_sem,simprocAttr]
 refine pb λr hr=>?_
 repeat first|with_reducible refine au ?_|simp only[tN,go_sem,simprocAttr]
 refine Aa (x:=?x) ?h ?o λop h1 h2=>?_
 case h=>simp only[go_sem,simprocAttr]<;>rfl
 case o=>rfl
 rcases(show op=8\/op=9\/op=10\/op=11\/op=12\/op=13\/op=14\/op=15\/op=16\/op=17\/op=18\/op=19\/op=20 by omega) with rfl|rfl|rfl|rfl|rfl|rfl|rfl|rfl|rfl|rfl|rfl|rfl|rfl
 ·exact⟨_,rfl,aaY⟩
 ·exact⟨_,rfl,aaX⟩
 ·exact⟨_,rfl,Nk⟩
 ·exact⟨_,rfl,Nj⟩
 ·exact⟨_,rfl,Ni⟩
 ·exact⟨_,rfl,Nh⟩
 ·exact⟨_,rfl,Ng⟩
 ·exact⟨_,rfl,Nf⟩
 ·exact⟨_,rfl,Nd⟩
 ·exact⟨_,rfl,Nc⟩
 ·exact⟨_,rfl,Nb⟩
 ·exact⟨_,rfl,Na⟩
 ·exact⟨_,rfl,M9⟩
theorem sZ:wM Tryz.prog 179 [] (λ_=>True) (O2 fk):=by
 refine lD aE Dn ⟨by simp,by decide⟩ λM _=>?_
 simp only[aF]
 repeat first|with_reducible refine au ?_|simp only[go_sem,simprocAttr]
 refine pb λr hr=>?_
 repeat first|with_reducible refine au ?_|simp only[tN,go_sem,simprocAttr]
 refine Aa (x:=?x) ?h ?o λop h1 h2=>?_
 case h=>simp only[go_sem,simprocAttr]<;>rfl
 case o=>rfl
 rcases(show op=8\/op=9\/op=10\/op=11\/op=12\/op=13\/op=14\/op=15\/op=16\/op=17\/op=18\/op=19\/op=20 by omega) with rfl|rfl|rfl|rfl|rfl|rfl|rfl|rfl|rfl|rfl|rfl|rfl|rfl
 ·exact⟨_,rfl,abM⟩
 ·exact⟨_,rfl,abL⟩
 ·exact⟨_,rfl,OS⟩
 ·exact⟨_,rfl,OQ⟩
 ·exact⟨_,rfl,OP⟩
 ·exact⟨_,rfl,OO⟩
 ·exact⟨_,rfl,OL⟩
 ·exact⟨_,rfl,OK⟩
 ·exact⟨_,rfl,OJ⟩
 ·exact⟨_,rfl,OI⟩
 ·exact⟨_,rfl,OH⟩
 ·exact⟨_,rfl,OG⟩
 ·exact⟨_,rfl,OE⟩
theorem mz(op a b:Int)(h1:8<=op)(h2:op<=20)(ha:0<=a/\a<=4294967295)(hb:0<=b/\b<=4294967295)(hz:(op=11\/op=12)->b≠0):bU Tryz.prog 152 [.n .i64 op,.n .u32 a,.n .u32 b] [.v (.n .u32 (cC op a b)),.v (.n .i64 0)]:=by
 refine ah aE Dp ⟨by simp,by decide⟩ ?_
 simp only[aF]
 repeat first|with_reducible refine au ?_|simp only[go_sem,simprocAttr]
 refine cn [] (fargs:=[]) (cF.same rfl) sZ True.intro (by simp only[go_sem,simprocAttr]) ?_
 rintro rs N ⟨r,x,rfl,hN,hF⟩ hfree
 obtain⟨g,hg,hC⟩:=hF op h1 h2
 have hN1:AY (ag []).ob N r=some (.mp x):=(j7 rfl).trans hN
 have hl:=qP hg
 by_cases hb0:b=0
 ·have h11:¬op=11:=λe=>hz (.inl e) hb0
  have h12:¬op=12:=λe=>hz (.inr e) hb0
  subst hb0
  repeat first|with_reducible refine au ?_|simp only[hN,hN1,hl,h11,h12,decide_true,decide_false,Bool.not_true,go_sem,simprocAttr]
  refine b6 ([.n .u32 a,.n .u32 0]) (hC a 0 ha hb hz) ?_
  repeat first|with_reducible refine au ?_|simp only[go_sem,simprocAttr]
  exact cJ rfl rfl rfl rfl
 ·repeat first|with_reducible refine au ?_|simp only[hN,hN1,hl,hb0,decide_true,decide_false,Bool.not_true,go_sem,simprocAttr]
  refine b6 ([.n .u32 a,.n .u32 b]) (hC a b ha hb hz) ?_
  repeat first|with_reducible refine au ?_|simp only[go_sem,simprocAttr]
  exact cJ rfl rfl rfl rfl
theorem lt2a{i:Nat}(h:i<2):i=0\/i=1:=by omega
theorem lt4a{i:Nat}(h:i<4):i=0\/i=1\/i=2\/i=3:=by omega
theorem qU(op:Int)(h1:8<=op)(h2:op<=20)(x y:Iv)(hx:cN x)(hy:cN y):bU Tryz.prog 127 [.n .i64 op,iv x,iv y] [.v (iv (bg op x y).1),.v (.n .i64 (bg op x y).2)]:=by
 refine ah aE Dr ⟨by simp,by decide⟩ ?_
 have hkx:=iT.2 hx
 have hky:=iT.2 hy
 have wx:IntKind.u32.wrap x.1=x.1:=tw (by omega)
 have wy:IntKind.u32.wrap y.1=y.1:=tw (by omega)
 simp only[aF,iv]
 repeat first|with_reducible refine au ?_|simp only[go_sem,simprocAttr]
 refine GA.loop (I:=λm e H=>∃k:Nat,m=2-k/\k<=2/\e=aA [(0,.n .i64 op),(4,.p 0 0),(5,.p 1 0),(6,.p 2 0),(17,.sl 3 0 2 2),(18,.n .i64 2),(19,.n .i64 k)]/\H=ag [aa 2 127 [.n .i64 x.1,.n .i64 x.2,.n .i64 y.1,.n .i64 y.2],aa 0 127 [.n .i64 0,.n .i64 0],aa 0 127 [.n .i64 y.1,.n .i64 y.2],aa 0 127 [.n .i64 x.1,.n .i64 x.2]]) (Wk.mk [3,2,1,0] [] ?_ ?_ ?_) ⟨0,rfl,by omega,rfl,rfl⟩ ?_
 ·exact aZ
 ·exact .cr (.j4) (.cr (.j2) (.cr (.j2) (.cr (.j2) .nil)))
 ·simp
 rintro m e H ⟨k,rfl,hk,rfl,rfl⟩
 rcases(show k=0\/k=1\/k=2 by omega) with rfl|rfl|rfl
 ·repeat first|with_reducible refine au ?_|simp only[go_sem,simprocAttr]
  refine b6 ([iv x]) (iP x) ?_
  repeat first|with_reducible refine au ?_|simp only[hkx,ne_eq,not_true_eq_false,decide_true,decide_false,Bool.not_true,go_sem,simprocAttr]
  refine⟨_,_,_,?_,Wk.mk [3,2,1,0] [] ?_ ?_ ?_,1,rfl,by omega,rfl,rfl⟩
  ·omega
  ·exact aZ
  ·exact .cr .ls (.cr .ls (.cr .ls (.cr .ls .nil)))
  ·simp
 ·repeat first|with_reducible refine au ?_|simp only[go_sem,simprocAttr]
  refine b6 ([iv y]) (iP y) ?_
  repeat first|with_reducible refine au ?_|simp only[hky,ne_eq,not_true_eq_false,decide_true,decide_false,Bool.not_true,go_sem,simprocAttr]
  refine⟨_,_,_,?_,Wk.mk [3,2,1,0] [] ?_ ?_ ?_,2,rfl,by omega,rfl,rfl⟩
  ·omega
  ·exact aZ
  ·exact .cr .ls (.cr .ls (.cr .ls (.cr .ls .nil)))
  ·simp
 repeat first|with_reducible refine au ?_|simp only[go_sem,simprocAttr]
 refine cn [] (fargs:=[]) (cF.same rfl) uL True.intro (by simp only[go_sem,simprocAttr]) ?_
 rintro rs N ⟨r,mx,rfl,hN,hF⟩ hfree
 obtain⟨g,hg,hC⟩:=hF op h1 h2
 have hl:=qP hg
 have hN1:∀bl,AY (ag bl).ob N r=some (.mp mx):=λbl=>(j7 (by rw[lB])).trans hN
 by_cases hz:y.1=0/\(op=11\/op=12)
 ·have hA:bg op x y=((0,0),17):=by unfold bg;rw[if_pos hz]
  have z0:=eq_true hz.1
  rcases hz.2 with e|e
  ·subst e
   repeat first|with_reducible refine au ?_|simp only[hN1,hl,z0,decide_true,decide_false,Bool.not_true,go_sem,simprocAttr]
   rw[hA]
   exact cJ rfl rfl rfl rfl
  ·subst e
   repeat first|with_reducible refine au ?_|simp only[hN1,hl,z0,decide_true,decide_false,Bool.not_true,go_sem,simprocAttr]
   rw[hA]
   exact cJ rfl rfl rfl rfl
 by_cases z0:y.1=0
 ·have z1:=eq_true z0
  have n11:¬op=11:=λe=>hz ⟨z0,.inl e⟩
  have n12:¬op=12:=λe=>hz ⟨z0,.inr e⟩
  by_cases c1:x.1=x.2
  ·have c1':=eq_true c1
   by_cases c2:y.1=y.2
   ·have c2':=eq_true c2
    have hA:bg op x y=((cC op x.1 y.1,cC op x.1 y.1),0):=by unfold bg;rw[if_neg hz,if_pos ⟨c1,c2⟩]
    repeat first|with_reducible refine au ?_|simp only[hN1,hl,z1,n11,n12,c1',c2',wx,wy,decide_true,decide_false,Bool.not_true,go_sem,simprocAttr]
    refine b6 ([.n .i64 op,.n .u32 x.1,.n .u32 y.1]) (mz op x.1 y.1 h1 h2 ⟨hx.1,by omega⟩ ⟨hy.1,by omega⟩ (λh e=>hz ⟨e,h⟩)) ?_
    repeat first|with_reducible refine au ?_|simp only[go_sem,simprocAttr]
    refine b6 ([.n .u32 (cC op x.1 y.1)]) (fh _ (kA ⟨h1,h2⟩ ⟨hx.1,by omega⟩ ⟨hy.1,by omega⟩ (λe=>⟨λh=>hz ⟨e,.inl h⟩,λh=>hz ⟨e,.inr h⟩⟩))) ?_
    simp only[iv]
    repeat first|with_reducible refine au ?_|simp only[go_sem,simprocAttr]
    rw[hA]
    exact cJ rfl rfl rfl rfl
   ·have hA:bg op x y=(b7 op x y,0):=by unfold bg;rw[if_neg hz,if_neg (λh=>c2 h.2)]
    repeat first|with_reducible refine au ?_|simp only[hN1,hl,z1,n11,n12,c1',c2,decide_true,decide_false,Bool.not_true,go_sem,simprocAttr]
    refine b6 ([gG x y]) (hC x y hx hy (λh e=>hz ⟨e,h⟩)) ?_
    simp only[iv]
    repeat first|with_reducible refine au ?_|simp only[go_sem,simprocAttr]
    rw[hA]
    exact cJ rfl rfl rfl rfl
  ·have hA:bg op x y=(b7 op x y,0):=by unfold bg;rw[if_neg hz,if_neg (λh=>c1 h.1)]
   repeat first|with_reducible refine au ?_|simp only[hN1,hl,z1,n11,n12,c1,decide_true,decide_false,Bool.not_true,go_sem,simprocAttr]
   refine b6 ([gG x y]) (hC x y hx hy (λh e=>hz ⟨e,h⟩)) ?_
   simp only[iv]
   repeat first|with_reducible refine au ?_|simp only[go_sem,simprocAttr]
   rw[hA]
   exact cJ rfl rfl rfl rfl
 ·by_cases c1:x.1=x.2
  ·have c1':=eq_true c1
   by_cases c2:y.1=y.2
   ·have c2':=eq_true c2
    have hA:bg op x y=((cC op x.1 y.1,cC op x.1 y.1),0):=by unfold bg;rw[if_neg hz,if_pos ⟨c1,c2⟩]
    repeat first|with_reducible refine au ?_|simp only[hN1,hl,z0,c1',c2',wx,wy,decide_true,decide_false,Bool.not_true,go_sem,simprocAttr]
    refine b6 ([.n .i64 op,.n .u32 x.1,.n .u32 y.1]) (mz op x.1 y.1 h1 h2 ⟨hx.1,by omega⟩ ⟨hy.1,by omega⟩ (λh e=>hz ⟨e,h⟩)) ?_
    repeat first|with_reducible refine au ?_|simp only[go_sem,simprocAttr]
    refine b6 ([.n .u32 (cC op x.1 y.1)]) (fh _ (kA ⟨h1,h2⟩ ⟨hx.1,by omega⟩ ⟨hy.1,by omega⟩ (λe=>⟨λh=>hz ⟨e,.inl h⟩,λh=>hz ⟨e,.inr h⟩⟩))) ?_
    simp only[iv]
    repeat first|with_reducible refine au ?_|simp only[go_sem,simprocAttr]
    rw[hA]
    exact cJ rfl rfl rfl rfl
   ·have hA:bg op x y=(b7 op x y,0):=by unfold bg;rw[if_neg hz,if_neg (λh=>c2 h.2)]
    repeat first|with_reducible refine au ?_|simp only[hN1,hl,z0,c1',c2,decide_true,decide_false,Bool.not_true,go_sem,simprocAttr]
    refine b6 ([gG x y]) (hC x y hx hy (λh e=>hz ⟨e,h⟩)) ?_
    simp only[iv]
    repeat first|with_reducible refine au ?_|simp only[go_sem,simprocAttr]
    rw[hA]
    exact cJ rfl rfl rfl rfl
  ·have hA:bg op x y=(b7 op x y,0):=by unfold bg;rw[if_neg hz,if_neg (λh=>c1 h.1)]
   repeat first|with_reducible refine au ?_|simp only[hN1,hl,z0,c1,decide_true,decide_false,Bool.not_true,go_sem,simprocAttr]
   refine b6 ([gG x y]) (hC x y hx hy (λh e=>hz ⟨e,h⟩)) ?_
   simp only[iv]
   repeat first|with_reducible refine au ?_|simp only[go_sem,simprocAttr]
   rw[hA]
   exact cJ rfl rfl rfl rfl
def vl(v:Vl):AV:= .agg [.b v.1,.n .i64 v.2.1,.n .i64 v.2.2]
def gJ(b:Bd):AV:= .agg [.n .i64 b.1,.n .i64 b.2]
abbrev ny(b:Bd):Prop:=(0<=b.1/\b.1<=281474976710657)/\0<=b.2/\b.2<=281474976710657
theorem CS{b c:Bd}(hb:ny b)(hc:ny c):ny (bw b c):=⟨aC (by omega),aC (by omega)⟩
theorem AA{b:Bd}{n:Int}(hb:ny b)(hn:0<=n):ny (fu b n):=⟨bz (aC (by omega)).1 hn,bz hb.2.1 hn⟩
theorem fD(x:Iv):bU Tryz.prog 125 [iv x] [.v (vl (false,x))]:=by
 refine ah aE Du ⟨by simp,by decide⟩ ?_
 simp only[aF,iv,vl]
 repeat first|with_reducible refine au ?_|simp only[go_sem,simprocAttr]
 exact ae rfl rfl
theorem iB(b c:Bd)(hb:ny b)(hc:ny c):bU Tryz.prog 90 [gJ b,gJ c] [.v (gJ (bw b c))]:=by
 refine ah aE DC ⟨by simp,by decide⟩ ?_
 simp only[aF,gJ]
 have w1:IntKind.i64.wrap (b.1+c.1)=b.1+c.1:=aj (by omega)
 have w2:IntKind.i64.wrap (b.2+c.2)=b.2+c.2:=aj (by omega)
 repeat first|with_reducible refine au ?_|simp only[w1,w2,go_sem,simprocAttr]
 exact ae rfl rfl
theorem kH(a n:Int)(ha:0<=a/\a<=281474976710657)(hn:0<=n/\n<=65536):bU Tryz.prog 173 [.n .i64 a,.fp 1 (λ_=> .n .i64 n) 0] [.v (.n .i64 (bb a n))]:=by
 refine ah aE Dx ⟨by simp,by decide⟩ ?_
 simp only[aF]
 have hd:=jl (a:=281474976710657) (b:=n) (by decide) hn.1
 have w1:IntKind.i64.wrap (Int.tdiv 281474976710657 n)=281474976710657 / n:=by rw[Int.tdiv_eq_ediv_of_nonneg (by decide)];exact aj (by omega)
 by_cases h0:0<n
 ·have hz:n≠0:=by omega
  by_cases hc:281474976710657 / n<a
  ·repeat first|with_reducible refine au ?_|simp only[h0,hz,if_false,cf,w1,hc,gt_iff_lt,decide_true,go_sem,simprocAttr]
   exact ae (by rw[show bb a n=281474976710657 from if_pos ⟨h0,hc⟩]) rfl
  ·have hle:a*n<=281474976710657:=(Int.le_ediv_iff_mul_le h0).1 (Int.not_lt.1 hc)
   have hp:0<=a*n:=Int.mul_nonneg ha.1 hn.1
   have w2:IntKind.i64.wrap (a*n)=a*n:=aj (by omega)
   repeat first|with_reducible refine au ?_|simp only[h0,hz,if_false,cf,w1,hc,w2,gt_iff_lt,decide_true,decide_false,go_sem,simprocAttr]
   exact ae (by rw[show bb a n=bj (a*n) from if_neg (λh=>hc h.2)];rfl) rfl
 ·have hz:n=0:=by omega
  subst hz
  have w0:IntKind.i64.wrap 0=0:=rfl
  repeat first|with_reducible refine au ?_|simp only[h0,gt_iff_lt,decide_true,decide_false,Int.mul_zero,w0,go_sem,simprocAttr]
  exact ae (by rw[show bb a 0=bj (a*0) from if_neg (λh=>by cases h.1),Int.mul_zero];rfl) rfl
theorem r8(b:Bd)(n:Int)(hb:ny b)(hn:0<=n/\n<=65536):bU Tryz.prog 122 [gJ b,.n .i64 n] [.v (gJ (fu b n))]:=by
 refine ah aE Dy ⟨by simp,by decide⟩ ?_
 simp only[aF,gJ]
 have w1:IntKind.i64.wrap (b.1+1)=b.1+1:=aj (by omega)
 have hF:=aC (n:=b.1+1) (by omega)
 repeat first|with_reducible refine au ?_|simp only[w1,go_sem,simprocAttr]
 refine oh [1] (fargs:=[.n .i64 (bj (b.1+1)),.fp 1 (λ_=> .n .i64 n) 0]) ⟨.rfl rfl,.p (o:=0) (j:=0) (x:=_) (by simp) (by simp only[go_sem,simprocAttr]<;>rfl) (by simp) (by simp) (λq hq=>by cases Nat.lt_one_iff.1 hq;simp only[go_sem,simprocAttr]) (λq hq=>rfl),trivial⟩ (kH _ n hF hn) (by simp only[go_sem,simprocAttr]) (λr hr=>by cases List.mem_singleton.1 hr;rfl) ?_
 repeat first|with_reducible refine au ?_|simp only[go_sem,simprocAttr]
 refine oh [1] (fargs:=[.n .i64 b.2,.fp 1 (λ_=> .n .i64 n) 0]) ⟨.rfl rfl,.p (o:=0) (j:=0) (x:=_) (by simp) (by simp only[go_sem,simprocAttr]<;>rfl) (by simp) (by simp) (λq hq=>by cases Nat.lt_one_iff.1 hq;simp only[go_sem,simprocAttr]) (λq hq=>rfl),trivial⟩ (kH b.2 n hb.2 hn) (by simp only[go_sem,simprocAttr]) (λr hr=>by cases List.mem_singleton.1 hr;rfl) ?_
 repeat first|with_reducible refine au ?_|simp only[go_sem,simprocAttr]
 exact ae rfl rfl
/-! ### the stack effect-/
def CI(l:List UInt8):AV:= .s ⟨l.toArray⟩
def aaZ(k:Nat):List AV->Bool
 |[.s _,.s a,.s b,_,_]=>a.data.toList==(eY k).1&&b.data.toList==(eY k).2
 |_=>false
noncomputable def abE:Bool:=match nZ (sj O9.get 3000 20) 97 [] with
 |some (.agg L)=>(List.range 36).all λk=>aaZ k ((L.drop (k*5)).take 5)
 |_=>false
theorem CJ:abE=true:=by kernel_rfl
theorem sU:∃L:List AV,bU Tryz.prog 97 [] [.v (.agg L)]/\L.length=36*5/\∀k:Nat,k<36->∃a,(L.drop (k*5)).take 5=[.s a,.s ⟨(eY k).1.toArray⟩,.s ⟨(eY k).2.toArray⟩,.n .u64 (kQ k),.b (kW k)]:=by
 have h:=CJ
 have h':=tP
 unfold abE at h
 unfold Nx at h'
 split at h
 ·rename_i L hr
  rw[hr] at h'
  simp only[Bool.and_eq_true,decide_eq_true_eq] at h'
  refine⟨L,nY (λB=>lx B aE pK 3000 20) hr,h'.1,λk hk=>?_⟩
  have h1:=List.all_eq_true.1 h k (List.mem_range.2 hk)
  obtain⟨a,b,c,h2⟩:=qv (List.all_eq_true.1 h'.2 k (List.mem_range.2 hk))
  rw[h2] at h1 ⊢
  simp only[aaZ,Bool.and_eq_true,beq_iff_eq] at h1
  exact⟨a,by rw[<-h1.1,<-h1.2]⟩
 ·cases h
theorem sV(k:Nat)(hk:k<36):bU Tryz.prog 103 [.n .i64 k] [.v (CI (eY k).1),.v (CI (eY k).2),.v (.b true)]:=by
 obtain⟨L,hL,hlen,hrow⟩:=sU
 obtain⟨a,hr⟩:=hrow k hk
 have hkn:bU Tryz.prog 70 [.n .i64 k] [.v (.agg [.s a,.s ⟨(eY k).1.toArray⟩,.s ⟨(eY k).2.toArray⟩,.n .u64 (kQ k),.b (kW k)]),.v (.b true)]:=by
  refine ah aE Bc ⟨by simp,by decide⟩ ?_
  simp only[aF]
  have h0:¬((k:Int)<0):=by omega
  have h1:¬((36:Int)<=k):=by omega
  have h2:(0:Int)<=(k:Int):=by omega
  have h3:(k:Int)<36:=by omega
  repeat first|with_reducible refine au ?_|simp only[h0,h1,ge_iff_le,decide_true,decide_false,go_sem,simprocAttr]
  refine b6 ([]) hL ?_
  repeat first|with_reducible refine au ?_|simp only[hlen,h2,h3,hr,Int.toNat_natCast,and_self,go_sem,simprocAttr]
  exact⟨[_,_],rfl,⟨rfl,rfl⟩,⟨rfl,rfl⟩,trivial⟩
 refine ah aE Dv ⟨by simp,by decide⟩ ?_
 simp only[aF]
 repeat first|with_reducible refine au ?_|simp only[go_sem,simprocAttr]
 refine b6 ([.n .i64 k]) hkn ?_
 simp only[CI]
 repeat first|with_reducible refine au ?_|simp only[go_sem,simprocAttr]
 exact⟨[_,_,_],rfl,⟨rfl,rfl⟩,⟨rfl,rfl⟩,⟨rfl,rfl⟩,trivial⟩
def yw:List Int->List eV->Bool->Int
 |[],_,w=>if w=true then 2 else 0
 |_::_,[],_=>0
 |a::ls,x::li,w=>if x.1=a then yw ls li (w||decide (x.2.1<0)||decide (65536<x.2.1)) else 23
abbrev E7(l:List eV):Prop:=∀x ∈ l,0<=x.2.1/\x.2.1<=65536
theorem yu:∀(ls:List Int) (li:List eV) (w:Bool),ls.length=li.length->yw ls li w=if(li.map λx=>x.1)=ls then(if w=false/\E7 li then 0 else 2) else 23
 |[],[],w,_=>by
  rw[yw,if_pos (show(([]:List eV).map λx=>x.1)=[] from rfl)]
  cases w
  ·rw[if_neg (by decide),if_pos ⟨rfl,λx h=>by cases h⟩]
  ·rw[if_pos rfl,if_neg (λh=>by cases h.1)]
 |[],_::_,_,h=>by simp at h
 |_::_,[],_,h=>by simp at h
 |a::ls,x::li,w,h=>by
  have hl:ls.length=li.length:=by simpa using h
  rw[yw,yu ls li _ hl]
  by_cases e:x.1=a
  ·rw[if_pos e]
   by_cases e2:(li.map λx=>x.1)=ls
   ·have hh:(List.map (λx:eV=>x.1) (x::li))=a::ls:=by rw[List.map_cons,e,e2]
    rw[if_pos e2,if_pos hh]
    have key:((w||decide (x.2.1<0)||decide (65536<x.2.1))=false/\E7 li)↔(w=false/\E7 (x::li)):=by
     simp only[Bool.or_eq_false_iff,decide_eq_false_iff_not]
     constructor
     ·rintro ⟨⟨⟨h1,h2⟩,h3⟩,h4⟩
      refine⟨h1,λy hy=>?_⟩
      rcases List.mem_cons.1 hy with rfl|hy
      ·omega
      ·exact h4 y hy
     ·rintro ⟨h1,h2⟩
      have:=h2 x (List.mem_cons_self ..)
      exact⟨⟨⟨h1,by omega⟩,by omega⟩,λy hy=>h2 y (List.mem_cons_of_mem _ hy)⟩
    by_cases k:w=false/\E7 (x::li)
    ·rw[if_pos (key.2 k),if_pos k]
    ·rw[if_neg (λq=>k (key.1 q)),if_neg k]
   ·rw[if_neg e2,if_neg (λq=>e2 (by rw[List.map_cons] at q;exact(List.cons.inj q).2))]
  ·rw[if_neg e,if_neg (λq=>e (by rw[List.map_cons] at q;exact(List.cons.inj q).1))]
theorem BQ(ls:List Int)(li:List eV)(h:ls.length=li.length):oV ls li=yw ls li false:=by
 rw[yu ls li false h,oV]
 by_cases e:(li.map λx=>x.1)=ls
 ·rw[if_pos ⟨h,e⟩,if_pos e]
  by_cases k:E7 li
  ·rw[if_pos k,if_pos ⟨rfl,k⟩]
  ·rw[if_neg k,if_neg (λq=>k q.2)]
 ·rw[if_neg (λq=>e q.2),if_neg e]
theorem yg(ls:List Int)(li:List eV)(h:ls.length≠li.length):oV ls li=23:=if_neg (λq=>h q.1)
theorem jg(cs:List (Int×Int)):∀(k:Nat) (a:Int),a ∈ bD cs k->a<k
 |0,a,h=>by cases h
 |k+1,a,h=>by
  rw[bD] at h
  split at h
  ·rcases List.mem_append.1 h with h|h
   ·have:=jg cs k a h;omega
   ·have:a=k:=by simpa using h
    omega
  ·have:=jg cs k a h;omega
theorem fy(cs:List (Int×Int)):∀k:Nat,(bD cs k).Nodup
 |0=>List.nodup_nil
 |k+1=>by
  rw[bD]
  split
  ·rw[List.nodup_append]
   refine⟨fy cs k,by simp,λa ha b hb=>?_⟩
   have:=jg cs k a ha
   have hb:b=k:=by simpa using hb
   omega
  ·exact fy cs k
theorem pg(cs:List (Int×Int)):(dg cs).Nodup:=by
 unfold dg
 split
 ·exact fy cs _
 ·exact List.nodup_nil
theorem jf:∀{l:List eV} {x:eV},x.1 ∉ (l.map λx=>x.1)->∀a,bi (l++[x]) a=if a=x.1 then x.2.1 else bi l a
 |[],x,_,a=>by
  show(if x.1=a then x.2.1 else 0)=_
  by_cases e:a=x.1
  ·rw[if_pos e,if_pos e.symm]
  ·rw[if_neg e,if_neg (λq=>e q.symm)];rfl
 |y::l,x,h,a=>by
  rw[List.map_cons,List.mem_cons,not_or] at h
  rw[List.cons_append,bi,jf h.2]
  by_cases e:y.1=a
  ·rw[if_pos e,if_neg (λq=>h.1 (q.symm.trans e.symm)),bi,if_pos e]
  ·rw[if_neg e,bi,if_neg e]
theorem fW.look_put(y:fW)(k:Int)(q:IntKind)(v a:Int)(z:AV):(y.put k (.n q v)).look false z a=if a=k then .n q v else y.look false z a:=by
 show(match(if a=k then some (AV.n q v) else y.get a) with
  |some v=>ng false v true
  |none=>ng false z false)=_
 by_cases e:a=k
 ·rw[if_pos e,if_pos e];rfl
 ·rw[if_neg e,if_neg e];rfl
def eA(la:List (Bool×Int))(loc:Int)(cs:List (Int×Int))(li:List eV):Int:=if(cZ la loc cs).2=0 then oV (dg cs) li else(cZ la loc cs).2
theorem mS{la:List (Bool×Int)}{loc:Int}{cs:List (Int×Int)}(h:(cZ la loc cs).2=0):(aD cs).2.2=0/\cs.length<=1024:=by
 have hp:(aD cs).2.2=0:=by
  unfold cZ at h
  split at h
  ·split at h
   ·assumption
   ·exact h
  ·rename_i h1
   exact absurd h h1
 refine⟨hp,?_⟩
 by_cases e:1024<cs.length
 ·rw[aD,if_pos e] at hp
  exact absurd hp (by decide)
 ·omega
def rH(la:List (Bool×Int))(loc:Int)(cs:List (Int×Int))(li:List eV)(rs:List RT)(N:Nat->Option OB):Prop:=
 (eA la loc cs li≠0/\rs=[.v (.agg [.sl0,.cv (.map none)]),.v .sl0,.v (.n .i64 (eA la loc cs li))]/\N=λ_=>none)\/
 (eA la loc cs li=0/\∃r,A3 li r N/\rs=[.v (eJ cs r),.v (.fs 5 (aD cs).1.len (aD cs).1.cell),.v (.n .i64 0)])
theorem uq{la:List (Bool×Int)}{loc:Int}{cs:List (Int×Int)}{li:List eV}{H:AH}{e:Int}(h:eA la loc cs li=e)(h0:e≠0):∃(rs:List RT) (N:Nat->Option OB) (l:List AV),rH la loc cs li rs N/\aX [.agg [.sl0,.cv (.map none)],.sl0,.n .i64 e]=aX l/\kb rs l H/\∀r x,N r=some x->H.ob r=some x/\yp x=true:=
 ⟨_,_,[.agg [.sl0,.cv (.map none)],.sl0,.n .i64 e],.inl ⟨by rw[h];exact h0,rfl,rfl⟩,rfl,⟨⟨rfl,rfl⟩,⟨rfl,rfl⟩,⟨by rw[h],rfl⟩,trivial⟩,λr x hx=>by cases hx⟩
theorem qB(la:List (Bool×Int))(loc:Int)(cs:List (Int×Int))(hl:la.length<=9223372036854775807)(hc:cs.length<=9223372036854775807)(ha:cL cs)(s e h:Int)(li:List eV)(hli:li.length<=1024)(hL:C4 li):
  wM Tryz.prog 34 [aK la loc cs,k8 s e h li] (λ_=>True) (λM rs N=>rH la loc cs li rs N):=by
 refine lD aE Dl ⟨by simp,by decide⟩ λM _=>?_
 simp only[aF,aK,k8]
 repeat first|with_reducible refine au ?_|simp only[go_sem,simprocAttr]
 refine b6 ([aK la loc cs]) (i9 la loc cs hl hc ha) ?_
 by_cases h1:(cZ la loc cs).2=0
 rotate_left
 ·repeat first|with_reducible refine au ?_|simp only[h1,ne_eq,not_false_eq_true,decide_true,decide_false,Bool.not_false,go_sem,simprocAttr]
  exact uq (if_neg h1) h1
 have hO:eA la loc cs li=oV (dg cs) li:=if_pos h1
 obtain⟨hp,hcs⟩:=mS h1
 repeat first|with_reducible refine au ?_|simp only[h1,ne_eq,not_true_eq_false,decide_true,decide_false,Bool.not_true,go_sem,simprocAttr]
 refine b6 ([.fs 2 cs.length (pI cs)]) (vA cs (by omega)) ?_
 rw[hp]
 have hnd:=pg cs
 have hlen:(dg cs).length<=1024:=by
  rw[dg,if_pos hp]
  exact Nat.le_trans (ig cs _) hcs
 generalize hls:dg cs=ls at hO hnd hlen ⊢
 by_cases h2:ls.length=li.length
 rotate_left
 ·have h2':¬(ls.length:Int)=li.length:=by omega
  repeat first|with_reducible refine au ?_|simp only[h2',ne_eq,not_true_eq_false,not_false_eq_true,decide_true,decide_false,Bool.not_true,Bool.not_false,go_sem,simprocAttr]
  exact uq (hO.trans (yg ls li h2)) (by decide)
 have h2':(ls.length:Int)=li.length:=by omega
 rw[BQ ls li h2] at hO
 repeat first|with_reducible refine au ?_|simp only[h2',ne_eq,not_true_eq_false,decide_true,decide_false,Bool.not_true,go_sem,simprocAttr]
 refine pb λr hr=>?_
 repeat first|with_reducible refine au ?_|simp only[go_sem,simprocAttr]
 refine GA.loop (I:=λm ev H=>∃(k:Nat) (wr:Bool) (y:fW) (ob:Nat->Option OB),m=ls.length-k/\k<=ls.length/\yw ls li false=yw (ls.drop k) (li.drop k) wr/\ob r=some (.mp y)/\y.own=true/\(∀a,y.look false (.n .i64 0) a= .n .i64 (bi (li.take k) a))/\((li.take k).map λx=>x.1)=ls.take k/\
   ev=aA [(2,.p 0 0),(3,.p 1 0),(4,.p 2 0),(11,.p 3 0),(12,.b wr),(48,.fs 1 ls.length (iC ls)),(49,.n .i64 li.length),(50,.n .i64 k)]/\
   H=aw ob [aa 0 88 [.fs 2 cs.length (pI cs),.cv (.map (some r))],aa 0 88 [.sl0,.cv (.map none)],aa 0 38 [.n .i64 s,.n .i64 e,.n .i64 h,.fs 3 li.length (vI li)],aa 0 25 [.fs 2 la.length (pA la),.n .i64 loc,.fs 2 cs.length (pI cs)]])
  (Wk.mkS [4,2,1,0] [3] ?_ ?_ ?_) ⟨0,false,⟨true,λ_=>none,0,none⟩,_,rfl,Nat.zero_le _,rfl,?_,rfl,λa=>rfl,rfl,rfl,rfl⟩ ?_
 ·simp only[ej,cQ,go_sem,simprocAttr]
  repeat' refine aW ?_ ?_
  all_goals first|exact iW|skip
  exact .cv (.os (x:=ai 3 1 ls.length 0 (iC ls)) (by simp) (by simp only[go_sem,simprocAttr]) (Nat.le_refl _) (λi j _ hj=>aN i j hj) (λi j _ _=>rfl))
 ·exact .cr (.j2) (.cr (.j2) (.cr (.j4) (.cr (.j3) .nil)))
 ·simp
 ·simp only[go_sem,simprocAttr]
 rintro m ev H ⟨k,wr,y,ob,rfl,hk,hs,hob,hown,hlook,hmap,rfl,rfl⟩
 have h0:(0:Int)<=(k:Int):=by omega
 by_cases hkl:k<ls.length
 rotate_left
 ·have hk':¬(k:Int)<li.length:=by omega
  obtain rfl:k=ls.length:=by omega
  rw[List.drop_length,yw] at hs
  rw[List.take_length,h2,List.take_length] at hmap
  rw[h2,List.take_length] at hlook
  cases wr
  ·repeat first|with_reducible refine au ?_|simp only[hk',decide_false,go_sem,simprocAttr]
   refine b6 ([.fs 2 cs.length (pI cs)]) (kj cs) ?_
   rw[hp]
   repeat first|with_reducible refine au ?_|simp only[go_sem,simprocAttr]
   exact⟨_,λq=>if q=r then some (.mp y) else none,[eJ cs r,.fs 5 (aD cs).1.len (aD cs).1.cell,.n .i64 0],.inr ⟨hO.trans (hs.trans (if_neg (by decide))),r,⟨y,if_pos rfl,hlook⟩,rfl⟩,rfl,⟨⟨rfl,rfl⟩,⟨rfl,rfl⟩,⟨rfl,rfl⟩,trivial⟩,λq x hx=>by
    have hx2:(if q=r then some (OB.mp y) else none)=some x:=hx
    clear hx
    by_cases hq:q=r
    ·rw[if_pos hq] at hx2
     cases hx2
     subst hq
     exact⟨by simp only[hob,go_sem,simprocAttr],hown⟩
    ·rw[if_neg hq] at hx2
     cases hx2⟩
  ·repeat first|with_reducible refine au ?_|simp only[hk',decide_false,go_sem,simprocAttr]
   exact uq (hO.trans (hs.trans (if_pos rfl))) (by decide)
 have hk1:(k:Int)<li.length:=by omega
 have hk2:(k:Int)<ls.length:=by omega
 have hkl':k<li.length:=by omega
 have wk:IntKind.i64.wrap ((k:Int)+1)=((k+1:Nat):Int):=(aj (by omega)).trans (by omega)
 rw[cE (d:=0) hkl,cE (d:=lh) hkl',yw] at hs
 have htl:li.take (k+1)=li.take k++[li.getD k lh]:=by
  rw[List.take_add_one,List.getD_eq_getElem?_getD,List.getElem?_eq_getElem hkl'];rfl
 have htl2:ls.take (k+1)=ls.take k++[ls.getD k 0]:=by
  rw[List.take_add_one,List.getD_eq_getElem?_getD,List.getElem?_eq_getElem hkl];rfl
 have hLk:abV (vI li k 2):=hL _ (by
  rw[List.getD_eq_getElem?_getD,List.getElem?_eq_getElem hkl'];exact List.getElem_mem hkl')
 by_cases h3:(li.getD k lh).1=ls.getD k 0
 rotate_left
 ·rw[if_neg h3] at hs
  rcases hLk with hV2|⟨x3,x4,hV2⟩
  all_goals
   repeat first|with_reducible refine au ?_|simp only[h0,hk1,hk2,iC0,vI0,vI1,hV2,ox,tS,h3,ne_eq,not_false_eq_true,decide_true,Bool.not_false,go_sem,simprocAttr]
   exact uq (hO.trans hs) (by decide)
 rw[if_pos h3] at hs
 have hnot:(li.getD k lh).1 ∉ ((li.take k).map λx=>x.1):=by
  rw[hmap,h3]
  intro hin
  have hn2:(ls.take (k+1)).Nodup:=hnd.sublist (List.take_sublist _ _)
  rw[htl2,List.nodup_append] at hn2
  exact hn2.2.2 _ hin _ (List.mem_singleton.2 rfl) rfl
 have hmap':((li.take (k+1)).map λx=>x.1)=ls.take (k+1):=by
  rw[htl,htl2,List.map_append,hmap]
  simp only[List.map_cons,List.map_nil,h3]
 have hlook':∀a,(y.put (ls.getD k 0) (.n .i64 (li.getD k lh).2.1)).look false (.n .i64 0) a= .n .i64 (bi (li.take (k+1)) a):=λa=>by
  rw[fW.look_put,htl,jf hnot,hlook,h3]
  split<;>rfl
 generalize hx:li.getD k lh=x at hs h3 hlook' htl
 obtain⟨x1,x2,x3⟩:=x
 replace h3:x1=ls.getD k 0:=h3
 subst h3
 have hV0:vI li k 0= .n .i64 (ls.getD k 0):=by rw[vI0,hx]
 have hV1:vI li k 1= .n .i64 x2:=by rw[vI1,hx]
 replace hs:yw ls li false=yw (ls.drop (k+1)) (li.drop (k+1)) (wr||decide (x2<0)||decide (65536<x2)):=hs
 replace hlook':∀a,(y.put (ls.getD k 0) (.n .i64 x2)).look false (.n .i64 0) a= .n .i64 (bi (li.take (k+1)) a):=hlook'
 clear hlook htl hmap hnot
 rcases hLk with hV2|⟨x3,x4,hV2⟩<;>cases wr<;>cases q1:decide (x2<0)<;>cases q2:decide (65536<x2)
 all_goals
  rw[q1,q2] at hs
  repeat first|with_reducible refine au ?_|simp only[h0,hk1,hk2,iC0,hV0,hV1,hV2,ox,tS,hob,hown,q1,q2,wk,gt_iff_lt,ne_eq,not_true_eq_false,decide_true,decide_false,Bool.not_true,go_sem,simprocAttr]
  refine⟨_,_,_,?_,Wk.mkS [3,2,1,0] [] ?_ ?_ ?_,k+1,_,y.put (ls.getD k 0) (.n .i64 x2),_,rfl,by omega,hs,?_,hown,hlook',hmap',rfl,rfl⟩
  ·omega
  ·exact aZ
  ·exact .cr .ls (.cr .ls (.cr .ls (.cr .ls .nil)))
  ·simp
  ·simp only[go_sem,simprocAttr]
theorem BU{ls:List Int}{li:List eV}(h:oV ls li=0):ls.length=li.length/\(li.map λx=>x.1)=ls/\E7 li:=by
 unfold oV at h
 split at h
 ·rename_i h1
  split at h
  ·rename_i h2
   exact⟨h1.1,h1.2,h2⟩
  ·exact absurd h (by decide)
 ·exact absurd h (by decide)
theorem tQ{la:List (Bool×Int)}{loc:Int}{cs:List (Int×Int)}{li:List eV}(h:eA la loc cs li=0):∃out,aM cs out (aD cs).1 0 cs.length/\cs.length<=1024/\E7 li/\(aD cs).2.2=0:=by
 by_cases h1:(cZ la loc cs).2=0
 ·have h2:oV (dg cs) li=0:=(if_pos h1).symm.trans h
  obtain⟨hp,_⟩:=mS h1
  rcases sw cs with⟨a,e,he,_,k2⟩|⟨out,o,_,k2,k3,_,k5⟩
  ·rw[k2] at hp;exact absurd hp he
  ·exact⟨out,by rw[k2];exact k5,k3,(BU h2).2.2,hp⟩
 ·exact absurd ((if_neg h1).symm.trans h) h1
theorem rI.okf{cs:List (Int×Int)}(hcs:cs.length<=100000):∀{o:Fo},rI cs o->Ba o
 |.nil,_=>trivial
 |.pl x y r,h=>⟨h.1,by have:=h.2.1;omega,rI.okf hcs h.2.2⟩
 |.br op x y u v r,h=>⟨h.1,rI.okf hcs h.2.1,rI.okf hcs h.2.2.1,rI.okf hcs h.2.2.2⟩
theorem rI.okp{cs:List (Int×Int)}{C:Nat->Nat->Prop}(hC:∀x y,x<=y->y<=cs.length->C x y):∀{o:Fo},rI cs o->A2 C o
 |.nil,_=>trivial
 |.pl x y r,h=>⟨hC x y h.1 h.2.1,rI.okp hC h.2.2⟩
 |.br op x y u v r,h=>⟨h.1,rI.okp hC h.2.1,rI.okp hC h.2.2.1,rI.okp hC h.2.2.2⟩
def ke(la:List (Bool×Int))(loc:Int)(cs:List (Int×Int))(li:List eV):Int×Int:=if eA la loc cs li=0 then nv (aP li (aD cs).1 0) else(0,eA la loc cs li)
def kw(la:List (Bool×Int))(loc:Int)(cs:List (Int×Int))(li:List eV):Int×Int:=if eA la loc cs li=0 then nv (a9 cs li (aD cs).1 0) else(0,eA la loc cs li)
theorem uV{cs:List (Int×Int)}(hcs:cs.length<=1024)(r x y:Nat)(h1:x<=y)(h2:y<=cs.length):OZ cs r 36 (λx y=>(y:Int)-x) x y:=by
 have e:((y:Int)-x)=((y-x:Nat):Int):=by omega
 refine⟨?_,by show 0<=(y:Int)-x;omega,by show(y:Int)-x<=100000;omega⟩
 show bU Tryz.prog 36 [eJ cs r,.n .i64 x,.n .i64 y] [.v (.n .i64 ((y:Int)-x))]
 rw[e]
 exact tc cs r x y h1 (by omega)
theorem uY{cs:List (Int×Int)}(hcs:cs.length<=1024)(r x y:Nat)(h1:x<=y)(h2:y<=cs.length):OZ cs r 37 (λx y=>(cA cs x (y-x):Nat)) x y:=by
 have:=jU cs x (y-x)
 exact⟨tf cs r x y h1 h2 (by omega),by show(0:Int)<=(cA cs x (y-x):Nat);omega,by show((cA cs x (y-x):Nat):Int)<=100000;omega⟩
theorem sY(la:List (Bool×Int))(loc:Int)(cs:List (Int×Int))(hl:la.length<=9223372036854775807)(hc:cs.length<=9223372036854775807)(ha:cL cs)(s e h:Int)(li:List eV)(hli:li.length<=1024)(hL:C4 li):
  bU Tryz.prog 13 [aK la loc cs,k8 s e h li] [.v (.n .i64 (ke la loc cs li).1),.v (.n .i64 (ke la loc cs li).2)]:=by
 refine ah aE Dm ⟨by simp,by decide⟩ ?_
 simp only[aF,aK,k8]
 repeat first|with_reducible refine au ?_|simp only[go_sem,simprocAttr]
 refine cn [] (fargs:=[aK la loc cs,k8 s e h li]) (cF.same rfl) (qB la loc cs hl hc ha s e h li hli hL) True.intro ?_ ?_
 ·simp only[go_sem,simprocAttr]
 rintro rs N (⟨h0,rfl,rfl⟩|⟨h0,r,⟨x,hx,hlk⟩,rfl⟩) hfree
 ·rw[show ke la loc cs li=(0,eA la loc cs li) from if_neg h0]
  repeat first|with_reducible refine au ?_|simp only[h0,ne_eq,not_false_eq_true,decide_false,Bool.not_false,go_sem,simprocAttr]
  exact⟨[_,_],rfl,⟨rfl,rfl⟩,⟨rfl,rfl⟩,trivial⟩
 obtain⟨out,hg,hcs,hin,_⟩:=tQ h0
 have hm:=jG hin
 have hok:=hg.oke (Nat.le_refl _)
 have hsz:=hg.size
 have hw:=lJ cs r li 36 (λx y=>(y:Int)-x) 1 (by decide) hm _ (aD cs).1 (Nat.lt_succ_self _) (by omega) (hok.okp (uV hcs r))
 unfold rF at hw
 rw[dH (λa=>(hm a).1) _ 0 (hok.okf (by omega)) (by decide)] at hw
 rw[show ke la loc cs li=nv (aP li (aD cs).1 0) from if_pos h0]
 simp only[eJ]
 repeat first|with_reducible refine au ?_|simp only[ne_eq,not_true_eq_false,decide_true,Bool.not_true,go_sem,simprocAttr]
 refine cn [] (fargs:=[eJ cs r,.fs 5 (aD cs).1.len (aD cs).1.cell,.f 36 [eJ cs r] [],.n .i64 1]) (cF.same rfl) hw ⟨x,?_,hlk⟩ ?_ ?_
 ·simp only[go_sem,simprocAttr]
  exact(j7 rfl).trans hx
 ·simp only[go_sem,simprocAttr]
 rintro rs N2 ⟨rfl,rfl⟩ _
 repeat first|with_reducible refine au ?_|simp only[go_sem,simprocAttr]
 refine b6 ([.n .i64 (aP li (aD cs).1 0)]) (ir _) ?_
 repeat first|with_reducible refine au ?_|simp only[go_sem,simprocAttr]
 exact⟨[_,_],rfl,⟨rfl,rfl⟩,⟨rfl,rfl⟩,trivial⟩
theorem ta(la:List (Bool×Int))(loc:Int)(cs:List (Int×Int))(hl:la.length<=9223372036854775807)(hc:cs.length<=9223372036854775807)(ha:cL cs)(s e h:Int)(li:List eV)(hli:li.length<=1024)(hL:C4 li):
  bU Tryz.prog 14 [aK la loc cs,k8 s e h li] [.v (.n .i64 (kw la loc cs li).1),.v (.n .i64 (kw la loc cs li).2)]:=by
 refine ah aE Db ⟨by simp,by decide⟩ ?_
 simp only[aF,aK,k8]
 repeat first|with_reducible refine au ?_|simp only[go_sem,simprocAttr]
 refine cn [] (fargs:=[aK la loc cs,k8 s e h li]) (cF.same rfl) (qB la loc cs hl hc ha s e h li hli hL) True.intro ?_ ?_
 ·simp only[go_sem,simprocAttr]
 rintro rs N (⟨h0,rfl,rfl⟩|⟨h0,r,⟨x,hx,hlk⟩,rfl⟩) hfree
 ·rw[show kw la loc cs li=(0,eA la loc cs li) from if_neg h0]
  repeat first|with_reducible refine au ?_|simp only[h0,ne_eq,not_false_eq_true,decide_false,Bool.not_false,go_sem,simprocAttr]
  exact⟨[_,_],rfl,⟨rfl,rfl⟩,⟨rfl,rfl⟩,trivial⟩
 obtain⟨out,hg,hcs,hin,_⟩:=tQ h0
 have hm:=jG hin
 have hok:=hg.oke (Nat.le_refl _)
 have hsz:=hg.size
 have hw:=lJ cs r li 37 (λx y=>(cA cs x (y-x):Nat)) 0 (by decide) hm _ (aD cs).1 (Nat.lt_succ_self _) (by omega) (hok.okp (uY hcs r))
 unfold rF at hw
 rw[dI (λa=>(hm a).1) _ 0 (by decide)] at hw
 rw[show kw la loc cs li=nv (a9 cs li (aD cs).1 0) from if_pos h0]
 simp only[eJ]
 repeat first|with_reducible refine au ?_|simp only[ne_eq,not_true_eq_false,decide_true,Bool.not_true,go_sem,simprocAttr]
 refine cn [] (fargs:=[eJ cs r,.fs 5 (aD cs).1.len (aD cs).1.cell,.f 37 [eJ cs r] [],.n .i64 0]) (cF.same rfl) hw ⟨x,?_,hlk⟩ ?_ ?_
 ·simp only[go_sem,simprocAttr]
  exact(j7 rfl).trans hx
 ·simp only[go_sem,simprocAttr]
 rintro rs N2 ⟨rfl,rfl⟩ _
 repeat first|with_reducible refine au ?_|simp only[go_sem,simprocAttr]
 refine b6 ([.n .i64 (a9 cs li (aD cs).1 0)]) (ir _) ?_
 repeat first|with_reducible refine au ?_|simp only[go_sem,simprocAttr]
 exact⟨[_,_],rfl,⟨rfl,rfl⟩,⟨rfl,rfl⟩,trivial⟩
end Go.Proofs.YtdpkgnmmikebdaaGreat