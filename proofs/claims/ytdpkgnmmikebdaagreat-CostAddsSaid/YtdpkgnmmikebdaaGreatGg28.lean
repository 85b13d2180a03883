/- A part of the proof of CostAdds: CbG VfD VfE VfF VfG VfH CbH CbI. No condition. -/
import Derived.Test.YtdpkgnmmikebdaaGreatGg27
import Derived.Test.YtdpkgnmmikebdaaGreatGg26
import Derived.Test.YtdpkgnmmikebdaaGreatGg22
import Derived.Test.YtdpkgnmmikebdaaGreatGg16
import Derived.Test.YtdpkgnmmikebdaaGreatGg20
import Derived.Test.YtdpkgnmmikebdaaGreatGg17
set_option linter.unusedSimpArgs false
set_option linter.unusedVariables false
set_option linter.constructorNameAsVariable false
set_option maxRecDepth 100000
set_option maxHeartbeats 4000000
namespace Go.Proofs.YtdpkgnmmikebdaaGreat
open Go.RowKit
def Ar(C:Nat->Nat->Prop):Fo->Prop
 |.nil=>True
 |.pl x y r=>C x y/\Ar C r
 |.br op x y u v r=>(op=27\/op=29)/\Ar C u/\Ar C v/\Ar C r
def Av(li:List cS)(r:Nat)(M:Nat->Option OB):Prop:=∃x,M r=some (.mp x)/\∀a,x.look false (.n .i64 0) a= .n .i64 (aO li a)
def Kh(cs:List (Int×Int))(r:Nat)(g:FuncId)(pl:Nat->Nat->Int)(x y:Nat):Prop:=bN Tryz.prog g [eB cs r,.n .i64 x,.n .i64 y] [.v (.n .i64 (pl x y))]/\0<=pl x y/\pl x y<=100000
def rQ(cs:List (Int×Int))(r:Nat)(li:List cS)(g:FuncId)(pl:Nat->Nat->Int)(own:Int)(o:Fo):Prop:=
 wX Tryz.prog 35 [eB cs r,.fs 5 o.len o.cell,.f g [eB cs r] [],.n .i64 own] (Av li r) (λM rs N=>rs=[.v (.n .i64 (bJ li pl own o 0))]/\N=λ_=>none)
theorem Wo{P:List RT->(Nat->Option OB)->Prop}{v:AV}{H:AH}(h:P [.v v] (λ_=>none))(hp:v.pu 3=true):∃(rs:List RT) (N:Nat->Option OB) (l:List AV),P rs N/\v=bn l/\kr rs l H/\∀r x,N r=some x->H.ob r=some x/\x6 x=true:=
 ⟨_,_,[v],h,rfl,⟨⟨rfl,hp⟩,trivial⟩,λr x hx=>by cases hx⟩
theorem gW{C:Nat->Nat->Prop}{li:List cS}{pl:Nat->Nat->Int}{own:Int}(hown:0<=own/\own<=1)(hC:∀x y,C x y->0<=pl x y/\pl x y<=100000)(hm:∀a,0<=aO li a):∀(o:Fo) (n:Int),Ar C o->0<=n/\n<=281474976710657->0<=bJ li pl own o n/\bJ li pl own o n<=281474976710657
 |.nil,n,_,h=>h
 |.pl x y r,n,ho,h=>gW hown hC hm r _ ho.2 (ay (by have:=hC x y ho.1;omega))
 |.br op x y u v r,n,ho,h=>by
  have hu:=gW hown hC hm u 0 ho.2.1 (by omega)
  have hv:=gW hown hC hm v 0 ho.2.2.1 (by omega)
  refine gW hown hC hm r _ ho.2.2.2 (ay ?_)
  split
  ·have:=ay (n:=own+(if bJ li pl own u 0<bJ li pl own v 0 then bJ li pl own v 0 else bJ li pl own u 0)) (by split<;>omega)
   omega
  ·have h1:=(bo (ay (n:=own+bJ li pl own u 0) (by omega)).1 (hm x)).1
   have:=ay (n:=own+bc (aX (own+bJ li pl own u 0)) (aO li x)) (by omega)
   omega
theorem uS(cs:List (Int×Int))(r:Nat)(li:List cS)(g:FuncId)(pl:Nat->Nat->Int)(own:Int)(hown:0<=own/\own<=1)(hm:∀a,0<=aO li a/\aO li a<=65536)(o:Fo)(ho:Ar (Kh cs r g pl) o)(hlen:o.len<=100000)(ih:∀u:Fo,u.size<o.size->Ar (Kh cs r g pl) u->rQ cs r li g pl own u):rQ cs r li g pl own o:=by
 refine lR aF NM ⟨by simp,by decide⟩ λM hM=>?_
 obtain⟨y,hob,hlook⟩:∃y,lH M r=some (.mp y)/\∀a,y.look false (.n .i64 0) a= .n .i64 (aO li a):=by
  obtain⟨x0,hx0,hlook⟩:=hM
  exact⟨_,B9 hx0,hlook⟩
 have hW:∀u:Fo,Ar (Kh cs r g pl) u->0<=bJ li pl own u 0/\bJ li pl own u 0<=281474976710657:=λu hu=>gW hown (λx y h=>h.2) (λa=>(hm a).1) u 0 hu (by omega)
 have hMap:Av li r (lH M):=⟨y,hob,hlook⟩
 clear hM
 simp only[aH,eB]
 repeat first|with_reducible refine ao ?_|simp only[go_sem,simprocAttr]
 refine GA.loop (I:=λm ev H=>∃(rest:Fo) (k:Nat) (n:Int),m=rest.size/\k+rest.len=o.len/\bJ li pl own o 0=bJ li pl own rest n/\(0<=n/\n<=281474976710657)/\Ar (Kh cs r g pl) rest/\(∀i j,i<rest.len->rest.cell i j=o.cell (k+i) j)/\rest.size<=o.size/\ev=aB [(2,.f g [.agg [.fs 2 cs.length (pI cs),.cv (.map (some r))]] []),(3,.n .i64 own),(4,.p 0 0),(9,.n .i64 n),(13,.fs 5 o.len o.cell),(14,.n .i64 o.len),(15,.n .i64 k)]/\H=az (lH M) [ae 0 88 [.fs 2 cs.length (pI cs),.cv (.map (some r))]]) (Wk.mkS [0] [] ?_ ?_ ?_) ⟨o,0,0,rfl,by omega,rfl,by omega,ho,λi j _=>by rw[Nat.zero_add],Nat.le_refl _,rfl,rfl⟩ ?_
 ·exact ba
 ·exact .cr (.j2) .nil
 ·simp
 rintro m ev H ⟨rest,k,n,rfl,hkl,hs,hn,hok,hc,hsz,rfl,rfl⟩
 have h0:(0:Int)<=(k:Int):=by omega
 cases rest with
 |nil=>
  have hk:¬(k:Int)<o.len:=by simp[Fo.len] at hkl;omega
  repeat first|with_reducible refine ao ?_|simp only[hk,decide_false,go_sem,simprocAttr]
  exact Wo (P:=λrs N=>rs=_/\N=λ_=>none) ⟨by rw[hs];rfl,rfl⟩ rfl
 |pl x y r'=>
  obtain⟨g1,g3⟩:=hok
  simp only[Fo.len] at hkl hc
  have hk:(k:Int)<o.len:=by omega
  have d0:o.cell k 0= .n .i64 (-1):=(hc 0 0 (by omega)).symm
  have d1:o.cell k 1= .n .i64 x:=(hc 0 1 (by omega)).symm
  have d2:o.cell k 2= .n .i64 y:=(hc 0 2 (by omega)).symm
  have d3:o.cell k 3= .sl0:=(hc 0 3 (by omega)).symm
  have d4:o.cell k 4= .sl0:=(hc 0 4 (by omega)).symm
  have wk:IntKind.i64.wrap ((k:Int)+1)=((k+1:Nat):Int):=(am (by omega)).trans (by omega)
  obtain⟨g1,g2⟩:=g1
  repeat first|with_reducible refine ao ?_|simp only[h0,hk,d0,d1,d2,d3,d4,decide_true,decide_false,go_sem,simprocAttr]
  refine bO ([eB cs r,.n .i64 x,.n .i64 y]) g1 ?_
  repeat first|with_reducible refine ao ?_|simp only[go_sem,simprocAttr]
  refine bO ([.n .i64 n,.n .i64 (pl x y)]) (fJ n (pl x y) (by omega) (by omega)) ?_
  repeat first|with_reducible refine ao ?_|simp only[wk,go_sem,simprocAttr]
  refine⟨_,_,_,?_,Wk.mkS [0] [] ?_ ?_ ?_,r',k+1,aX (n+pl x y),rfl,by omega,hs,ay (by omega),g3,λi j hi=>?_,by simp only[Fo.size] at hsz;omega,rfl,rfl⟩
  ·simp only[Fo.size];omega
  ·exact ba
  ·exact .cr .ls .nil
  ·simp
  ·have:=hc (i+1) j (by omega)
   rw[show k+1+i=k+(i+1) by omega]
   exact this
 |br op x y u v r'=>
  obtain⟨hop,gu,gv,gr⟩:=hok
  simp only[Fo.len] at hkl hc
  have hk:(k:Int)<o.len:=by omega
  have d0:o.cell k 0= .n .i64 op:=(hc 0 0 (by omega)).symm
  have d1:o.cell k 1= .n .i64 x:=(hc 0 1 (by omega)).symm
  have d2:o.cell k 2= .n .i64 y:=(hc 0 2 (by omega)).symm
  have d3:o.cell k 3= .fs 5 u.len u.cell:=(hc 0 3 (by omega)).symm
  have d4:o.cell k 4= .fs 5 v.len v.cell:=(hc 0 4 (by omega)).symm
  have wk:IntKind.i64.wrap ((k:Int)+1)=((k+1:Nat):Int):=(am (by omega)).trans (by omega)
  have hsu:u.size<o.size:=by simp only[Fo.size] at hsz;omega
  have hsv:v.size<o.size:=by simp only[Fo.size] at hsz;omega
  have Bu:=hW u gu
  have Bv:=hW v gv
  have hc':∀i j,i<r'.len->r'.cell i j=o.cell (k+1+i) j:=λi j hi=>by
   have:=hc (i+1) j (by omega)
   rw[show k+1+i=k+(i+1) by omega]
   exact this
  rcases hop with rfl|rfl
  ·obtain⟨X,hX⟩:∃X,X=(if bJ li pl own u 0<bJ li pl own v 0 then bJ li pl own v 0 else bJ li pl own u 0):=⟨_,rfl⟩
   have BX:0<=X/\X<=281474976710657:=by rw[hX];split<;>omega
   obtain⟨S,hS⟩:∃S,S=aX (own+X):=⟨_,rfl⟩
   have BS:0<=S/\S<=281474976710657:=by rw[hS];exact ay (by omega)
   rw[bJ,if_pos rfl,<-hX,<-hS] at hs
   repeat first|with_reducible refine ao ?_|simp only[h0,hk,d0,d1,d2,d3,d4,decide_true,go_sem,simprocAttr]
   refine cw [] (fargs:=[eB cs r,.fs 5 u.len u.cell,.f g [eB cs r] [],.n .i64 own]) (cm.same rfl) (ih u hsu gu) ?_ ?_ ?_
   ·simp only[go_sem,simprocAttr];exact hMap
   ·simp only[go_sem,simprocAttr]
   rintro rs N ⟨rfl,rfl⟩ _
   repeat first|with_reducible refine ao ?_|simp only[go_sem,simprocAttr]
   refine cw [] (fargs:=[eB cs r,.fs 5 v.len v.cell,.f g [eB cs r] [],.n .i64 own]) (cm.same rfl) (ih v hsv gv) ?_ ?_ ?_
   ·simp only[go_sem,simprocAttr];exact hMap
   ·simp only[go_sem,simprocAttr]
   rintro rs N ⟨rfl,rfl⟩ _
   repeat first|with_reducible refine ao ?_|simp only[go_sem,simprocAttr]
   rw[<-hX]
   refine bO ([.n .i64 own,.n .i64 X]) (fJ own X (by omega) (by omega)) ?_
   rw[<-hS]
   repeat first|with_reducible refine ao ?_|simp only[go_sem,simprocAttr]
   refine bO ([.n .i64 n,.n .i64 S]) (fJ n S (by omega) (by omega)) ?_
   repeat first|with_reducible refine ao ?_|simp only[wk,go_sem,simprocAttr]
   refine⟨_,_,_,?_,Wk.mkS [0] [] ?_ ?_ ?_,r',k+1,aX (n+S),rfl,by omega,hs,ay (by omega),gr,hc',by simp only[Fo.size] at hsz;omega,rfl,rfl⟩
   ·simp only[Fo.size];omega
   ·exact ba
   ·exact .cr .ls .nil
   ·simp
  ·obtain⟨S,hS⟩:∃S,S=aX (own+bJ li pl own u 0):=⟨_,rfl⟩
   have BS:0<=S/\S<=281474976710657:=by rw[hS];exact ay (by omega)
   obtain⟨T,hT⟩:∃T,T=bc S (aO li x):=⟨_,rfl⟩
   have BT:0<=T/\T<=281474976710657:=by rw[hT];exact bo BS.1 (hm x).1
   obtain⟨Z,hZ⟩:∃Z,Z=aX (own+T):=⟨_,rfl⟩
   have BZ:0<=Z/\Z<=281474976710657:=by rw[hZ];exact ay (by omega)
   rw[bJ,if_neg (by decide),<-hS,<-hT,<-hZ] at hs
   repeat first|with_reducible refine ao ?_|simp only[h0,hk,d0,d1,d2,d3,d4,decide_true,decide_false,go_sem,simprocAttr]
   refine GA.mxlm aF 2 (by simp only[go_sem,simprocAttr]) ?_
   simp only[hob,hlook,go_sem,simprocAttr]
   refine cw [] (fargs:=[eB cs r,.fs 5 u.len u.cell,.f g [eB cs r] [],.n .i64 own]) (cm.same rfl) (ih u hsu gu) ?_ ?_ ?_
   ·simp only[go_sem,simprocAttr];exact hMap
   ·simp only[go_sem,simprocAttr]
   rintro rs N ⟨rfl,rfl⟩ _
   repeat first|with_reducible refine ao ?_|simp only[go_sem,simprocAttr]
   refine bO ([.n .i64 own,.n .i64 (bJ li pl own u 0)]) (fJ own _ (by omega) (by omega)) ?_
   rw[<-hS]
   repeat first|with_reducible refine ao ?_|simp only[go_sem,simprocAttr]
   refine bO ([.n .i64 S,.n .i64 (aO li x)]) (nW S (aO li x) BS (hm x)) ?_
   rw[<-hT]
   repeat first|with_reducible refine ao ?_|simp only[go_sem,simprocAttr]
   refine bO ([.n .i64 own,.n .i64 T]) (fJ own T (by omega) (by omega)) ?_
   rw[<-hZ]
   repeat first|with_reducible refine ao ?_|simp only[go_sem,simprocAttr]
   refine bO ([.n .i64 n,.n .i64 Z]) (fJ n Z (by omega) (by omega)) ?_
   repeat first|with_reducible refine ao ?_|simp only[wk,go_sem,simprocAttr]
   refine⟨_,_,_,?_,Wk.mkS [0] [] ?_ ?_ ?_,r',k+1,aX (n+Z),rfl,by omega,hs,ay (by omega),gr,hc',by simp only[Fo.size] at hsz;omega,rfl,rfl⟩
   ·simp only[Fo.size];omega
   ·exact ba
   ·exact .cr .ls .nil
   ·simp
theorem lW(cs:List (Int×Int))(r:Nat)(li:List cS)(g:FuncId)(pl:Nat->Nat->Int)(own:Int)(hown:0<=own/\own<=1)(hm:∀a,0<=aO li a/\aO li a<=65536):∀(n:Nat) (o:Fo),o.size<n->o.size<=100000->Ar (Kh cs r g pl) o->rQ cs r li g pl own o
 |0,o,hn,_,_=>absurd hn (Nat.not_lt_zero _)
 |n+1,o,hn,hs,ho=>uS cs r li g pl own hown hm o ho (Nat.le_trans (Fo.len_le_size o) hs) λu hu gu=>lW cs r li g pl own hown hm n u (by omega) (by omega) gu
def iv(x:Iv):AV:= .agg [.n .i64 x.1,.n .i64 x.2]
theorem iZ(x:Iv):bN Tryz.prog 128 [iv x] [.v (.n .i64 (wL x))]:=by
 refine ag aF Sk ⟨by simp,by decide⟩ ?_
 obtain⟨a,b⟩:=x
 simp only[aH,iv,wL]
 by_cases h1:a<0
 ·repeat first|with_reducible refine ao ?_|simp only[h1,gt_iff_lt,decide_true,decide_false,go_sem,simprocAttr]
  exact aa (by simp[h1]) rfl
 by_cases h2:4294967295<a
 ·repeat first|with_reducible refine ao ?_|simp only[h1,h2,gt_iff_lt,decide_true,decide_false,go_sem,simprocAttr]
  exact aa (by simp[h1,h2]) rfl
 by_cases h3:b<0
 ·repeat first|with_reducible refine ao ?_|simp only[h1,h2,h3,gt_iff_lt,decide_true,decide_false,go_sem,simprocAttr]
  exact aa (by simp[h1,h2,h3]) rfl
 by_cases h4:4294967295<b
 ·repeat first|with_reducible refine ao ?_|simp only[h1,h2,h3,h4,gt_iff_lt,decide_true,decide_false,go_sem,simprocAttr]
  exact aa (by simp[h1,h2,h3,h4]) rfl
 by_cases h5:b<a
 ·repeat first|with_reducible refine ao ?_|simp only[h1,h2,h3,h4,h5,gt_iff_lt,decide_true,decide_false,go_sem,simprocAttr]
  exact aa (by simp[h1,h2,h3,h4,h5]) rfl
 repeat first|with_reducible refine ao ?_|simp only[h1,h2,h3,h4,h5,gt_iff_lt,decide_true,decide_false,go_sem,simprocAttr]
 exact aa (by simp[h1,h2,h3,h4,h5]) rfl
theorem kD(x y:Iv):bN Tryz.prog 92 [iv x,iv y] [.v (.b (decide (cO x/\cO y)))]:=by
 refine ag aF Sp ⟨by simp,by decide⟩ ?_
 simp only[aH,iv]
 repeat first|with_reducible refine ao ?_|simp only[go_sem,simprocAttr]
 refine bO ([iv x]) (iZ x) ?_
 by_cases hx:wL x=0
 rotate_left
 ·repeat first|with_reducible refine ao ?_|simp only[hx,decide_false,go_sem,simprocAttr]
  exact aa (by rw[decide_eq_false (λh=>hx (i7.2 h.1))]) rfl
 repeat first|with_reducible refine ao ?_|simp only[hx,decide_true,go_sem,simprocAttr]
 refine bO ([iv y]) (iZ y) ?_
 repeat first|with_reducible refine ao ?_|simp only[hx,decide_true,go_sem,simprocAttr]
 refine aa ?_ rfl
 congr 1
 by_cases hy:wL y=0
 ·rw[decide_eq_true hy,decide_eq_true ⟨i7.1 hx,i7.1 hy⟩]
 ·rw[decide_eq_false hy,decide_eq_false (λh=>hy (i7.2 h.2))]
theorem cq:bN Tryz.prog 63 [] [.v (iv (0,4294967295))]:=by
 refine ag aF RZ ⟨by simp,by decide⟩ ?_
 simp only[aH,iv]
 repeat first|with_reducible refine ao ?_|simp only[go_sem,simprocAttr]
 exact aa rfl rfl
theorem ff(n:Int)(h:0<=n/\n<=4294967295):bN Tryz.prog 54 [.n .u32 n] [.v (iv (n,n))]:=by
 refine ag aF RF ⟨by simp,by decide⟩ ?_
 simp only[aH,iv]
 have w:IntKind.i64.wrap n=n:=am (by omega)
 repeat first|with_reducible refine ao ?_|simp only[w,go_sem,simprocAttr]
 exact aa rfl rfl
theorem mP(x y:Iv):bN Tryz.prog 62 [iv x,iv y] [.v (iv (fP x y))]:=by
 refine ag aF Sv ⟨by simp,by decide⟩ ?_
 simp only[aH,iv]
 repeat first|with_reducible refine ao ?_|simp only[go_sem,simprocAttr]
 refine bO ([iv x,iv y]) (kD x y) ?_
 by_cases h:cO x/\cO y
 ·have hd:=decide_eq_true h
  rw[show fP x y=(jb x.1 y.1,aU x.2 y.2) from if_pos h]
  repeat first|with_reducible refine ao ?_|simp only[hd,ox,gF,BV,r7,go_sem,simprocAttr]
  exact aa rfl rfl
 ·have hd:=decide_eq_false h
  rw[show fP x y=(0,0) from if_neg h]
  repeat first|with_reducible refine ao ?_|simp only[hd,go_sem,simprocAttr]
  exact aa rfl rfl
theorem px(x y:Iv):bN Tryz.prog 172 [iv x,iv y] [.v (.b (dh x y))]:=by
 refine ag aF LA ⟨by simp,by decide⟩ ?_
 simp only[aH,iv]
 repeat first|with_reducible refine ao ?_|simp only[go_sem,simprocAttr]
 refine bO ([iv x,iv y]) (kD x y) ?_
 unfold dh
 by_cases h:cO x/\cO y
 rotate_left
 ·have hd:=decide_eq_false h
  repeat first|with_reducible refine ao ?_|simp only[hd,go_sem,simprocAttr]
  exact aa (by simp) rfl
 have hd:=decide_eq_true h
 by_cases h1:y.1<=x.1
 rotate_left
 ·repeat first|with_reducible refine ao ?_|simp only[hd,h1,decide_true,decide_false,go_sem,simprocAttr]
  exact aa (by simp[h1]) rfl
 repeat first|with_reducible refine ao ?_|simp only[hd,h1,decide_true,decide_false,go_sem,simprocAttr]
 exact aa rfl rfl
theorem rd(x y:Iv):bN Tryz.prog 61 [iv x,iv y] [.v (iv (fo x y))]:=by
 refine ag aF Sb ⟨by simp,by decide⟩ ?_
 simp only[aH,iv]
 repeat first|with_reducible refine ao ?_|simp only[go_sem,simprocAttr]
 refine bO ([iv x,iv y]) (kD x y) ?_
 by_cases h:cO x/\cO y
 rotate_left
 ·have hd:=decide_eq_false h
  rw[show fo x y=(0,0) from if_neg h]
  repeat first|with_reducible refine ao ?_|simp only[hd,go_sem,simprocAttr]
  exact aa rfl rfl
 obtain⟨lo,hlo⟩:∃lo,lo=(if y.1<x.1 then 0 else x.1):=⟨_,rfl⟩
 have hw:fo x y=(lo,if x.2<y.2 then Ch y.2 else x.2):=by rw[hlo];exact if_pos h
 rw[hw]
 have hy3:=h.2.2.2
 have hd:=decide_eq_true h
 by_cases h1:y.1<x.1
 ·rw[if_pos h1] at hlo
  subst hlo
  by_cases h2:x.2<y.2
  rotate_left
  ·repeat first|with_reducible refine ao ?_|simp only[hd,h1,h2,gt_iff_lt,decide_true,decide_false,go_sem,simprocAttr]
   exact aa (by simp[h2]) rfl
  repeat first|with_reducible refine ao ?_|simp only[hd,h1,h2,gt_iff_lt,decide_true,decide_false,go_sem,simprocAttr]
  refine GA.loop (I:=λm e H=>∃(k:Nat),m=3-k/\k<=2/\(1<=k->255<y.2)/\(2<=k->65535<y.2)/\e=aB [(2,.p 0 0),(3,.p 1 0),(4,.p 2 0),(23,.agg [.n .i64 255,.n .i64 65535,.n .i64 4294967295]),(24,.n .i64 k)]/\H=ah [ae 0 127 [.n .i64 0,.n .i64 0],ae 0 127 [.n .i64 y.1,.n .i64 y.2],ae 0 127 [.n .i64 0,.n .i64 x.2]]) (Wk.mk [2,1,0] [] ?_ ?_ ?_) ⟨0,rfl,by omega,λh=>by omega,λh=>by omega,rfl,rfl⟩ ?_
  ·exact ba
  ·exact .cr (.j2) (.cr (.j2) (.cr (.j2) .nil))
  ·simp
  rintro m e H ⟨k,rfl,hk,g1,g2,rfl,rfl⟩
  rcases(show k=0\/k=1\/k=2 by omega) with rfl|rfl|rfl
  ·by_cases q:y.2<=255
   ·repeat first|with_reducible refine ao ?_|simp only[q,ge_iff_le,decide_true,go_sem,simprocAttr]
    exact aa (by simp[h2,Ch,q]) rfl
   ·repeat first|with_reducible refine ao ?_|simp only[q,ge_iff_le,decide_false,go_sem,simprocAttr]
    refine⟨_,_,_,?_,Wk.mk [2,1,0] [] ?_ ?_ ?_,1,rfl,by omega,λ_=>by omega,λh=>by omega,rfl,rfl⟩
    ·omega
    ·exact ba
    ·exact .cr .ls (.cr .ls (.cr .ls .nil))
    ·simp
  ·have q0:¬y.2<=255:=by have:=g1 (by omega);omega
   by_cases q:y.2<=65535
   ·repeat first|with_reducible refine ao ?_|simp only[q,ge_iff_le,decide_true,go_sem,simprocAttr]
    exact aa (by simp[h2,Ch,q0,q]) rfl
   ·repeat first|with_reducible refine ao ?_|simp only[q,ge_iff_le,decide_false,go_sem,simprocAttr]
    refine⟨_,_,_,?_,Wk.mk [2,1,0] [] ?_ ?_ ?_,2,rfl,by omega,λ_=>by omega,λ_=>by omega,rfl,rfl⟩
    ·omega
    ·exact ba
    ·exact .cr .ls (.cr .ls (.cr .ls .nil))
    ·simp
  ·have q0:¬y.2<=255:=by have:=g1 (by omega);omega
   have q1:¬y.2<=65535:=by have:=g2 (by omega);omega
   repeat first|with_reducible refine ao ?_|simp only[hy3,ge_iff_le,decide_true,go_sem,simprocAttr]
   exact aa (by simp[h2,Ch,q0,q1]) rfl
 ·rw[if_neg h1] at hlo
  subst hlo
  by_cases h2:x.2<y.2
  rotate_left
  ·repeat first|with_reducible refine ao ?_|simp only[hd,h1,h2,gt_iff_lt,decide_true,decide_false,go_sem,simprocAttr]
   exact aa (by simp[h2]) rfl
  repeat first|with_reducible refine ao ?_|simp only[hd,h1,h2,gt_iff_lt,decide_true,decide_false,go_sem,simprocAttr]
  refine GA.loop (I:=λm e H=>∃(k:Nat),m=3-k/\k<=2/\(1<=k->255<y.2)/\(2<=k->65535<y.2)/\e=aB [(2,.p 0 0),(3,.p 1 0),(4,.p 2 0),(23,.agg [.n .i64 255,.n .i64 65535,.n .i64 4294967295]),(24,.n .i64 k)]/\H=ah [ae 0 127 [.n .i64 0,.n .i64 0],ae 0 127 [.n .i64 y.1,.n .i64 y.2],ae 0 127 [.n .i64 x.1,.n .i64 x.2]]) (Wk.mk [2,1,0] [] ?_ ?_ ?_) ⟨0,rfl,by omega,λh=>by omega,λh=>by omega,rfl,rfl⟩ ?_
  ·exact ba
  ·exact .cr (.j2) (.cr (.j2) (.cr (.j2) .nil))
  ·simp
  rintro m e H ⟨k,rfl,hk,g1,g2,rfl,rfl⟩
  rcases(show k=0\/k=1\/k=2 by omega) with rfl|rfl|rfl
  ·by_cases q:y.2<=255
   ·repeat first|with_reducible refine ao ?_|simp only[q,ge_iff_le,decide_true,go_sem,simprocAttr]
    exact aa (by simp[h2,Ch,q]) rfl
   ·repeat first|with_reducible refine ao ?_|simp only[q,ge_iff_le,decide_false,go_sem,simprocAttr]
    refine⟨_,_,_,?_,Wk.mk [2,1,0] [] ?_ ?_ ?_,1,rfl,by omega,λ_=>by omega,λh=>by omega,rfl,rfl⟩
    ·omega
    ·exact ba
    ·exact .cr .ls (.cr .ls (.cr .ls .nil))
    ·simp
  ·have q0:¬y.2<=255:=by have:=g1 (by omega);omega
   by_cases q:y.2<=65535
   ·repeat first|with_reducible refine ao ?_|simp only[q,ge_iff_le,decide_true,go_sem,simprocAttr]
    exact aa (by simp[h2,Ch,q0,q]) rfl
   ·repeat first|with_reducible refine ao ?_|simp only[q,ge_iff_le,decide_false,go_sem,simprocAttr]
    refine⟨_,_,_,?_,Wk.mk [2,1,0] [] ?_ ?_ ?_,2,rfl,by omega,λ_=>by omega,λ_=>by omega,rfl,rfl⟩
    ·omega
    ·exact ba
    ·exact .cr .ls (.cr .ls (.cr .ls .nil))
    ·simp
  ·have q0:¬y.2<=255:=by have:=g1 (by omega);omega
   have q1:¬y.2<=65535:=by have:=g2 (by omega);omega
   repeat first|with_reducible refine ao ?_|simp only[hy3,ge_iff_le,decide_true,go_sem,simprocAttr]
   exact aa (by simp[h2,Ch,q0,q1]) rfl
theorem Iz(a b:Int):dw (binOp .and 0 (.int .u32 a) (.int .u32 b))=some (.n .u32 (WA a b)):=by
 unfold binOp Op.intBits
 simp only[ne_eq,not_true_eq_false,if_false]
 rfl
theorem Im(a b:Int):dw (binOp .or 0 (.int .u32 a) (.int .u32 b))=some (.n .u32 (orU a b)):=by
 unfold binOp Op.intBits
 simp only[ne_eq,not_true_eq_false,if_false]
 rfl
theorem xG(a b:Int):dw (binOp .xor 0 (.int .u32 a) (.int .u32 b))=some (.n .u32 (uQ a b)):=by
 unfold binOp Op.intBits
 simp only[ne_eq,not_true_eq_false,if_false]
 rfl
theorem Il{k:IntKind}{a b:Int}(h:b≠0):dw (binOp .rem 0 (.int k a) (.int k b))=some (.n k (a.tmod b)):=by
 unfold binOp Op.intDiv
 simp only[ne_eq,not_true_eq_false,if_false,if_neg h]
 rfl
theorem tL{x:Int}(h:0<=x/\x<=4294967295):IntKind.wrap .u32 x=x:=A6 h
theorem uh(b:Int)(hb:0<=b):Int.tmod b 32=b%32:=Int.tmod_eq_emod_of_nonneg hb
def fj(f:FuncId)(op:Int):Prop:=∀a b:Int,0<=a/\a<=4294967295->0<=b/\b<=4294967295->((op=11\/op=12)->b≠0)->bN Tryz.prog f [.n .u32 a,.n .u32 b] [.v (.n .u32 (cD op a b))]
theorem Wx:fj 202 8:=λa b ha hb hz=>by
 refine ag aF H6 ⟨by simp,by decide⟩ ?_
 simp only[aH]
 repeat first|with_reducible refine ao ?_|simp only[go_sem,simprocAttr]
 exact aa rfl rfl
theorem Ww:fj 203 9:=λa b ha hb hz=>by
 refine ag aF HY ⟨by simp,by decide⟩ ?_
 simp only[aH]
 repeat first|with_reducible refine ao ?_|simp only[go_sem,simprocAttr]
 exact aa rfl rfl
theorem Ka:fj 204 10:=λa b ha hb hz=>by
 refine ag aF HV ⟨by simp,by decide⟩ ?_
 simp only[aH]
 repeat first|with_reducible refine ao ?_|simp only[go_sem,simprocAttr]
 exact aa rfl rfl
theorem J9:fj 205 11:=λa b ha hb hz=>by
 refine ag aF HQ ⟨by simp,by decide⟩ ?_
 simp only[aH]
 have hz:=hz (.inl rfl)
 have hd:=jx ha.1 hb.1
 have w:IntKind.u32.wrap (Int.tdiv a b)=a / b:=by rw[Int.tdiv_eq_ediv_of_nonneg ha.1];exact tL (by omega)
 repeat first|with_reducible refine ao ?_|simp only[kv hz,hz,if_false,ch,w,go_sem,simprocAttr]
 exact aa rfl rfl
theorem J8:fj 206 12:=λa b ha hb hz=>by
 refine ag aF HN ⟨by simp,by decide⟩ ?_
 simp only[aH]
 have hz:=hz (.inr rfl)
 have h1:=Int.emod_nonneg a hz
 have h2:=Int.emod_lt_of_pos a (show 0<b by omega)
 have w:Int.tmod a b=a%b:=Int.tmod_eq_emod_of_nonneg ha.1
 repeat first|with_reducible refine ao ?_|simp only[Il hz,hz,if_false,ch,w,go_sem,simprocAttr]
 exact aa rfl rfl
theorem J7:fj 207 13:=λa b ha hb hz=>by
 refine ag aF HK ⟨by simp,by decide⟩ ?_
 simp only[aH]
 repeat first|with_reducible refine ao ?_|simp only[Iz,go_sem,simprocAttr]
 exact aa rfl rfl
theorem J6:fj 208 14:=λa b ha hb hz=>by
 refine ag aF HG ⟨by simp,by decide⟩ ?_
 simp only[aH]
 repeat first|with_reducible refine ao ?_|simp only[Im,go_sem,simprocAttr]
 exact aa rfl rfl
theorem J5:fj 209 15:=λa b ha hb hz=>by
 refine ag aF HB ⟨by simp,by decide⟩ ?_
 simp only[aH]
 repeat first|with_reducible refine ao ?_|simp only[xG,go_sem,simprocAttr]
 exact aa rfl rfl
theorem J4:fj 210 16:=λa b ha hb hz=>by
 refine ag aF Hy ⟨by simp,by decide⟩ ?_
 simp only[aH]
 have h0:=Int.emod_nonneg b (show(32:Int)≠0 by decide)
 have h1:=Int.emod_lt_of_pos b (show(0:Int)<32 by decide)
 have w:Int.tmod b 32=b%32:=uh b hb.1
 have hb32:IntKind.u32.bits=32:=rfl
 repeat first|with_reducible refine ao ?_|simp only[ch,w,o7 h0,go_sem,simprocAttr]
 exact aa rfl rfl
theorem J3:fj 211 17:=λa b ha hb hz=>by
 refine ag aF Hv ⟨by simp,by decide⟩ ?_
 simp only[aH]
 have h0:=Int.emod_nonneg b (show(32:Int)≠0 by decide)
 have h1:=Int.emod_lt_of_pos b (show(0:Int)<32 by decide)
 have w:Int.tmod b 32=b%32:=uh b hb.1
 have hb32:IntKind.u32.bits=32:=rfl
 repeat first|with_reducible refine ao ?_|simp only[ch,w,bw h0,go_sem,simprocAttr]
 exact aa rfl rfl
theorem J2:fj 212 18:=λa b ha hb hz=>by
 refine ag aF Hs ⟨by simp,by decide⟩ ?_
 simp only[aH]
 repeat first|with_reducible refine ao ?_|simp only[go_sem,simprocAttr]
 exact aa rfl rfl
theorem J1:fj 213 19:=λa b ha hb hz=>by
 refine ag aF Hp ⟨by simp,by decide⟩ ?_
 simp only[aH]
 repeat first|with_reducible refine ao ?_|simp only[go_sem,simprocAttr]
 exact aa rfl rfl
theorem J0:fj 214 20:=λa b ha hb hz=>by
 refine ag aF Hm ⟨by simp,by decide⟩ ?_
 simp only[aH]
 have h16:(0:Int)<=16:=by decide
 have hb32:IntKind.u32.bits=32:=rfl
 have e16':(2:Int)^min (Int.toNat 16) IntKind.u32.bits=65536:=by decide
 repeat first|with_reducible refine ao ?_|simp only[xG,bw h16,go_sem,simprocAttr]
 have x:∀a b,bits .xor .u32 a b=uQ a b:=λ_ _=>rfl
 have e:(2:Int)^min 16 32=65536:=by decide
 have z:cD 20 a b=Db a b:=by simp[cD]
 rw[z]
 simp only[x,e]
 exact aa rfl rfl
/-! ### the length of a number-/
def JG(n L:Nat):Prop:=n<2^L/\(L=0\/2^(L-1)<=n)
instance (n L:Nat):Decidable (JG n L):=inferInstanceAs (Decidable (_/\_))
def lgB:Bool:=(List.range 256).all λj=>decide (JG j (l9 j).toNat)
theorem JH:lgB=true:=by kernel_rfl
theorem yR{j:Nat}(h:j<256):JG j (l9 j).toNat:=of_decide_eq_true (List.all_eq_true.1 JH j (List.mem_range.2 h))
theorem ul{n L:Nat}(k:Nat)(h:JG (n / 2^k) L)(hn:2^k<=n):JG n (L+k):=by
 obtain⟨h1,h2⟩:=h
 have hp:0<2^k:=Nat.two_pow_pos k
 have h3:1<=n / 2^k:=(Nat.le_div_iff_mul_le hp).2 (by omega)
 have h4:L≠0:=λe=>by subst e;simp at h1;omega
 refine⟨?_,.inr ?_⟩
 ·rw[Nat.pow_add]
  exact(Nat.div_lt_iff_lt_mul hp).1 h1
 ·have:=(Nat.le_div_iff_mul_le hp).1 (h2.resolve_left h4)
  rw[show L+k-1=(L-1)+k by omega,Nat.pow_add]
  exact this
theorem Wc{y:Nat}(h:y<65536)(n:Int):∃L:Nat,jY y n=n+L/\JG y L:=by
 unfold jY
 by_cases g:256<=(y:Int)
 ·rw[if_pos g]
  obtain⟨c,_,_,q1,q2⟩:=jJ (y / 256) (by omega)
  refine⟨(l9 (y / 256)).toNat+8,?_,ul 8 (yR (by omega)) (by omega)⟩
  rw[show((y:Int) / 256).toNat=y / 256 by omega]
  omega
 ·rw[if_neg g]
  obtain⟨c,_,_,q1,q2⟩:=jJ y (by omega)
  exact⟨(l9 y).toNat,by rw[Int.toNat_natCast];omega,yR (by omega)⟩
theorem Z0{y:Nat}(h:y<4294967296):∃L:Nat,ed y=L/\JG y L:=by
 unfold ed mM
 rw[if_neg (by omega)]
 by_cases g:65536<=(y:Int)
 ·rw[if_pos g]
  obtain⟨L,h1,h2⟩:=Wc (y:=y / 65536) (by omega) (0+16)
  exact⟨L+16,by rw[show(y:Int) / 65536=((y / 65536:Nat):Int) by omega,h1];omega,ul 16 h2 (by omega)⟩
 ·rw[if_neg g]
  obtain⟨L,h1,h2⟩:=Wc (y:=y) (by omega) 0
  exact⟨L,by rw[h1];omega,h2⟩
theorem ya{n:Int}(h:0<=n/\n<=4294967295):∃L:Nat,ed n=L/\L<=32/\(2:Int)^L-1=fK n:=by
 obtain⟨y,rfl⟩:∃y:Nat,n=y:=⟨n.toNat,by omega⟩
 obtain⟨L,h1,h2,h3⟩:=Z0 (y:=y) (by omega)
 have hL:L<=32:=by
  rcases h3 with h3|h3
  ·omega
  ·apply Nat.le_of_not_lt
   intro hlt
   have:2^32<=2^(L-1):=Nat.pow_le_pow_right (by decide) (by omega)
   omega
 refine⟨L,h1,hL,?_⟩
 unfold fK
 by_cases hy:(y:Int)=0
 ·rw[if_pos hy]
  obtain rfl:y=0:=by omega
  have:L=0:=by
   rcases h3 with h3|h3
   ·exact h3
   ·have:=Nat.two_pow_pos (L-1);omega
  subst this;rfl
 ·rw[if_neg hy,Int.toNat_natCast]
  have h4:L≠0:=λe=>by subst e;simp at h2;omega
  have:y.log2=L-1:=(Nat.log2_eq_iff (by omega)).2 ⟨h3.resolve_left h4,by rw[show L-1+1=L by omega];exact h2⟩
  rw[this,show L-1+1=L by omega]
theorem qJ(n:Int)(h:0<=n/\n<=4294967295):bN Tryz.prog 228 [.n .i64 n] [.v (.n .i64 (fK n))]:=by
 refine ag aF H9 ⟨by simp,by decide⟩ ?_
 simp only[aH]
 obtain⟨L,h1,h2,h3⟩:=ya h
 obtain⟨_,ho⟩:=uc h
 have hw:IntKind.u64.wrap n=n:=by rw[IntKind.wrap_u64];omega
 repeat first|with_reducible refine ao ?_|simp only[hw,go_sem,simprocAttr]
 refine bO ([.n .u64 n]) (um n h.1 (by omega)) ?_
 rw[h1]
 have h0:(0:Int)<=(L:Int):=by omega
 have e:min L 64=L:=by omega
 have w1:IntKind.i64.wrap (1*2^L)=fK n+1:=by rw[Int.one_mul,<-h3,am (by omega)];omega
 have w2:IntKind.i64.wrap (fK n+1-1)=fK n:=(am (by omega)).trans (by omega)
 have w3:IntKind.i64.wrap (2^L)=fK n+1:=by rw[<-h3,am (by omega)];omega
 repeat first|with_reducible refine ao ?_|simp only[o7 h0,Int.toNat_natCast,e,w1,w2,w3,go_sem,simprocAttr]
 exact aa (by first|rfl|(rw[w1,w2])|(rw[w3,w2])|skip) rfl
theorem kY(l h:Int)(hb: -8589934592<=l/\h<=36893488147419103232/\l<=8589934592/\h<=8589934592/\ -8589934592<=h):bN Tryz.prog 227 [.n .i64 l,.n .i64 h] [.v (iv (cW l h))]:=by
 refine ag aF KE ⟨by simp,by decide⟩ ?_
 simp only[aH,iv]
 have w1:IntKind.i64.wrap (l-4294967295)=l-4294967295:=am (by omega)
 have w2:IntKind.i64.wrap (l-4294967295-1)=l-4294967296:=(am (by omega)).trans (by omega)
 have w3:IntKind.i64.wrap (h-4294967295)=h-4294967295:=am (by omega)
 have w4:IntKind.i64.wrap (h-4294967295-1)=h-4294967296:=(am (by omega)).trans (by omega)
 have w5:IntKind.i64.wrap (l+4294967295)=l+4294967295:=am (by omega)
 have w6:IntKind.i64.wrap (l+4294967295+1)=l+4294967296:=(am (by omega)).trans (by omega)
 have w7:IntKind.i64.wrap (h+4294967295)=h+4294967295:=am (by omega)
 have w8:IntKind.i64.wrap (h+4294967295+1)=h+4294967296:=(am (by omega)).trans (by omega)
 have full:(iv (0,4294967295))= .agg [.n .i64 0,.n .i64 4294967295]:=rfl
 by_cases h0:0<=l
 ·by_cases h1:h<=4294967295
  ·repeat first|with_reducible refine ao ?_|simp only[h0,h1,ge_iff_le,decide_true,go_sem,simprocAttr]
   exact aa (by simp[cW,h0,h1]) rfl
  ·by_cases h2:4294967295<l
   ·repeat first|with_reducible refine ao ?_|simp only[h0,h1,h2,ge_iff_le,gt_iff_lt,decide_true,decide_false,w1,w2,w3,w4,go_sem,simprocAttr]
    exact aa (by simp[cW,h0,h1,h2]) rfl
   ·have h3:¬h<0:=by omega
    repeat first|with_reducible refine ao ?_|simp only[h0,h1,h2,h3,ge_iff_le,gt_iff_lt,decide_true,decide_false,go_sem,simprocAttr]
    refine bO ([]) cq ?_
    rw[full]
    repeat first|with_reducible refine ao ?_|simp only[go_sem,simprocAttr]
    exact aa (by simp[cW,h0,h1,h2,h3]) rfl
 ·have h2:¬4294967295<l:=by omega
  by_cases h3:h<0
  ·repeat first|with_reducible refine ao ?_|simp only[h0,h2,h3,ge_iff_le,gt_iff_lt,decide_true,decide_false,w5,w6,w7,w8,go_sem,simprocAttr]
   exact aa (by simp[cW,h0,h2,h3]) rfl
  ·repeat first|with_reducible refine ao ?_|simp only[h0,h2,h3,ge_iff_le,gt_iff_lt,decide_true,decide_false,go_sem,simprocAttr]
   refine bO ([]) cq ?_
   rw[full]
   repeat first|with_reducible refine ao ?_|simp only[go_sem,simprocAttr]
   exact aa (by simp[cW,h0,h2,h3]) rfl
/-! ### each rule-/
def gL(x y:Iv):AV:= .agg [.n .i64 x.1,.n .i64 x.2,.n .i64 y.1,.n .i64 y.2]
def fi(f:FuncId)(op:Int):Prop:=∀x y:Iv,cO x->cO y->((op=11\/op=12)->y.1≠0)->bN Tryz.prog f [gL x y] [.v (iv (b7 op x y))]
theorem VE:fi 187 8:=λx y hx hy hz=>by
 refine ag aF Lx ⟨by simp,by decide⟩ ?_
 obtain⟨a,b⟩:=x
 obtain⟨c,d⟩:=y
 obtain⟨hx1,hx2,hx3⟩:=hx
 obtain⟨hy1,hy2,hy3⟩:=hy
 dsimp only at*
 simp only[aH,gL,iv]
 have w1:IntKind.i64.wrap (a+c)=a+c:=am (by omega)
 have w2:IntKind.i64.wrap (b+d)=b+d:=am (by omega)
 repeat first|with_reducible refine ao ?_|simp only[w1,w2,go_sem,simprocAttr]
 refine bO ([.n .i64 (a+c),.n .i64 (b+d)]) (kY (a+c) (b+d) (by omega)) ?_
 simp only[iv]
 repeat first|with_reducible refine ao ?_|simp only[go_sem,simprocAttr]
 exact aa rfl rfl
theorem VD:fi 188 9:=λx y hx hy hz=>by
 refine ag aF Lu ⟨by simp,by decide⟩ ?_
 obtain⟨a,b⟩:=x
 obtain⟨c,d⟩:=y
 obtain⟨hx1,hx2,hx3⟩:=hx
 obtain⟨hy1,hy2,hy3⟩:=hy
 dsimp only at*
 simp only[aH,gL,iv]
 have w1:IntKind.i64.wrap (a-d)=a-d:=am (by omega)
 have w2:IntKind.i64.wrap (b-c)=b-c:=am (by omega)
 repeat first|with_reducible refine ao ?_|simp only[w1,w2,go_sem,simprocAttr]
 refine bO ([.n .i64 (a-d),.n .i64 (b-c)]) (kY (a-d) (b-c) (by omega)) ?_
 simp only[iv]
 repeat first|with_reducible refine ao ?_|simp only[go_sem,simprocAttr]
 exact aa rfl rfl
theorem IQ:fi 189 10:=λx y hx hy hz=>by
 refine ag aF Lp ⟨by simp,by decide⟩ ?_
 obtain⟨a,b⟩:=x
 obtain⟨c,d⟩:=y
 obtain⟨hx1,hx2,hx3⟩:=hx
 obtain⟨hy1,hy2,hy3⟩:=hy
 dsimp only at*
 simp only[aH,gL,iv]
 by_cases h0:0<d
 ·have hz0:d≠0:=by omega
  have w:IntKind.i64.wrap (Int.tdiv 4294967295 d)=4294967295 / d:=by
   rw[Int.tdiv_eq_ediv_of_nonneg (by decide)]
   have:=jx (a:=4294967295) (b:=d) (by decide) (by omega)
   exact am (by omega)
  by_cases h1:4294967295 / d<b
  ·repeat first|with_reducible refine ao ?_|simp only[h0,kv hz0,hz0,if_false,ch,w,h1,gt_iff_lt,decide_true,go_sem,simprocAttr]
   refine bO ([]) cq ?_
   simp only[iv]
   repeat first|with_reducible refine ao ?_|simp only[go_sem,simprocAttr]
   exact aa (by simp[b7,h0,h1]) rfl
  ·have hbd:b*d<=4294967295:=(Int.le_ediv_iff_mul_le h0).1 (Int.not_lt.1 h1)
   have hac:a*c<=b*d:=Int.mul_le_mul hx2 hy2 hy1 (by omega)
   have hac0:0<=a*c:=Int.mul_nonneg hx1 hy1
   have w1:IntKind.i64.wrap (a*c)=a*c:=am (by omega)
   have w2:IntKind.i64.wrap (b*d)=b*d:=am (by omega)
   repeat first|with_reducible refine ao ?_|simp only[h0,kv hz0,hz0,if_false,ch,w,h1,w1,w2,gt_iff_lt,decide_true,decide_false,go_sem,simprocAttr]
   exact aa (by simp[b7,h0,h1]) rfl
 ·have hd:d=0:=by omega
  have hc:c=0:=by omega
  subst hd;subst hc
  have w0:IntKind.i64.wrap 0=0:=rfl
  repeat first|with_reducible refine ao ?_|simp only[h0,gt_iff_lt,decide_true,decide_false,Int.mul_zero,w0,go_sem,simprocAttr]
  exact aa (by simp[b7]) rfl
theorem IP:fi 190 11:=λx y hx hy hz=>by
 refine ag aF Lk ⟨by simp,by decide⟩ ?_
 obtain⟨a,b⟩:=x
 obtain⟨c,d⟩:=y
 obtain⟨hx1,hx2,hx3⟩:=hx
 obtain⟨hy1,hy2,hy3⟩:=hy
 dsimp only at*
 simp only[aH,gL,iv]
 have hc0:=hz (.inl rfl)
 have hd0:d≠0:=by omega
 have w1:IntKind.i64.wrap (Int.tdiv a d)=a / d:=by
  rw[Int.tdiv_eq_ediv_of_nonneg hx1]
  have:=jx hx1 (show 0<=d by omega)
  exact am (by omega)
 have w2:IntKind.i64.wrap (Int.tdiv b c)=b / c:=by
  rw[Int.tdiv_eq_ediv_of_nonneg (by omega)]
  have:=jx (show 0<=b by omega) hy1
  exact am (by omega)
 repeat first|with_reducible refine ao ?_|simp only[hc0,hd0,if_false,ch,w1,w2,go_sem,simprocAttr]
 exact aa (by simp[b7]) rfl
theorem IM:fi 191 12:=λx y hx hy hz=>by
 refine ag aF Li ⟨by simp,by decide⟩ ?_
 obtain⟨a,b⟩:=x
 obtain⟨c,d⟩:=y
 obtain⟨hx1,hx2,hx3⟩:=hx
 obtain⟨hy1,hy2,hy3⟩:=hy
 dsimp only at*
 simp only[aH,gL,iv]
 have w:IntKind.i64.wrap (d-1)=d-1:=am (by omega)
 by_cases h:b<c
 ·repeat first|with_reducible refine ao ?_|simp only[h,decide_true,go_sem,simprocAttr]
  exact aa (by simp[b7,h]) rfl
 ·repeat first|with_reducible refine ao ?_|simp only[h,decide_false,w,go_sem,simprocAttr]
  exact aa (by simp[b7,h,jb]) rfl
theorem IL:fi 192 13:=λx y hx hy hz=>by
 refine ag aF Lc ⟨by simp,by decide⟩ ?_
 obtain⟨a,b⟩:=x
 obtain⟨c,d⟩:=y
 obtain⟨hx1,hx2,hx3⟩:=hx
 obtain⟨hy1,hy2,hy3⟩:=hy
 dsimp only at*
 simp only[aH,gL,iv]
 repeat first|with_reducible refine ao ?_|simp only[go_sem,simprocAttr]
 exact aa (by simp[b7,jb]) rfl
theorem IK:fi 193 14:=λx y hx hy hz=>by
 refine ag aF K8 ⟨by simp,by decide⟩ ?_
 obtain⟨a,b⟩:=x
 obtain⟨c,d⟩:=y
 obtain⟨hx1,hx2,hx3⟩:=hx
 obtain⟨hy1,hy2,hy3⟩:=hy
 dsimp only at*
 simp only[aH,gL,iv]
 have hm:0<=aU b d/\aU b d<=4294967295:=by unfold aU;split<;>omega
 have e:(if b<d then d else b)=aU b d:=rfl
 have e2:(if a<c then c else a)=aU a c:=rfl
 have fin:(AV.agg [.n .i64 (aU a c),.n .i64 (fK (aU b d))])= .agg [.n .i64 (b7 14 (a,b) (c,d)).1,.n .i64 (b7 14 (a,b) (c,d)).2]:=rfl
 (try simp only[go_sem,simprocAttr])
 iterate 3 (with_reducible refine GA.go aF rfl ?_;try simp only[go_sem,simprocAttr])
 refine GA.frkm aF 1 (by simp only[bI,go_sem,simprocAttr]) ?_
 simp only[e,e2,go_sem,simprocAttr]
 repeat' with_reducible refine a7 ?_ ?_
 all_goals
  refine bO ([.n .i64 (aU b d)]) (qJ _ hm) ?_
  simp only[e,e2,go_sem,simprocAttr]
  repeat' with_reducible refine a7 ?_ ?_
 all_goals
  repeat first|with_reducible refine ao ?_|simp only[e,e2,go_sem,simprocAttr]
  first
   |decide
   |exact aa fin rfl
theorem IJ:fi 194 15:=λx y hx hy hz=>by
 refine ag aF K5 ⟨by simp,by decide⟩ ?_
 obtain⟨a,b⟩:=x
 obtain⟨c,d⟩:=y
 obtain⟨hx1,hx2,hx3⟩:=hx
 obtain⟨hy1,hy2,hy3⟩:=hy
 dsimp only at*
 simp only[aH,gL,iv]
 have hm:0<=aU b d/\aU b d<=4294967295:=by unfold aU;split<;>omega
 have e:(if b<d then d else b)=aU b d:=rfl
 repeat first|with_reducible refine ao ?_|simp only[e,go_sem,simprocAttr]
 refine bO ([.n .i64 (aU b d)]) (qJ _ hm) ?_
 repeat first|with_reducible refine ao ?_|simp only[go_sem,simprocAttr]
 exact aa (by simp[b7]) rfl
theorem II:fi 195 16:=λx y hx hy hz=>by
 refine ag aF K0 ⟨by simp,by decide⟩ ?_
 obtain⟨a,b⟩:=x
 obtain⟨c,d⟩:=y
 obtain⟨hx1,hx2,hx3⟩:=hx
 obtain⟨hy1,hy2,hy3⟩:=hy
 dsimp only at*
 simp only[aH,gL,iv]
 have h0:=Int.emod_nonneg c (show(32:Int)≠0 by decide)
 have h1:=Int.emod_lt_of_pos c (show(0:Int)<32 by decide)
 have w:Int.tmod c 32=c%32:=uh c hy1
 obtain⟨s,hs⟩:∃s:Nat,c%32=s:=⟨(c%32).toNat,by omega⟩
 have hs32:s<32:=by omega
 rw[hs] at w
 have hsn:(0:Int)<=(s:Int):=by omega
 have e:min s 64=s:=by omega
 have pw:∀n:Nat,n<32->(1:Int)<=2^n/\(2:Int)^n<=2147483648:=λn hn=>by
  have h1:1<=2^n:=Nat.one_le_two_pow
  have h2:2^n<=2^31:=Nat.pow_le_pow_right (by decide) (by omega)
  have e:(2:Int)^n=((2^n:Nat):Int):=by rw[Int.natCast_pow];rfl
  omega
 obtain⟨p1,p2⟩:=pw s hs32
 obtain⟨p,hp⟩:∃p:Int,p=2^s:=⟨_,rfl⟩
 have hp':(2:Int)^(min s 64)=p:=by rw[e,hp]
 have er:b7 16 (a,b) (c,d)=if c≠d\/4294967295 / p<b then(0,4294967295) else(a*p,b*p):=by
  simp[b7,hs,hp]
 rw[<-hp] at p1 p2
 have w4:Int.fdiv 4294967295 p=4294967295 / p:=Int.fdiv_eq_ediv_of_nonneg _ (by omega)
 by_cases g:c=d
 rotate_left
 ·repeat first|with_reducible refine ao ?_|simp only[w,g,decide_true,decide_false,go_sem,simprocAttr]
  refine bO ([]) cq ?_
  simp only[iv]
  repeat first|with_reducible refine ao ?_|simp only[go_sem,simprocAttr]
  exact aa (by rw[er,if_pos (.inl g)]) rfl
 subst g
 by_cases g1:4294967295 / p<b
 ·repeat first|with_reducible refine ao ?_|simp only[w,bw hsn,Int.toNat_natCast,e,<-hp,w4,g1,gt_iff_lt,decide_true,decide_false,go_sem,simprocAttr]
  refine bO ([]) cq ?_
  simp only[iv]
  repeat first|with_reducible refine ao ?_|simp only[go_sem,simprocAttr]
  exact aa (by rw[er,if_pos (.inr g1)]) rfl
 have hbp:b*p<=4294967295:=(Int.le_ediv_iff_mul_le (by omega)).1 (Int.not_lt.1 g1)
 have hap:a*p<=b*p:=Int.mul_le_mul_of_nonneg_right hx2 (by omega)
 have hap0:0<=a*p:=Int.mul_nonneg hx1 (by omega)
 have w1:IntKind.i64.wrap (a*p)=a*p:=am (by omega)
 have w2:IntKind.i64.wrap (b*p)=b*p:=am (by omega)
 repeat first|with_reducible refine ao ?_|simp only[w,bw hsn,o7 hsn,Int.toNat_natCast,e,<-hp,w4,w1,w2,g1,gt_iff_lt,decide_true,decide_false,go_sem,simprocAttr]
 exact aa (by rw[er,if_neg (by simp;omega)]) rfl
theorem IH:fi 196 17:=λx y hx hy hz=>by
 refine ag aF KT ⟨by simp,by decide⟩ ?_
 obtain⟨a,b⟩:=x
 obtain⟨c,d⟩:=y
 obtain⟨hx1,hx2,hx3⟩:=hx
 obtain⟨hy1,hy2,hy3⟩:=hy
 dsimp only at*
 simp only[aH,gL,iv]
 have pw:∀n:Nat,n<32->(1:Int)<=2^n/\(2:Int)^n<=2147483648:=λn hn=>by
  have h1:1<=2^n:=Nat.one_le_two_pow
  have h2:2^n<=2^31:=Nat.pow_le_pow_right (by decide) (by omega)
  have e:(2:Int)^n=((2^n:Nat):Int):=by rw[Int.natCast_pow];rfl
  omega
 have fd:∀(x:Int) (n:Nat),Int.fdiv x (2^n)=x / 2^n:=λx n=>Int.fdiv_eq_ediv_of_nonneg _ (Int.le_of_lt (jI _))
 by_cases h1:d<=31
 ·have hcn:0<=c:=hy1
  have hdn:0<=d:=by omega
  have e1:min c.toNat 64=c.toNat:=by omega
  have e2:min d.toNat 64=d.toNat:=by omega
  repeat first|with_reducible refine ao ?_|simp only[h1,decide_true,bw hcn,bw hdn,e1,e2,fd,go_sem,simprocAttr]
  exact aa (by simp[b7,h1]) rfl
 by_cases h2:c=d
 ·subst h2
  have g0:=Int.emod_nonneg c (show(32:Int)≠0 by decide)
  have g1:=Int.emod_lt_of_pos c (show(0:Int)<32 by decide)
  have w:Int.tmod c 32=c%32:=uh c hy1
  have e1:min (c%32).toNat 64=(c%32).toNat:=by omega
  repeat first|with_reducible refine ao ?_|simp only[h1,decide_true,decide_false,w,bw g0,e1,fd,go_sem,simprocAttr]
  exact aa (by simp[b7,h1]) rfl
 ·repeat first|with_reducible refine ao ?_|simp only[h1,h2,decide_false,go_sem,simprocAttr]
  exact aa (by simp[b7,h1,h2]) rfl
theorem IG:fi 197 18:=λx y hx hy hz=>by
 refine ag aF KO ⟨by simp,by decide⟩ ?_
 obtain⟨a,b⟩:=x
 obtain⟨c,d⟩:=y
 obtain⟨hx1,hx2,hx3⟩:=hx
 obtain⟨hy1,hy2,hy3⟩:=hy
 dsimp only at*
 simp only[aH,gL,iv]
 repeat first|with_reducible refine ao ?_|simp only[go_sem,simprocAttr]
 exact aa (by simp[b7,jb]) rfl
theorem IE:fi 198 19:=λx y hx hy hz=>by
 refine ag aF KL ⟨by simp,by decide⟩ ?_
 obtain⟨a,b⟩:=x
 obtain⟨c,d⟩:=y
 obtain⟨hx1,hx2,hx3⟩:=hx
 obtain⟨hy1,hy2,hy3⟩:=hy
 dsimp only at*
 simp only[aH,gL,iv]
 repeat first|with_reducible refine ao ?_|simp only[go_sem,simprocAttr]
 exact aa (by simp[b7,aU]) rfl
theorem IC:fi 199 20:=λx y hx hy hz=>by
 refine ag aF KI ⟨by simp,by decide⟩ ?_
 obtain⟨a,b⟩:=x
 obtain⟨c,d⟩:=y
 obtain⟨hx1,hx2,hx3⟩:=hx
 obtain⟨hy1,hy2,hy3⟩:=hy
 dsimp only at*
 simp only[aH,gL,iv]
 repeat first|with_reducible refine ao ?_|simp only[go_sem,simprocAttr]
 refine bO ([]) cq ?_
 simp only[iv]
 repeat first|with_reducible refine ao ?_|simp only[go_sem,simprocAttr]
 exact aa (by simp[b7]) rfl
theorem cK{a b x y:AV}{H:AH}(h:a=x)(hp:x.pu 3=true)(h':b=y)(hp':y.pu 3=true):∃l1,AV.tup [a,b]=bn l1/\kr [.v x,.v y] l1 H:=⟨[a,b],rfl,⟨h,hp⟩,⟨h',hp'⟩,trivial⟩
theorem t9(x:fW)(k:Int)(v:AV):(x.put k v).own=x.own:=id rfl
theorem qV{x:fW}{k:Int}{g:FuncId}(h:x.get k=some (.f g [] [])):x.look true .f0 k= .tup [.f g [] [],.b true]:=by
 unfold fW.look
 rw[h]
 rfl
def Kj(C:FuncId->Int->Prop)(_:Nat->Option OB)(rs:List RT)(N:Nat->Option OB):Prop:=∃r x,rs=[.v (.cv (.map (some r)))]/\N r=some (.mp x)/\∀op,8<=op->op<=20->∃g,x.get op=some (.f g [] [])/\C g op
theorem zM{C:FuncId->Int->Prop}{r:Nat}{x:fW}{H:AH}{M:Nat->Option OB}(hob:H.ob r=some (.mp x))(ho:x.own=true)(hP:∀op,8<=op->op<=20->∃g,x.get op=some (.f g [] [])/\C g op):∃(rs:List RT) (N:Nat->Option OB) (l:List AV),Kj C M rs N/\bn [.cv (.map (some r))]=bn l/\kr rs l H/\∀r x,N r=some x->H.ob r=some x/\x6 x=true:=
 ⟨_,λr'=>if r'=r then some (.mp x) else none,_,⟨r,x,rfl,if_pos rfl,hP⟩,rfl,⟨⟨rfl,rfl⟩,trivial⟩,λr' y h=>by
  replace h:(if r'=r then some (OB.mp x) else none)=some y:=h
  by_cases e:r'=r
  ·subst e;rw[if_pos rfl] at h;cases h;exact⟨hob,ho⟩
  ·rw[if_neg e] at h;cases h⟩
theorem uY:wX Tryz.prog 174 [] (λ_=>True) (Kj fi):=by
 refine lR aF OH ⟨by simp,by decide⟩ λM _=>?_
 simp only[aH]
 repeat first|with_reducible refine ao ?_|simp only[go_sem,simprocAttr]
 refine pk λr hr=>?_
 repeat first|with_reducible refine ao ?_|simp only[t9,go_sem,simprocAttr]
 refine zM (x:=?x) ?h ?o λop h1 h2=>?_
 case h=>simp only[go_sem,simprocAttr]<;>rfl
 case o=>rfl
 rcases(show op=8\/op=9\/op=10\/op=11\/op=12\/op=13\/op=14\/op=15\/op=16\/op=17\/op=18\/op=19\/op=20 by omega) with rfl|rfl|rfl|rfl|rfl|rfl|rfl|rfl|rfl|rfl|rfl|rfl|rfl
 ·exact⟨_,rfl,VE⟩
 ·exact⟨_,rfl,VD⟩
 ·exact⟨_,rfl,IQ⟩
 ·exact⟨_,rfl,IP⟩
 ·exact⟨_,rfl,IM⟩
 ·exact⟨_,rfl,IL⟩
 ·exact⟨_,rfl,IK⟩
 ·exact⟨_,rfl,IJ⟩
 ·exact⟨_,rfl,II⟩
 ·exact⟨_,rfl,IH⟩
 ·exact⟨_,rfl,IG⟩
 ·exact⟨_,rfl,IE⟩
 ·exact⟨_,rfl,IC⟩
theorem th:wX Tryz.prog 179 [] (λ_=>True) (Kj fj):=by
 refine lR aF Ot ⟨by simp,by decide⟩ λM _=>?_
 simp only[aH]
 repeat first|with_reducible refine ao ?_|simp only[go_sem,simprocAttr]
 refine pk λr hr=>?_
 repeat first|with_reducible refine ao ?_|simp only[t9,go_sem,simprocAttr]
 refine zM (x:=?x) ?h ?o λop h1 h2=>?_
 case h=>simp only[go_sem,simprocAttr]<;>rfl
 case o=>rfl
 rcases(show op=8\/op=9\/op=10\/op=11\/op=12\/op=13\/op=14\/op=15\/op=16\/op=17\/op=18\/op=19\/op=20 by omega) with rfl|rfl|rfl|rfl|rfl|rfl|rfl|rfl|rfl|rfl|rfl|rfl|rfl
 ·exact⟨_,rfl,Wx⟩
 ·exact⟨_,rfl,Ww⟩
 ·exact⟨_,rfl,Ka⟩
 ·exact⟨_,rfl,J9⟩
 ·exact⟨_,rfl,J8⟩
 ·exact⟨_,rfl,J7⟩
 ·exact⟨_,rfl,J6⟩
 ·exact⟨_,rfl,J5⟩
 ·exact⟨_,rfl,J4⟩
 ·exact⟨_,rfl,J3⟩
 ·exact⟨_,rfl,J2⟩
 ·exact⟨_,rfl,J1⟩
 ·exact⟨_,rfl,J0⟩
theorem mR(op a b:Int)(h1:8<=op)(h2:op<=20)(ha:0<=a/\a<=4294967295)(hb:0<=b/\b<=4294967295)(hz:(op=11\/op=12)->b≠0):bN Tryz.prog 152 [.n .i64 op,.n .u32 a,.n .u32 b] [.v (.n .u32 (cD op a b)),.v (.n .i64 0)]:=by
 refine ag aF OC ⟨by simp,by decide⟩ ?_
 simp only[aH]
 repeat first|with_reducible refine ao ?_|simp only[go_sem,simprocAttr]
 refine cw [] (fargs:=[]) (cm.same rfl) th True.intro (by simp only[go_sem,simprocAttr]) ?_
 rintro rs N ⟨r,x,rfl,hN,hF⟩ hfree
 obtain⟨g,hg,hC⟩:=hF op h1 h2
 have hN1:An (ah []).ob N r=some (.mp x):=(kl rfl).trans hN
 have hl:=qV hg
 by_cases hb0:b=0
 ·have h11:¬op=11:=λe=>hz (.inl e) hb0
  have h12:¬op=12:=λe=>hz (.inr e) hb0
  subst hb0
  repeat first|with_reducible refine ao ?_|simp only[hN,hN1,hl,h11,h12,decide_true,decide_false,Bool.not_true,go_sem,simprocAttr]
  refine bO ([.n .u32 a,.n .u32 0]) (hC a 0 ha hb hz) ?_
  repeat first|with_reducible refine ao ?_|simp only[go_sem,simprocAttr]
  exact cK rfl rfl rfl rfl
 ·repeat first|with_reducible refine ao ?_|simp only[hN,hN1,hl,hb0,decide_true,decide_false,Bool.not_true,go_sem,simprocAttr]
  refine bO ([.n .u32 a,.n .u32 b]) (hC a b ha hb hz) ?_
  repeat first|with_reducible refine ao ?_|simp only[go_sem,simprocAttr]
  exact cK rfl rfl rfl rfl
theorem lt2a{i:Nat}(h:i<2):i=0\/i=1:=by omega
theorem lt4a{i:Nat}(h:i<4):i=0\/i=1\/i=2\/i=3:=by omega
theorem re(op:Int)(h1:8<=op)(h2:op<=20)(x y:Iv)(hx:cO x)(hy:cO y):bN Tryz.prog 127 [.n .i64 op,iv x,iv y] [.v (iv (bm op x y).1),.v (.n .i64 (bm op x y).2)]:=by
 refine ag aF OT ⟨by simp,by decide⟩ ?_
 have hkx:=i7.2 hx
 have hky:=i7.2 hy
 have wx:IntKind.u32.wrap x.1=x.1:=tL (by omega)
 have wy:IntKind.u32.wrap y.1=y.1:=tL (by omega)
 simp only[aH,iv]
 repeat first|with_reducible refine ao ?_|simp only[go_sem,simprocAttr]
 refine GA.loop (I:=λm e H=>∃k:Nat,m=2-k/\k<=2/\e=aB [(0,.n .i64 op),(4,.p 0 0),(5,.p 1 0),(6,.p 2 0),(17,.sl 3 0 2 2),(18,.n .i64 2),(19,.n .i64 k)]/\H=ah [ae 2 127 [.n .i64 x.1,.n .i64 x.2,.n .i64 y.1,.n .i64 y.2],ae 0 127 [.n .i64 0,.n .i64 0],ae 0 127 [.n .i64 y.1,.n .i64 y.2],ae 0 127 [.n .i64 x.1,.n .i64 x.2]]) (Wk.mk [3,2,1,0] [] ?_ ?_ ?_) ⟨0,rfl,by omega,rfl,rfl⟩ ?_
 ·exact ba
 ·exact .cr (.j4) (.cr (.j2) (.cr (.j2) (.cr (.j2) .nil)))
 ·simp
 rintro m e H ⟨k,rfl,hk,rfl,rfl⟩
 rcases(show k=0\/k=1\/k=2 by omega) with rfl|rfl|rfl
 ·repeat first|with_reducible refine ao ?_|simp only[go_sem,simprocAttr]
  refine bO ([iv x]) (iZ x) ?_
  repeat first|with_reducible refine ao ?_|simp only[hkx,ne_eq,not_true_eq_false,decide_true,decide_false,Bool.not_true,go_sem,simprocAttr]
  refine⟨_,_,_,?_,Wk.mk [3,2,1,0] [] ?_ ?_ ?_,1,rfl,by omega,rfl,rfl⟩
  ·omega
  ·exact ba
  ·exact .cr .ls (.cr .ls (.cr .ls (.cr .ls .nil)))
  ·simp
 ·repeat first|with_reducible refine ao ?_|simp only[go_sem,simprocAttr]
  refine bO ([iv y]) (iZ y) ?_
  repeat first|with_reducible refine ao ?_|simp only[hky,ne_eq,not_true_eq_false,decide_true,decide_false,Bool.not_true,go_sem,simprocAttr]
  refine⟨_,_,_,?_,Wk.mk [3,2,1,0] [] ?_ ?_ ?_,2,rfl,by omega,rfl,rfl⟩
  ·omega
  ·exact ba
  ·exact .cr .ls (.cr .ls (.cr .ls (.cr .ls .nil)))
  ·simp
 repeat first|with_reducible refine ao ?_|simp only[go_sem,simprocAttr]
 refine cw [] (fargs:=[]) (cm.same rfl) uY True.intro (by simp only[go_sem,simprocAttr]) ?_
 rintro rs N ⟨r,mx,rfl,hN,hF⟩ hfree
 obtain⟨g,hg,hC⟩:=hF op h1 h2
 have hl:=qV hg
 have hN1:∀bl,An (ah bl).ob N r=some (.mp mx):=λbl=>(kl (by rw[lP])).trans hN
 by_cases hz:y.1=0/\(op=11\/op=12)
 ·have hA:bm op x y=((0,0),17):=by unfold bm;rw[if_pos hz]
  have z0:=eq_true hz.1
  rcases hz.2 with e|e
  ·subst e
   repeat first|with_reducible refine ao ?_|simp only[hN1,hl,z0,decide_true,decide_false,Bool.not_true,go_sem,simprocAttr]
   rw[hA]
   exact cK rfl rfl rfl rfl
  ·subst e
   repeat first|with_reducible refine ao ?_|simp only[hN1,hl,z0,decide_true,decide_false,Bool.not_true,go_sem,simprocAttr]
   rw[hA]
   exact cK rfl rfl rfl rfl
 by_cases z0:y.1=0
 ·have z1:=eq_true z0
  have n11:¬op=11:=λe=>hz ⟨z0,.inl e⟩
  have n12:¬op=12:=λe=>hz ⟨z0,.inr e⟩
  by_cases c1:x.1=x.2
  ·have c1':=eq_true c1
   by_cases c2:y.1=y.2
   ·have c2':=eq_true c2
    have hA:bm op x y=((cD op x.1 y.1,cD op x.1 y.1),0):=by unfold bm;rw[if_neg hz,if_pos ⟨c1,c2⟩]
    repeat first|with_reducible refine ao ?_|simp only[hN1,hl,z1,n11,n12,c1',c2',wx,wy,decide_true,decide_false,Bool.not_true,go_sem,simprocAttr]
    refine bO ([.n .i64 op,.n .u32 x.1,.n .u32 y.1]) (mR op x.1 y.1 h1 h2 ⟨hx.1,by omega⟩ ⟨hy.1,by omega⟩ (λh e=>hz ⟨e,h⟩)) ?_
    repeat first|with_reducible refine ao ?_|simp only[go_sem,simprocAttr]
    refine bO ([.n .u32 (cD op x.1 y.1)]) (ff _ (kO ⟨h1,h2⟩ ⟨hx.1,by omega⟩ ⟨hy.1,by omega⟩ (λe=>⟨λh=>hz ⟨e,.inl h⟩,λh=>hz ⟨e,.inr h⟩⟩))) ?_
    simp only[iv]
    repeat first|with_reducible refine ao ?_|simp only[go_sem,simprocAttr]
    rw[hA]
    exact cK rfl rfl rfl rfl
   ·have hA:bm op x y=(b7 op x y,0):=by unfold bm;rw[if_neg hz,if_neg (λh=>c2 h.2)]
    repeat first|with_reducible refine ao ?_|simp only[hN1,hl,z1,n11,n12,c1',c2,decide_true,decide_false,Bool.not_true,go_sem,simprocAttr]
    refine bO ([gL x y]) (hC x y hx hy (λh e=>hz ⟨e,h⟩)) ?_
    simp only[iv]
    repeat first|with_reducible refine ao ?_|simp only[go_sem,simprocAttr]
    rw[hA]
    exact cK rfl rfl rfl rfl
  ·have hA:bm op x y=(b7 op x y,0):=by unfold bm;rw[if_neg hz,if_neg (λh=>c1 h.1)]
   repeat first|with_reducible refine ao ?_|simp only[hN1,hl,z1,n11,n12,c1,decide_true,decide_false,Bool.not_true,go_sem,simprocAttr]
   refine bO ([gL x y]) (hC x y hx hy (λh e=>hz ⟨e,h⟩)) ?_
   simp only[iv]
   repeat first|with_reducible refine ao ?_|simp only[go_sem,simprocAttr]
   rw[hA]
   exact cK rfl rfl rfl rfl
 ·by_cases c1:x.1=x.2
  ·have c1':=eq_true c1
   by_cases c2:y.1=y.2
   ·have c2':=eq_true c2
    have hA:bm op x y=((cD op x.1 y.1,cD op x.1 y.1),0):=by unfold bm;rw[if_neg hz,if_pos ⟨c1,c2⟩]
    repeat first|with_reducible refine ao ?_|simp only[hN1,hl,z0,c1',c2',wx,wy,decide_true,decide_false,Bool.not_true,go_sem,simprocAttr]
    refine bO ([.n .i64 op,.n .u32 x.1,.n .u32 y.1]) (mR op x.1 y.1 h1 h2 ⟨hx.1,by omega⟩ ⟨hy.1,by omega⟩ (λh e=>hz ⟨e,h⟩)) ?_
    repeat first|with_reducible refine ao ?_|simp only[go_sem,simprocAttr]
    refine bO ([.n .u32 (cD op x.1 y.1)]) (ff _ (kO ⟨h1,h2⟩ ⟨hx.1,by omega⟩ ⟨hy.1,by omega⟩ (λe=>⟨λh=>hz ⟨e,.inl h⟩,λh=>hz ⟨e,.inr h⟩⟩))) ?_
    simp only[iv]
    repeat first|with_reducible refine ao ?_|simp only[go_sem,simprocAttr]
    rw[hA]
    exact cK rfl rfl rfl rfl
   ·have hA:bm op x y=(b7 op x y,0):=by unfold bm;rw[if_neg hz,if_neg (λh=>c2 h.2)]
    repeat first|with_reducible refine ao ?_|simp only[hN1,hl,z0,c1',c2,decide_true,decide_false,Bool.not_true,go_sem,simprocAttr]
    refine bO ([gL x y]) (hC x y hx hy (λh e=>hz ⟨e,h⟩)) ?_
    simp only[iv]
    repeat first|with_reducible refine ao ?_|simp only[go_sem,simprocAttr]
    rw[hA]
    exact cK rfl rfl rfl rfl
  ·have hA:bm op x y=(b7 op x y,0):=by unfold bm;rw[if_neg hz,if_neg (λh=>c1 h.1)]
   repeat first|with_reducible refine ao ?_|simp only[hN1,hl,z0,c1,decide_true,decide_false,Bool.not_true,go_sem,simprocAttr]
   refine bO ([gL x y]) (hC x y hx hy (λh e=>hz ⟨e,h⟩)) ?_
   simp only[iv]
   repeat first|with_reducible refine ao ?_|simp only[go_sem,simprocAttr]
   rw[hA]
   exact cK rfl rfl rfl rfl
def vl(v:Vl):AV:= .agg [.b v.1,.n .i64 v.2.1,.n .i64 v.2.2]
def gP(b:Bd):AV:= .agg [.n .i64 b.1,.n .i64 b.2]
abbrev nQ(b:Bd):Prop:=(0<=b.1/\b.1<=281474976710657)/\0<=b.2/\b.2<=281474976710657
theorem CG{b c:Bd}(hb:nQ b)(hc:nQ c):nQ (bA b c):=⟨ay (by omega),ay (by omega)⟩
theorem Af{b:Bd}{n:Int}(hb:nQ b)(hn:0<=n):nQ (ft b n):=⟨bo (ay (by omega)).1 hn,bo hb.2.1 hn⟩
theorem fC(x:Iv):bN Tryz.prog 125 [iv x] [.v (vl (false,x))]:=by
 refine ag aF Pt ⟨by simp,by decide⟩ ?_
 simp only[aH,iv,vl]
 repeat first|with_reducible refine ao ?_|simp only[go_sem,simprocAttr]
 exact aa rfl rfl
theorem iJ(b c:Bd)(hb:nQ b)(hc:nQ c):bN Tryz.prog 90 [gP b,gP c] [.v (gP (bA b c))]:=by
 refine ag aF QB ⟨by simp,by decide⟩ ?_
 simp only[aH,gP]
 have w1:IntKind.i64.wrap (b.1+c.1)=b.1+c.1:=am (by omega)
 have w2:IntKind.i64.wrap (b.2+c.2)=b.2+c.2:=am (by omega)
 repeat first|with_reducible refine ao ?_|simp only[w1,w2,go_sem,simprocAttr]
 exact aa rfl rfl
theorem kW(a n:Int)(ha:0<=a/\a<=281474976710657)(hn:0<=n/\n<=65536):bN Tryz.prog 173 [.n .i64 a,.fp 1 (λ_=> .n .i64 n) 0] [.v (.n .i64 (bc a n))]:=by
 refine ag aF PP ⟨by simp,by decide⟩ ?_
 simp only[aH]
 have hd:=jx (a:=281474976710657) (b:=n) (by decide) hn.1
 have w1:IntKind.i64.wrap (Int.tdiv 281474976710657 n)=281474976710657 / n:=by rw[Int.tdiv_eq_ediv_of_nonneg (by decide)];exact am (by omega)
 by_cases h0:0<n
 ·have hz:n≠0:=by omega
  by_cases hc:281474976710657 / n<a
  ·repeat first|with_reducible refine ao ?_|simp only[h0,hz,if_false,ch,w1,hc,gt_iff_lt,decide_true,go_sem,simprocAttr]
   exact aa (by rw[show bc a n=281474976710657 from if_pos ⟨h0,hc⟩]) rfl
  ·have hle:a*n<=281474976710657:=(Int.le_ediv_iff_mul_le h0).1 (Int.not_lt.1 hc)
   have hp:0<=a*n:=Int.mul_nonneg ha.1 hn.1
   have w2:IntKind.i64.wrap (a*n)=a*n:=am (by omega)
   repeat first|with_reducible refine ao ?_|simp only[h0,hz,if_false,ch,w1,hc,w2,gt_iff_lt,decide_true,decide_false,go_sem,simprocAttr]
   exact aa (by rw[show bc a n=aX (a*n) from if_neg (λh=>hc h.2)];rfl) rfl
 ·have hz:n=0:=by omega
  subst hz
  have w0:IntKind.i64.wrap 0=0:=rfl
  repeat first|with_reducible refine ao ?_|simp only[h0,gt_iff_lt,decide_true,decide_false,Int.mul_zero,w0,go_sem,simprocAttr]
  exact aa (by rw[show bc a 0=aX (a*0) from if_neg (λh=>by cases h.1),Int.mul_zero];rfl) rfl
theorem sk(b:Bd)(n:Int)(hb:nQ b)(hn:0<=n/\n<=65536):bN Tryz.prog 122 [gP b,.n .i64 n] [.v (gP (ft b n))]:=by
 refine ag aF PS ⟨by simp,by decide⟩ ?_
 simp only[aH,gP]
 have w1:IntKind.i64.wrap (b.1+1)=b.1+1:=am (by omega)
 have hF:=ay (n:=b.1+1) (by omega)
 repeat first|with_reducible refine ao ?_|simp only[w1,go_sem,simprocAttr]
 refine ov [1] (fargs:=[.n .i64 (aX (b.1+1)),.fp 1 (λ_=> .n .i64 n) 0]) ⟨.rfl rfl,.p (o:=0) (j:=0) (x:=_) (by simp) (by simp only[go_sem,simprocAttr]<;>rfl) (by simp) (by simp) (λq hq=>by cases Nat.lt_one_iff.1 hq;simp only[go_sem,simprocAttr]) (λq hq=>rfl),trivial⟩ (kW _ n hF hn) (by simp only[go_sem,simprocAttr]) (λr hr=>by cases List.mem_singleton.1 hr;rfl) ?_
 repeat first|with_reducible refine ao ?_|simp only[go_sem,simprocAttr]
 refine ov [1] (fargs:=[.n .i64 b.2,.fp 1 (λ_=> .n .i64 n) 0]) ⟨.rfl rfl,.p (o:=0) (j:=0) (x:=_) (by simp) (by simp only[go_sem,simprocAttr]<;>rfl) (by simp) (by simp) (λq hq=>by cases Nat.lt_one_iff.1 hq;simp only[go_sem,simprocAttr]) (λq hq=>rfl),trivial⟩ (kW b.2 n hb.2 hn) (by simp only[go_sem,simprocAttr]) (λr hr=>by cases List.mem_singleton.1 hr;rfl) ?_
 repeat first|with_reducible refine ao ?_|simp only[go_sem,simprocAttr]
 exact aa rfl rfl
/-! ### the stack effect-/
def Cy(l:List UInt8):AV:= .s ⟨l.toArray⟩
theorem tc:∃L:List AV,bN Tryz.prog 97 [] [.v (.agg L)]/\L.length=36*5/\∀k:Nat,k<36->∃a,(L.drop (k*5)).take 5=[.s a,.s ⟨(eU k).1.toArray⟩,.s ⟨(eU k).2.toArray⟩,.n .u64 (lh k),.b (lx k)]:=by
 obtain⟨L,h1,h2,h3⟩:=qF
 refine⟨L,h1,h2,λk hk=>?_⟩
 obtain⟨h4,h5⟩:=Bool.and_eq_true_iff.1 (List.all_eq_true.1 h3 k (List.mem_range.2 hk))
 obtain⟨a,b,c,h6⟩:=qz h4
 rw[h6] at h5 ⊢
 simp only[VF,Bool.and_eq_true,beq_iff_eq] at h5
 exact⟨a,by rw[<-h5.1,<-h5.2]⟩
theorem td(k:Nat)(hk:k<36):bN Tryz.prog 103 [.n .i64 k] [.v (Cy (eU k).1),.v (Cy (eU k).2),.v (.b true)]:=by
 obtain⟨L,hL,hlen,hrow⟩:=tc
 obtain⟨a,hr⟩:=hrow k hk
 have hkn:bN Tryz.prog 70 [.n .i64 k] [.v (.agg [.s a,.s ⟨(eU k).1.toArray⟩,.s ⟨(eU k).2.toArray⟩,.n .u64 (lh k),.b (lx k)]),.v (.b true)]:=by
  refine ag aF Dg ⟨by simp,by decide⟩ ?_
  simp only[aH]
  have h0:¬((k:Int)<0):=by omega
  have h1:¬((36:Int)<=k):=by omega
  have h2:(0:Int)<=(k:Int):=by omega
  have h3:(k:Int)<36:=by omega
  repeat first|with_reducible refine ao ?_|simp only[h0,h1,ge_iff_le,decide_true,decide_false,go_sem,simprocAttr]
  refine bO ([]) hL ?_
  repeat first|with_reducible refine ao ?_|simp only[hlen,h2,h3,hr,Int.toNat_natCast,and_self,go_sem,simprocAttr]
  exact⟨[_,_],rfl,⟨rfl,rfl⟩,⟨rfl,rfl⟩,trivial⟩
 refine ag aF Pw ⟨by simp,by decide⟩ ?_
 simp only[aH]
 repeat first|with_reducible refine ao ?_|simp only[go_sem,simprocAttr]
 refine bO ([.n .i64 k]) hkn ?_
 simp only[Cy]
 repeat first|with_reducible refine ao ?_|simp only[go_sem,simprocAttr]
 exact⟨[_,_,_],rfl,⟨rfl,rfl⟩,⟨rfl,rfl⟩,⟨rfl,rfl⟩,trivial⟩
def x9:List Int->List cS->Bool->Int
 |[],_,w=>if w=true then 2 else 0
 |_::_,[],_=>0
 |a::ls,x::li,w=>if x.1=a then x9 ls li (w||decide (x.2.1<0)||decide (65536<x.2.1)) else 23
abbrev CS(l:List cS):Prop:=∀x ∈ l,0<=x.2.1/\x.2.1<=65536
theorem x8:∀(ls:List Int) (li:List cS) (w:Bool),ls.length=li.length->x9 ls li w=if(li.map λx=>x.1)=ls then(if w=false/\CS li then 0 else 2) else 23
 |[],[],w,_=>by
  rw[x9,if_pos (show(([]:List cS).map λx=>x.1)=[] from rfl)]
  cases w
  ·rw[if_neg (by decide),if_pos ⟨rfl,λx h=>by cases h⟩]
  ·rw[if_pos rfl,if_neg (λh=>by cases h.1)]
 |[],_::_,_,h=>by simp at h
 |_::_,[],_,h=>by simp at h
 |a::ls,x::li,w,h=>by
  have hl:ls.length=li.length:=by simpa using h
  rw[x9,x8 ls li _ hl]
  by_cases e:x.1=a
  ·rw[if_pos e]
   by_cases e2:(li.map λx=>x.1)=ls
   ·have hh:(List.map (λx:cS=>x.1) (x::li))=a::ls:=by rw[List.map_cons,e,e2]
    rw[if_pos e2,if_pos hh]
    have key:((w||decide (x.2.1<0)||decide (65536<x.2.1))=false/\CS li)↔(w=false/\CS (x::li)):=by
     simp only[Bool.or_eq_false_iff,decide_eq_false_iff_not]
     constructor
     ·rintro ⟨⟨⟨h1,h2⟩,h3⟩,h4⟩
      refine⟨h1,λy hy=>?_⟩
      rcases List.mem_cons.1 hy with rfl|hy
      ·omega
      ·exact h4 y hy
     ·rintro ⟨h1,h2⟩
      have:=h2 x (List.mem_cons_self ..)
      exact⟨⟨⟨h1,by omega⟩,by omega⟩,λy hy=>h2 y (List.mem_cons_of_mem _ hy)⟩
    by_cases k:w=false/\CS (x::li)
    ·rw[if_pos (key.2 k),if_pos k]
    ·rw[if_neg (λq=>k (key.1 q)),if_neg k]
   ·rw[if_neg e2,if_neg (λq=>e2 (by rw[List.map_cons] at q;exact(List.cons.inj q).2))]
  ·rw[if_neg e,if_neg (λq=>e (by rw[List.map_cons] at q;exact(List.cons.inj q).1))]
theorem BC(ls:List Int)(li:List cS)(h:ls.length=li.length):lC ls li=x9 ls li false:=by
 rw[x8 ls li false h,lC]
 by_cases e:(li.map λx=>x.1)=ls
 ·rw[if_pos ⟨h,e⟩,if_pos e]
  by_cases k:CS li
  ·rw[if_pos k,if_pos ⟨rfl,k⟩]
  ·rw[if_neg k,if_neg (λq=>k q.2)]
 ·rw[if_neg (λq=>e q.2),if_neg e]
theorem xR(ls:List Int)(li:List cS)(h:ls.length≠li.length):lC ls li=23:=if_neg (λq=>h q.1)
theorem jr(cs:List (Int×Int)):∀(k:Nat) (a:Int),a ∈ aY cs k->a<k
 |0,a,h=>by cases h
 |k+1,a,h=>by
  rw[aY] at h
  split at h
  ·rcases List.mem_append.1 h with h|h
   ·have:=jr cs k a h;omega
   ·have:a=k:=by simpa using h
    omega
  ·have:=jr cs k a h;omega
theorem fy(cs:List (Int×Int)):∀k:Nat,(aY cs k).Nodup
 |0=>List.nodup_nil
 |k+1=>by
  rw[aY]
  split
  ·rw[List.nodup_append]
   refine⟨fy cs k,by simp,λa ha b hb=>?_⟩
   have:=jr cs k a ha
   have hb:b=k:=by simpa using hb
   omega
  ·exact fy cs k
theorem po(cs:List (Int×Int)):(bR cs).Nodup:=by
 unfold bR
 split
 ·exact fy cs _
 ·exact List.nodup_nil
theorem mE:∀{l:List cS} {a:Int},a ∉ (l.map λx=>x.1)->aO l a=0
 |[],_,_=>rfl
 |x::l,a,h=>by
  rw[List.map_cons,List.mem_cons,not_or] at h
  rw[aO,if_neg (λe=>h.1 e.symm)]
  exact mE h.2
theorem jq:∀{l:List cS} {x:cS},x.1 ∉ (l.map λx=>x.1)->∀a,aO (l++[x]) a=if a=x.1 then x.2.1 else aO l a
 |[],x,_,a=>by
  show(if x.1=a then x.2.1 else 0)=_
  by_cases e:a=x.1
  ·rw[if_pos e,if_pos e.symm]
  ·rw[if_neg e,if_neg (λq=>e q.symm)];rfl
 |y::l,x,h,a=>by
  rw[List.map_cons,List.mem_cons,not_or] at h
  rw[List.cons_append,aO,jq h.2]
  by_cases e:y.1=a
  ·rw[if_pos e,if_neg (λq=>h.1 (q.symm.trans e.symm)),aO,if_pos e]
  ·rw[if_neg e,aO,if_neg e]
theorem fW.look_put(y:fW)(k:Int)(q:IntKind)(v a:Int)(z:AV):(y.put k (.n q v)).look false z a=if a=k then .n q v else y.look false z a:=by
 show(match(if a=k then some (AV.n q v) else y.get a) with
  |some v=>nK false v true
  |none=>nK false z false)=_
 by_cases e:a=k
 ·rw[if_pos e,if_pos e];rfl
 ·rw[if_neg e,if_neg e];rfl
def dq(la:List (Bool×Int))(loc:Int)(cs:List (Int×Int))(li:List cS):Int:=if(cC la loc cs).2=0 then lC (bR cs) li else(cC la loc cs).2
theorem iy{la:List (Bool×Int)}{loc:Int}{cs:List (Int×Int)}(h:(cC la loc cs).2=0):(aw cs).2.2=0/\cs.length<=1024:=by
 have hp:(aw cs).2.2=0:=by
  unfold cC at h
  split at h
  ·split at h
   ·assumption
   ·exact h
  ·rename_i h1
   exact absurd h h1
 refine⟨hp,?_⟩
 by_cases e:1024<cs.length
 ·rw[aw,if_pos e] at hp
  exact absurd hp (by decide)
 ·omega
def rR(la:List (Bool×Int))(loc:Int)(cs:List (Int×Int))(li:List cS)(rs:List RT)(N:Nat->Option OB):Prop:=
 (dq la loc cs li≠0/\rs=[.v (.agg [.sl0,.cv (.map none)]),.v .sl0,.v (.n .i64 (dq la loc cs li))]/\N=λ_=>none)\/
 (dq la loc cs li=0/\∃r,Av li r N/\rs=[.v (eB cs r),.v (.fs 5 (aw cs).1.len (aw cs).1.cell),.v (.n .i64 0)])
theorem uE{la:List (Bool×Int)}{loc:Int}{cs:List (Int×Int)}{li:List cS}{H:AH}{e:Int}(h:dq la loc cs li=e)(h0:e≠0):∃(rs:List RT) (N:Nat->Option OB) (l:List AV),rR la loc cs li rs N/\bn [.agg [.sl0,.cv (.map none)],.sl0,.n .i64 e]=bn l/\kr rs l H/\∀r x,N r=some x->H.ob r=some x/\x6 x=true:=
 ⟨_,_,[.agg [.sl0,.cv (.map none)],.sl0,.n .i64 e],.inl ⟨by rw[h];exact h0,rfl,rfl⟩,rfl,⟨⟨rfl,rfl⟩,⟨rfl,rfl⟩,⟨by rw[h],rfl⟩,trivial⟩,λr x hx=>by cases hx⟩
theorem qH(la:List (Bool×Int))(loc:Int)(cs:List (Int×Int))(hl:la.length<=9223372036854775807)(hc:cs.length<=9223372036854775807)(ha:bV cs)(s e h:Int)(li:List cS)(hli:li.length<=1024)(hL:tH li):
  wX Tryz.prog 34 [aJ la loc cs,jN s e h li] (λ_=>True) (λM rs N=>rR la loc cs li rs N):=by
 refine lR aF Og ⟨by simp,by decide⟩ λM _=>?_
 simp only[aH,aJ,jN]
 repeat first|with_reducible refine ao ?_|simp only[go_sem,simprocAttr]
 refine bO ([aJ la loc cs]) (jl la loc cs hl hc ha) ?_
 by_cases h1:(cC la loc cs).2=0
 rotate_left
 ·repeat first|with_reducible refine ao ?_|simp only[h1,ne_eq,not_false_eq_true,decide_true,decide_false,Bool.not_false,go_sem,simprocAttr]
  exact uE (if_neg h1) h1
 have hO:dq la loc cs li=lC (bR cs) li:=if_pos h1
 obtain⟨hp,hcs⟩:=iy h1
 repeat first|with_reducible refine ao ?_|simp only[h1,ne_eq,not_true_eq_false,decide_true,decide_false,Bool.not_true,go_sem,simprocAttr]
 refine bO ([.fs 2 cs.length (pI cs)]) (vN cs (by omega)) ?_
 rw[hp]
 have hnd:=po cs
 have hlen:(bR cs).length<=1024:=by
  rw[bR,if_pos hp]
  exact Nat.le_trans (ii cs _) hcs
 generalize hls:bR cs=ls at hO hnd hlen ⊢
 by_cases h2:ls.length=li.length
 rotate_left
 ·have h2':¬(ls.length:Int)=li.length:=by omega
  repeat first|with_reducible refine ao ?_|simp only[h2',ne_eq,not_true_eq_false,not_false_eq_true,decide_true,decide_false,Bool.not_true,Bool.not_false,go_sem,simprocAttr]
  exact uE (hO.trans (xR ls li h2)) (by decide)
 have h2':(ls.length:Int)=li.length:=by omega
 rw[BC ls li h2] at hO
 repeat first|with_reducible refine ao ?_|simp only[h2',ne_eq,not_true_eq_false,decide_true,decide_false,Bool.not_true,go_sem,simprocAttr]
 refine pk λr hr=>?_
 repeat first|with_reducible refine ao ?_|simp only[go_sem,simprocAttr]
 refine GA.loop (I:=λm ev H=>∃(k:Nat) (wr:Bool) (y:fW) (ob:Nat->Option OB),m=ls.length-k/\k<=ls.length/\x9 ls li false=x9 (ls.drop k) (li.drop k) wr/\ob r=some (.mp y)/\y.own=true/\(∀a,y.look false (.n .i64 0) a= .n .i64 (aO (li.take k) a))/\((li.take k).map λx=>x.1)=ls.take k/\
   ev=aB [(2,.p 0 0),(3,.p 1 0),(4,.p 2 0),(11,.p 3 0),(12,.b wr),(48,.fs 1 ls.length (iC ls)),(49,.n .i64 li.length),(50,.n .i64 k)]/\
   H=az ob [ae 0 88 [.fs 2 cs.length (pI cs),.cv (.map (some r))],ae 0 88 [.sl0,.cv (.map none)],ae 0 38 [.n .i64 s,.n .i64 e,.n .i64 h,.fs 3 li.length (vI li)],ae 0 25 [.fs 2 la.length (pA la),.n .i64 loc,.fs 2 cs.length (pI cs)]])
  (Wk.mkS [4,2,1,0] [3] ?_ ?_ ?_) ⟨0,false,⟨true,λ_=>none,0,none⟩,_,rfl,Nat.zero_le _,rfl,?_,rfl,λa=>rfl,rfl,rfl,rfl⟩ ?_
 ·simp only[d9,cM,go_sem,simprocAttr]
  repeat' refine a7 ?_ ?_
  all_goals first|exact iI|skip
  exact .cv (.os (x:=ai 3 1 ls.length 0 (iC ls)) (by simp) (by simp only[go_sem,simprocAttr]) (Nat.le_refl _) (λi j _ hj=>aK i j hj) (λi j _ _=>rfl))
 ·exact .cr (.j2) (.cr (.j2) (.cr (.j4) (.cr (.j3) .nil)))
 ·simp
 ·simp only[go_sem,simprocAttr]
 rintro m ev H ⟨k,wr,y,ob,rfl,hk,hs,hob,hown,hlook,hmap,rfl,rfl⟩
 have h0:(0:Int)<=(k:Int):=by omega
 by_cases hkl:k<ls.length
 rotate_left
 ·have hk':¬(k:Int)<li.length:=by omega
  obtain rfl:k=ls.length:=by omega
  rw[List.drop_length,x9] at hs
  rw[List.take_length,h2,List.take_length] at hmap
  rw[h2,List.take_length] at hlook
  cases wr
  ·repeat first|with_reducible refine ao ?_|simp only[hk',decide_false,go_sem,simprocAttr]
   refine bO ([.fs 2 cs.length (pI cs)]) (ky cs) ?_
   rw[hp]
   repeat first|with_reducible refine ao ?_|simp only[go_sem,simprocAttr]
   exact⟨_,λq=>if q=r then some (.mp y) else none,[eB cs r,.fs 5 (aw cs).1.len (aw cs).1.cell,.n .i64 0],.inr ⟨hO.trans (hs.trans (if_neg (by decide))),r,⟨y,if_pos rfl,hlook⟩,rfl⟩,rfl,⟨⟨rfl,rfl⟩,⟨rfl,rfl⟩,⟨rfl,rfl⟩,trivial⟩,λq x hx=>by
    have hx2:(if q=r then some (OB.mp y) else none)=some x:=hx
    clear hx
    by_cases hq:q=r
    ·rw[if_pos hq] at hx2
     cases hx2
     subst hq
     exact⟨by simp only[hob,go_sem,simprocAttr],hown⟩
    ·rw[if_neg hq] at hx2
     cases hx2⟩
  ·repeat first|with_reducible refine ao ?_|simp only[hk',decide_false,go_sem,simprocAttr]
   exact uE (hO.trans (hs.trans (if_pos rfl))) (by decide)
 have hk1:(k:Int)<li.length:=by omega
 have hk2:(k:Int)<ls.length:=by omega
 have hkl':k<li.length:=by omega
 have wk:IntKind.i64.wrap ((k:Int)+1)=((k+1:Nat):Int):=(am (by omega)).trans (by omega)
 rw[cF (d:=0) hkl,cF (d:=lI) hkl',x9] at hs
 have htl:li.take (k+1)=li.take k++[li.getD k lI]:=by
  rw[List.take_add_one,List.getD_eq_getElem?_getD,List.getElem?_eq_getElem hkl'];rfl
 have htl2:ls.take (k+1)=ls.take k++[ls.getD k 0]:=by
  rw[List.take_add_one,List.getD_eq_getElem?_getD,List.getElem?_eq_getElem hkl];rfl
 have hLk:Ki (vI li k 2):=hL _ (by
  rw[List.getD_eq_getElem?_getD,List.getElem?_eq_getElem hkl'];exact List.getElem_mem hkl')
 by_cases h3:(li.getD k lI).1=ls.getD k 0
 rotate_left
 ·rw[if_neg h3] at hs
  rcases hLk with hV2|⟨x3,x4,hV2⟩
  all_goals
   repeat first|with_reducible refine ao ?_|simp only[h0,hk1,hk2,Wf,vI0,vI1,hV2,oE,ud,h3,ne_eq,not_false_eq_true,decide_true,Bool.not_false,go_sem,simprocAttr]
   exact uE (hO.trans hs) (by decide)
 rw[if_pos h3] at hs
 have hnot:(li.getD k lI).1 ∉ ((li.take k).map λx=>x.1):=by
  rw[hmap,h3]
  intro hin
  have hn2:(ls.take (k+1)).Nodup:=hnd.sublist (List.take_sublist _ _)
  rw[htl2,List.nodup_append] at hn2
  exact hn2.2.2 _ hin _ (List.mem_singleton.2 rfl) rfl
 have hmap':((li.take (k+1)).map λx=>x.1)=ls.take (k+1):=by
  rw[htl,htl2,List.map_append,hmap]
  simp only[List.map_cons,List.map_nil,h3]
 have hlook':∀a,(y.put (ls.getD k 0) (.n .i64 (li.getD k lI).2.1)).look false (.n .i64 0) a= .n .i64 (aO (li.take (k+1)) a):=λa=>by
  rw[fW.look_put,htl,jq hnot,hlook,h3]
  split<;>rfl
 generalize hx:li.getD k lI=x at hs h3 hlook' htl
 obtain⟨x1,x2,x3⟩:=x
 replace h3:x1=ls.getD k 0:=h3
 subst h3
 have hV0:vI li k 0= .n .i64 (ls.getD k 0):=by rw[vI0,hx]
 have hV1:vI li k 1= .n .i64 x2:=by rw[vI1,hx]
 replace hs:x9 ls li false=x9 (ls.drop (k+1)) (li.drop (k+1)) (wr||decide (x2<0)||decide (65536<x2)):=hs
 replace hlook':∀a,(y.put (ls.getD k 0) (.n .i64 x2)).look false (.n .i64 0) a= .n .i64 (aO (li.take (k+1)) a):=hlook'
 clear hlook htl hmap hnot
 rcases hLk with hV2|⟨x3,x4,hV2⟩<;>cases wr<;>cases q1:decide (x2<0)<;>cases q2:decide (65536<x2)
 all_goals
  rw[q1,q2] at hs
  repeat first|with_reducible refine ao ?_|simp only[h0,hk1,hk2,Wf,hV0,hV1,hV2,oE,ud,hob,hown,q1,q2,wk,gt_iff_lt,ne_eq,not_true_eq_false,decide_true,decide_false,Bool.not_true,go_sem,simprocAttr]
  refine⟨_,_,_,?_,Wk.mkS [3,2,1,0] [] ?_ ?_ ?_,k+1,_,y.put (ls.getD k 0) (.n .i64 x2),_,rfl,by omega,hs,?_,hown,hlook',hmap',rfl,rfl⟩
  ·omega
  ·exact ba
  ·exact .cr .ls (.cr .ls (.cr .ls (.cr .ls .nil)))
  ·simp
  ·simp only[go_sem,simprocAttr]
theorem pc{ls:List Int}{li:List cS}(h:lC ls li=0):ls.length=li.length/\(li.map λx=>x.1)=ls/\CS li:=by
 unfold lC at h
 split at h
 ·rename_i h1
  split at h
  ·rename_i h2
   exact⟨h1.1,h1.2,h2⟩
  ·exact absurd h (by decide)
 ·exact absurd h (by decide)
theorem ub{la:List (Bool×Int)}{loc:Int}{cs:List (Int×Int)}{li:List cS}(h:dq la loc cs li=0):∃out,aA cs out (aw cs).1 0 cs.length/\cs.length<=1024/\CS li/\(aw cs).2.2=0:=by
 by_cases h1:(cC la loc cs).2=0
 ·have h2:lC (bR cs) li=0:=(if_pos h1).symm.trans h
  obtain⟨hp,_⟩:=iy h1
  rcases sF cs with⟨a,e,he,_,k2⟩|⟨out,o,_,k2,k3,_,k5⟩
  ·rw[k2] at hp;exact absurd hp he
  ·exact⟨out,by rw[k2];exact k5,k3,(pc h2).2.2,hp⟩
 ·exact absurd ((if_neg h1).symm.trans h) h1
theorem rS.okf{cs:List (Int×Int)}(hcs:cs.length<=100000):∀{o:Fo},rS cs o->Au o
 |.nil,_=>trivial
 |.pl x y r,h=>⟨h.1,by have:=h.2.1;omega,rS.okf hcs h.2.2⟩
 |.br op x y u v r,h=>⟨h.1,rS.okf hcs h.2.1,rS.okf hcs h.2.2.1,rS.okf hcs h.2.2.2⟩
theorem rS.okp{cs:List (Int×Int)}{C:Nat->Nat->Prop}(hC:∀x y,x<=y->y<=cs.length->C x y):∀{o:Fo},rS cs o->Ar C o
 |.nil,_=>trivial
 |.pl x y r,h=>⟨hC x y h.1 h.2.1,rS.okp hC h.2.2⟩
 |.br op x y u v r,h=>⟨h.1,rS.okp hC h.2.1,rS.okp hC h.2.2.1,rS.okp hC h.2.2.2⟩
def gc(la:List (Bool×Int))(loc:Int)(cs:List (Int×Int))(li:List cS):Int×Int:=if dq la loc cs li=0 then jz (av li (aw cs).1 0) else(0,dq la loc cs li)
def kJ(la:List (Bool×Int))(loc:Int)(cs:List (Int×Int))(li:List cS):Int×Int:=if dq la loc cs li=0 then jz (aE cs li (aw cs).1 0) else(0,dq la loc cs li)
theorem ve{cs:List (Int×Int)}(hcs:cs.length<=1024)(r x y:Nat)(h1:x<=y)(h2:y<=cs.length):Kh cs r 36 (λx y=>(y:Int)-x) x y:=by
 have e:((y:Int)-x)=((y-x:Nat):Int):=by omega
 refine⟨?_,by show 0<=(y:Int)-x;omega,by show(y:Int)-x<=100000;omega⟩
 show bN Tryz.prog 36 [eB cs r,.n .i64 x,.n .i64 y] [.v (.n .i64 ((y:Int)-x))]
 rw[e]
 exact tt cs r x y h1 (by omega)
theorem vh{cs:List (Int×Int)}(hcs:cs.length<=1024)(r x y:Nat)(h1:x<=y)(h2:y<=cs.length):Kh cs r 37 (λx y=>(bH cs x (y-x):Nat)) x y:=by
 have:=kg cs x (y-x)
 exact⟨tw cs r x y h1 h2 (by omega),by show(0:Int)<=(bH cs x (y-x):Nat);omega,by show((bH cs x (y-x):Nat):Int)<=100000;omega⟩
theorem jy(la:List (Bool×Int))(loc:Int)(cs:List (Int×Int))(hl:la.length<=9223372036854775807)(hc:cs.length<=9223372036854775807)(ha:bV cs)(s e h:Int)(li:List cS)(hli:li.length<=1024)(hL:tH li):
  bN Tryz.prog 13 [aJ la loc cs,jN s e h li] [.v (.n .i64 (gc la loc cs li).1),.v (.n .i64 (gc la loc cs li).2)]:=by
 refine ag aF Om ⟨by simp,by decide⟩ ?_
 simp only[aH,aJ,jN]
 repeat first|with_reducible refine ao ?_|simp only[go_sem,simprocAttr]
 refine cw [] (fargs:=[aJ la loc cs,jN s e h li]) (cm.same rfl) (qH la loc cs hl hc ha s e h li hli hL) True.intro ?_ ?_
 ·simp only[go_sem,simprocAttr]
 rintro rs N (⟨h0,rfl,rfl⟩|⟨h0,r,⟨x,hx,hlk⟩,rfl⟩) hfree
 ·rw[show gc la loc cs li=(0,dq la loc cs li) from if_neg h0]
  repeat first|with_reducible refine ao ?_|simp only[h0,ne_eq,not_false_eq_true,decide_false,Bool.not_false,go_sem,simprocAttr]
  exact⟨[_,_],rfl,⟨rfl,rfl⟩,⟨rfl,rfl⟩,trivial⟩
 obtain⟨out,hg,hcs,hin,_⟩:=ub h0
 have hm:=ig hin
 have hok:=hg.oke (Nat.le_refl _)
 have hsz:=hg.size
 have hw:=lW cs r li 36 (λx y=>(y:Int)-x) 1 (by decide) hm _ (aw cs).1 (Nat.lt_succ_self _) (by omega) (hok.okp (ve hcs r))
 unfold rQ at hw
 rw[dC (λa=>(hm a).1) _ 0 (hok.okf (by omega)) (by decide)] at hw
 rw[show gc la loc cs li=jz (av li (aw cs).1 0) from if_pos h0]
 simp only[eB]
 repeat first|with_reducible refine ao ?_|simp only[ne_eq,not_true_eq_false,decide_true,Bool.not_true,go_sem,simprocAttr]
 refine cw [] (fargs:=[eB cs r,.fs 5 (aw cs).1.len (aw cs).1.cell,.f 36 [eB cs r] [],.n .i64 1]) (cm.same rfl) hw ⟨x,?_,hlk⟩ ?_ ?_
 ·simp only[go_sem,simprocAttr]
  exact(kl rfl).trans hx
 ·simp only[go_sem,simprocAttr]
 rintro rs N2 ⟨rfl,rfl⟩ _
 repeat first|with_reducible refine ao ?_|simp only[go_sem,simprocAttr]
 refine bO ([.n .i64 (av li (aw cs).1 0)]) (iz _) ?_
 repeat first|with_reducible refine ao ?_|simp only[go_sem,simprocAttr]
 exact⟨[_,_],rfl,⟨rfl,rfl⟩,⟨rfl,rfl⟩,trivial⟩
theorem tq(la:List (Bool×Int))(loc:Int)(cs:List (Int×Int))(hl:la.length<=9223372036854775807)(hc:cs.length<=9223372036854775807)(ha:bV cs)(s e h:Int)(li:List cS)(hli:li.length<=1024)(hL:tH li):
  bN Tryz.prog 14 [aJ la loc cs,jN s e h li] [.v (.n .i64 (kJ la loc cs li).1),.v (.n .i64 (kJ la loc cs li).2)]:=by
 refine ag aF Mn ⟨by simp,by decide⟩ ?_
 simp only[aH,aJ,jN]
 repeat first|with_reducible refine ao ?_|simp only[go_sem,simprocAttr]
 refine cw [] (fargs:=[aJ la loc cs,jN s e h li]) (cm.same rfl) (qH la loc cs hl hc ha s e h li hli hL) True.intro ?_ ?_
 ·simp only[go_sem,simprocAttr]
 rintro rs N (⟨h0,rfl,rfl⟩|⟨h0,r,⟨x,hx,hlk⟩,rfl⟩) hfree
 ·rw[show kJ la loc cs li=(0,dq la loc cs li) from if_neg h0]
  repeat first|with_reducible refine ao ?_|simp only[h0,ne_eq,not_false_eq_true,decide_false,Bool.not_false,go_sem,simprocAttr]
  exact⟨[_,_],rfl,⟨rfl,rfl⟩,⟨rfl,rfl⟩,trivial⟩
 obtain⟨out,hg,hcs,hin,_⟩:=ub h0
 have hm:=ig hin
 have hok:=hg.oke (Nat.le_refl _)
 have hsz:=hg.size
 have hw:=lW cs r li 37 (λx y=>(bH cs x (y-x):Nat)) 0 (by decide) hm _ (aw cs).1 (Nat.lt_succ_self _) (by omega) (hok.okp (vh hcs r))
 unfold rQ at hw
 rw[dD (λa=>(hm a).1) _ 0 (by decide)] at hw
 rw[show kJ la loc cs li=jz (aE cs li (aw cs).1 0) from if_pos h0]
 simp only[eB]
 repeat first|with_reducible refine ao ?_|simp only[ne_eq,not_true_eq_false,decide_true,Bool.not_true,go_sem,simprocAttr]
 refine cw [] (fargs:=[eB cs r,.fs 5 (aw cs).1.len (aw cs).1.cell,.f 37 [eB cs r] [],.n .i64 0]) (cm.same rfl) hw ⟨x,?_,hlk⟩ ?_ ?_
 ·simp only[go_sem,simprocAttr]
  exact(kl rfl).trans hx
 ·simp only[go_sem,simprocAttr]
 rintro rs N2 ⟨rfl,rfl⟩ _
 repeat first|with_reducible refine ao ?_|simp only[go_sem,simprocAttr]
 refine bO ([.n .i64 (aE cs li (aw cs).1 0)]) (iz _) ?_
 repeat first|with_reducible refine ao ?_|simp only[go_sem,simprocAttr]
 exact⟨[_,_],rfl,⟨rfl,rfl⟩,⟨rfl,rfl⟩,trivial⟩
end Go.Proofs.YtdpkgnmmikebdaaGreat