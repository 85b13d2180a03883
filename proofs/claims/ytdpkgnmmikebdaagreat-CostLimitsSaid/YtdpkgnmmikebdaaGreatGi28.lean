/- A part of the proof of CostLimits. No condition. -/
import Derived.Test.YtdpkgnmmikebdaaGreatGi27
import Derived.Test.YtdpkgnmmikebdaaGreatGi25
import Derived.Test.YtdpkgnmmikebdaaGreatGi26
import Derived.Test.YtdpkgnmmikebdaaGreatGi22
import Derived.Test.YtdpkgnmmikebdaaGreatGi15
import Derived.Test.YtdpkgnmmikebdaaGreatGi20
import Derived.Test.YtdpkgnmmikebdaaGreatGi17
import Derived.Test.YtdpkgnmmikebdaaGreatGip
set_option linter.unusedSimpArgs false
set_option linter.unusedVariables false
set_option linter.constructorNameAsVariable false
set_option maxRecDepth 100000
set_option maxHeartbeats 4000000
namespace Go.Proofs.YtdpkgnmmikebdaaGreat
open Go.RowKit
def Gp(C:Nat->Nat->Prop):Fo->Prop
 |.nil=>True
 |.pl x y r=>C x y/\Gp C r
 |.br op x y u v r=>(op=27\/op=29)/\Gp C u/\Gp C v/\Gp C r
def Gq(li:List l5)(r:Nat)(M:Nat->Option OB):Prop:=∃x,M r=some (.mp x)/\∀a,x.look false (aq 0) a= aq (gQ li a)
def PlC(cs:am)(r:Nat)(g:FuncId)(pl:Nat->Nat->Int)(x y:Nat):Prop:=gw av g [om cs r,aq x,aq y] [.v (aq (pl x y))]/\0<=pl x y/\pl x y<=100000
def Bp(cs:am)(r:Nat)(li:List l5)(g:FuncId)(pl:Nat->Nat->Int)(own:Int)(o:Fo):Prop:=
 Df av 35 [om cs r,.fs 5 o.len o.cell,.f g [om cs r] [],aq own] (Gq li r) (λM rs N=>rs=[.v (aq (iw li pl own o 0))]/\N=λ_=>none)
theorem anQ{P:List RT->(Nat->Option OB)->Prop}{v:AV}{H:AH}(h:P [.v v] (λ_=>none))(hp:v.pu 3=true):∃(rs:List RT) (N:Nat->Option OB) (l:List AV),P rs N/\v=gD l/\qP rs l H/\∀r x,N r=some x->H.ob r=some x/\D9 x=true:=
 ⟨_,_,[v],h,rfl,⟨⟨rfl,hp⟩,trivial⟩,λr x hx=>by cases hx⟩
theorem ox{C:Nat->Nat->Prop}{li:List l5}{pl:Nat->Nat->Int}{own:Int}(hown:0<=own/\own<=1)(hC:∀x y,C x y->0<=pl x y/\pl x y<=100000)(hm:∀a,0<=gQ li a):∀(o:Fo) (n:Int),Gp C o->0<=n/\n<=281474976710657->0<=iw li pl own o n/\iw li pl own o n<=281474976710657
 |.nil,n,_,h=>h
 |.pl x y r,n,ho,h=>ox hown hC hm r _ ho.2 (fH (by have:=hC x y ho.1;omega))
 |.br op x y u v r,n,ho,h=>by
  have hu:=ox hown hC hm u 0 ho.2.1 aa;have hv:=ox hown hC hm v 0 ho.2.2.1 aa;refine ox hown hC hm r _ ho.2.2.2 (fH ?_);split
  ·have:=fH (n:=own+(if iw li pl own u 0<iw li pl own v 0 then iw li pl own v 0 else iw li pl own u 0)) (by split<;>omega)
   omega
  ·have h1:=(hJ (fH (n:=own+iw li pl own u 0) aa).1 (hm x)).1;have:=fH (n:=own+fN (gi (own+iw li pl own u 0)) (gQ li x)) aa;omega
theorem BA(cs:am)(r:Nat)(li:List l5)(g:FuncId)(pl:Nat->Nat->Int)(own:Int)(hown:0<=own/\own<=1)(hm:∀a,0<=gQ li a/\gQ li a<=65536)(o:Fo)(ho:Gp (PlC cs r g pl) o)(hlen:o.len<=100000)(ih:∀u:Fo,u.size<o.size->Gp (PlC cs r g pl) u->Bp cs r li g pl own u):Bp cs r li g pl own o:=by
 refine sD fx ae8 ⟨ae,ag⟩ λM hM=>?_;obtain⟨y,hob,hlook⟩:∃y,sa M r=some (.mp y)/\∀a,y.look false (aq 0) a= aq (gQ li a):=by
  obtain⟨x0,hx0,hlook⟩:=hM;exact⟨_,LN hx0,hlook⟩
 have hW:∀u:Fo,Gp (PlC cs r g pl) u->0<=iw li pl own u 0/\iw li pl own u 0<=281474976710657:=λu hu=>ox hown (λx y h=>h.2) (λa=>(hm a).1) u 0 hu aa;have hMap:Gq li r (sa M):=⟨y,hob,hlook⟩;clear hM;simp only[fy,om];refine dp ?_;refine GA.loop (I:=λm ev H=>∃(rest:Fo) (k:Nat) (n:Int),m=rest.size/\k+rest.len=o.len/\iw li pl own o 0=iw li pl own rest n/\(0<=n/\n<=281474976710657)/\Gp (PlC cs r g pl) rest/\(∀i j,i<rest.len->rest.cell i j=o.cell (k+i) j)/\rest.size<=o.size/\ev=fu [(2,.f g [.agg [.fs 2 cs.length (pI cs),.cv (.map (some r))]] []),(3,aq own),(4,.p 0 0),(9,aq n),(13,.fs 5 o.len o.cell),(14,aq o.len),(15,aq k)]/\H=ft (sa M) [eZ 0 88 [.fs 2 cs.length (pI cs),.cv (.map (some r))]]) (Wk.mkS [0] [] ?_ ?_ ?_) ⟨o,0,0,rfl,aa,rfl,aa,ho,λi j _=>by rw[apz],bL _,rfl,rfl⟩ ?_
 ·exact fK
 ·exact bb
 ·simp
 rintro m ev H ⟨rest,k,n,rfl,hkl,hs,hn,hok,hc,hsz,rfl,rfl⟩;have h0:(0:Int)<=(k:Int):=aa;cases rest with
 |nil=>
  have hk:¬(k:Int)<o.len:=by simp[Fo.len] at hkl;omega
  refine dq hk ?_;exact anQ (P:=λrs N=>rs=_/\N=λ_=>none) ⟨by rw[hs];rfl,rfl⟩ rfl
 |pl x y r'=>
  obtain⟨g1,g3⟩:=hok;simp only[Fo.len] at hkl hc;have hk:(k:Int)<o.len:=aa;have d0:o.cell k 0= aq (-1):=(hc 0 0 aa).symm;have d1:o.cell k 1= aq x:=(hc 0 1 aa).symm;have d2:o.cell k 2= aq y:=(hc 0 2 aa).symm;have d3:o.cell k 3= .sl0:=(hc 0 3 aa).symm;have d4:o.cell k 4= .sl0:=(hc 0 4 aa).symm;have wk:=au k;obtain⟨g1,g2⟩:=g1;refine dq (aU h0 (aU hk (aU d0 (aU d1 (aU d2 (aU d3 d4)))))) ?_;refine gf g1 ?_;refine dp ?_;refine gf (F:=[aq n,aq (pl x y)]) (mY n (pl x y) aa aa) ?_;refine du wk ?_;refine⟨_,_,_,?_,Wk.mkS [0] [] ?_ ?_ ?_,r',k+1,gi (n+pl x y),rfl,aa,hs,fH aa,g3,λi j hi=>?_,by simp only[Fo.size] at hsz;omega,rfl,rfl⟩
  ·exact ar5
  ·exact fK
  ·exact asa
  ·simp
  ·have:=hc (i+1) j aa;rw[show k+1+i=k+(i+1) by omega]
   exact this
 |br op x y u v r'=>
  obtain⟨hop,gu,gv,gr⟩:=hok;simp only[Fo.len] at hkl hc;have hk:(k:Int)<o.len:=aa;have d0:o.cell k 0= aq op:=(hc 0 0 aa).symm;have d1:o.cell k 1= aq x:=(hc 0 1 aa).symm;have d2:o.cell k 2= aq y:=(hc 0 2 aa).symm;have d3:o.cell k 3= .fs 5 u.len u.cell:=(hc 0 3 aa).symm;have d4:o.cell k 4= .fs 5 v.len v.cell:=(hc 0 4 aa).symm;have wk:=au k;have hsu:u.size<o.size:=by simp only[Fo.size] at hsz;omega
  have hsv:v.size<o.size:=by simp only[Fo.size] at hsz;omega
  have Bu:=hW u gu;have Bv:=hW v gv;have hc':∀i j,i<r'.len->r'.cell i j=o.cell (k+1+i) j:=λi j hi=>by
   have:=hc (i+1) j aa;rw[show k+1+i=k+(i+1) by omega]
   exact this
  rcases hop with rfl|rfl
  ·obtain⟨X,hX⟩:∃X,X=(if iw li pl own u 0<iw li pl own v 0 then iw li pl own v 0 else iw li pl own u 0):=⟨_,rfl⟩
   have BX:0<=X/\X<=281474976710657:=by rw[hX];split<;>omega
   obtain⟨S,hS⟩:∃S,S=gi (own+X):=⟨_,rfl⟩;have BS:0<=S/\S<=281474976710657:=by rw[hS];exact fH aa
   rw[iw,if_pos rfl,<-hX,<-hS] at hs;refine dq (aU h0 (aU hk (aU d0 (aU d1 (aU d2 (aU d3 d4)))))) ?_;refine jW [] (fargs:=[om cs r,.fs 5 u.len u.cell,.f g [om cs r] [],aq own]) (ja.same rfl) (ih u hsu gu) ?_ ?_ ?_
   ·exact asn
   ·exact arT
   rintro rs N ⟨rfl,rfl⟩ _;refine dp ?_;refine jW [] (fargs:=[om cs r,.fs 5 v.len v.cell,.f g [om cs r] [],aq own]) (ja.same rfl) (ih v hsv gv) ?_ ?_ ?_
   ·exact asn
   ·exact arT
   rintro rs N ⟨rfl,rfl⟩ _;refine dp ?_;rw[<-hX];refine gf (F:=[aq own,aq X]) (mY own X aa aa) ?_;rw[<-hS];refine dp ?_;refine gf (F:=[aq n,aq S]) (mY n S aa aa) ?_;refine du wk ?_;refine⟨_,_,_,?_,Wk.mkS [0] [] ?_ ?_ ?_,r',k+1,gi (n+S),rfl,aa,hs,fH aa,gr,hc',by simp only[Fo.size] at hsz;omega,rfl,rfl⟩
   ·exact ar5
   ·exact fK
   ·exact asa
   ·simp
  ·obtain⟨S,hS⟩:∃S,S=gi (own+iw li pl own u 0):=⟨_,rfl⟩;have BS:0<=S/\S<=281474976710657:=by rw[hS];exact fH aa
   obtain⟨T,hT⟩:∃T,T=fN S (gQ li x):=⟨_,rfl⟩;have BT:0<=T/\T<=281474976710657:=by rw[hT];exact hJ BS.1 (hm x).1
   obtain⟨Z,hZ⟩:∃Z,Z=gi (own+T):=⟨_,rfl⟩;have BZ:0<=Z/\Z<=281474976710657:=by rw[hZ];exact fH aa
   rw[iw,if_neg ag,<-hS,<-hT,<-hZ] at hs;refine dq (aU h0 (aU hk (aU d0 (aU d1 (aU d2 (aU d3 d4)))))) ?_;refine GA.mxlm fx 2 ah ?_;refine bc (aU hob hlook) ?_;refine jW [] (fargs:=[om cs r,.fs 5 u.len u.cell,.f g [om cs r] [],aq own]) (ja.same rfl) (ih u hsu gu) ?_ ?_ ?_
   ·exact asn
   ·exact arT
   rintro rs N ⟨rfl,rfl⟩ _;refine dp ?_;refine gf (F:=[aq own,aq (iw li pl own u 0)]) (mY own _ aa aa) ?_;rw[<-hS];refine dp ?_;refine gf (uv S (gQ li x) BS (hm x)) ?_;rw[<-hT];refine dp ?_;refine gf (F:=[aq own,aq T]) (mY own T aa aa) ?_;rw[<-hZ];refine dp ?_;refine gf (F:=[aq n,aq Z]) (mY n Z aa aa) ?_;refine du wk ?_;refine⟨_,_,_,?_,Wk.mkS [0] [] ?_ ?_ ?_,r',k+1,gi (n+Z),rfl,aa,hs,fH aa,gr,hc',by simp only[Fo.size] at hsz;omega,rfl,rfl⟩
   ·exact ar5
   ·exact fK
   ·exact asa
   ·simp
theorem wE(cs:am)(r:Nat)(li:List l5)(g:FuncId)(pl:Nat->Nat->Int)(own:Int)(hown:0<=own/\own<=1)(hm:∀a,0<=gQ li a/\gQ li a<=65536):∀(n:Nat) (o:Fo),o.size<n->o.size<=100000->Gp (PlC cs r g pl) o->Bp cs r li g pl own o
 |0,o,hn,_,_=>absurd hn (apg _)
 |n+1,o,hn,hs,ho=>BA cs r li g pl own hown hm o ho (apj (Fo.len_le_size o) hs) λu hu gu=>wE cs r li g pl own hown hm n u aa aa gu
def iv(x:Iv):AV:= .agg [aq x.1,aq x.2]
theorem pe(x:Iv):gw av 128 [iv x] [.v (aq (yr x))]:=by
 refine fe fx ajg ⟨ae,ag⟩ ?_;obtain⟨a,b⟩:=x;simp only[fy,iv,yr];by_cases h1:a<0
 ·refine dw h1 ?_;exact eY (by simp[h1]) rfl
 by_cases h2:4294967295<a
 ·refine dw (aU h1 h2) ?_;exact eY (by simp[h1,h2]) rfl
 by_cases h3:b<0
 ·exact eG
 by_cases h4:4294967295<b
 ·exact eH
 by_cases h5:b<a
 ·exact eI
 refine dw (aU h1 (aU h2 (aU h3 (aU h4 h5)))) ?_;exact eY (by simp[h1,h2,h3,h4,h5]) rfl
theorem rm(x y:Iv):gw av 92 [iv x,iv y] [.v (.b (decide (iJ x/\iJ y)))]:=by
 refine fe fx ajk ⟨ae,ag⟩ ?_;simp only[fy,iv];refine dp ?_;refine gf (pe x) ?_;by_cases hx:yr x=0;rotate_left
 ·refine dq hx ?_;exact eY (by rw[decide_eq_false (λh=>hx (nY.2 h.1))]) rfl
 refine dq hx ?_;refine gf (pe y) ?_;refine dq hx ?_;refine eY ?_ rfl;congr 1;by_cases hy:yr y=0
 ·rw[decide_eq_true hy,decide_eq_true ⟨nY.1 hx,nY.1 hy⟩]
 ·rw[decide_eq_false hy,decide_eq_false (λh=>hy (nY.2 h.2))]
theorem jc:gw av 63 [] [.v (iv (0,4294967295))]:=by
 refine fe fx aiY ⟨ae,ag⟩ ?_;simp only[fy,iv];refine dp ?_;exact dU
theorem mA(n:Int)(h:0<=n/\n<=4294967295):gw av 54 [.n .u32 n] [.v (iv (n,n))]:=by
 refine fe fx aiH ⟨ae,ag⟩ ?_;simp only[fy,iv];have w:IntKind.i64.wrap n=n:=ff aa;refine du w ?_;exact dU
theorem tt(x y:Iv):gw av 62 [iv x,iv y] [.v (iv (kQ x y))]:=by
 refine fe fx ajp ⟨ae,ag⟩ ?_;simp only[fy,iv];refine dp ?_;refine gf (rm x y) ?_;by_cases h:iJ x/\iJ y
 ·have hd:=decide_eq_true h;rw[show kQ x y=(jT x.1 y.1,fA x.2 y.2) from if_pos h]
  repeat first|with_reducible refine fj ?_|simp only[hd,fL,gV,iW,iK,go_sem,simprocAttr]
  exact dU
 ·have hd:=decide_eq_false h;rw[show kQ x y=(0,0) from if_neg h];refine du hd ?_;exact eY rfl rfl
theorem vQ(x y:Iv):gw av 172 [iv x,iv y] [.v (.b (jp x y))]:=by
 refine fe fx abK ⟨ae,ag⟩ ?_;simp only[fy,iv];refine dp ?_;refine gf (rm x y) ?_;unfold jp;by_cases h:iJ x/\iJ y;rotate_left
 ·have hd:=decide_eq_false h;refine du hd ?_;exact eY ae rfl
 have hd:=decide_eq_true h;by_cases h1:y.1<=x.1;rotate_left
 ·refine dq (aU hd h1) ?_;exact eY (by simp[h1]) rfl
 refine dq (aU hd h1) ?_;exact dU
theorem xU(x y:Iv):gw av 61 [iv x,iv y] [.v (iv (kX x y))]:=by
 refine fe fx ai9 ⟨ae,ag⟩ ?_;simp only[fy,iv];refine dp ?_;refine gf (rm x y) ?_;by_cases h:iJ x/\iJ y;rotate_left
 ·have hd:=decide_eq_false h;rw[show kX x y=(0,0) from if_neg h];refine du hd ?_;exact eY rfl rfl
 obtain⟨lo,hlo⟩:∃lo,lo=(if y.1<x.1 then 0 else x.1):=⟨_,rfl⟩
 have hw:kX x y=(lo,if x.2<y.2 then Fa y.2 else x.2):=by rw[hlo];exact if_pos h
 rw[hw];have hy3:=h.2.2.2;have hd:=decide_eq_true h;by_cases h1:y.1<x.1
 ·rw[if_pos h1] at hlo;subst hlo;by_cases h2:x.2<y.2;rotate_left
  ·refine dw (aU hd (aU h1 h2)) ?_;exact eY (by simp[h2]) rfl
  refine dw (aU hd (aU h1 h2)) ?_;refine GA.loop (I:=λm e H=>∃(k:Nat),m=3-k/\k<=2/\(1<=k->255<y.2)/\(2<=k->65535<y.2)/\e=fu [(2,.p 0 0),(3,.p 1 0),(4,.p 2 0),(23,.agg [aq 255,aq 65535,aq 4294967295]),(24,aq k)]/\H=fi [eZ 0 127 [aq 0,aq 0],eZ 0 127 [aq y.1,aq y.2],eZ 0 127 [aq 0,aq x.2]]) (Wk.mk [2,1,0] [] ?_ ?_ ?_) ⟨0,rfl,aa,λh=>aa,λh=>aa,rfl,rfl⟩ ?_
  ·exact fK
  ·exact bb
  ·simp
  rintro m e H ⟨k,rfl,hk,g1,g2,rfl,rfl⟩;rcases(show k=0\/k=1\/k=2 by omega) with rfl|rfl|rfl
  ·by_cases q:y.2<=255
   ·refine dt q ?_;exact eY (by simp[h2,Fa,q]) rfl
   ·refine dt q ?_;refine⟨_,_,_,?_,Wk.mk [2,1,0] [] ?_ ?_ ?_,1,rfl,aa,λ_=>aa,λh=>aa,rfl,rfl⟩
    ·omega
    ·exact fK
    ·exact asr
    ·simp
  ·have q0:¬y.2<=255:=by have:=g1 aa;omega
   by_cases q:y.2<=65535
   ·refine dt q ?_;exact eY (by simp[h2,Fa,q0,q]) rfl
   ·refine dt q ?_;refine⟨_,_,_,?_,Wk.mk [2,1,0] [] ?_ ?_ ?_,2,rfl,aa,λ_=>aa,λ_=>aa,rfl,rfl⟩
    ·omega
    ·exact fK
    ·exact asr
    ·simp
  ·have q0:¬y.2<=255:=by have:=g1 aa;omega
   have q1:¬y.2<=65535:=by have:=g2 aa;omega
   refine dt hy3 ?_;exact eY (by simp[h2,Fa,q0,q1]) rfl
 ·rw[if_neg h1] at hlo;subst hlo;by_cases h2:x.2<y.2;rotate_left
  ·refine dw (aU hd (aU h1 h2)) ?_;exact eY (by simp[h2]) rfl
  refine dw (aU hd (aU h1 h2)) ?_;refine GA.loop (I:=λm e H=>∃(k:Nat),m=3-k/\k<=2/\(1<=k->255<y.2)/\(2<=k->65535<y.2)/\e=fu [(2,.p 0 0),(3,.p 1 0),(4,.p 2 0),(23,.agg [aq 255,aq 65535,aq 4294967295]),(24,aq k)]/\H=fi [eZ 0 127 [aq 0,aq 0],eZ 0 127 [aq y.1,aq y.2],eZ 0 127 [aq x.1,aq x.2]]) (Wk.mk [2,1,0] [] ?_ ?_ ?_) ⟨0,rfl,aa,λh=>aa,λh=>aa,rfl,rfl⟩ ?_
  ·exact fK
  ·exact bb
  ·simp
  rintro m e H ⟨k,rfl,hk,g1,g2,rfl,rfl⟩;rcases(show k=0\/k=1\/k=2 by omega) with rfl|rfl|rfl
  ·by_cases q:y.2<=255
   ·refine dt q ?_;exact eY (by simp[h2,Fa,q]) rfl
   ·refine dt q ?_;refine⟨_,_,_,?_,Wk.mk [2,1,0] [] ?_ ?_ ?_,1,rfl,aa,λ_=>aa,λh=>aa,rfl,rfl⟩
    ·omega
    ·exact fK
    ·exact asr
    ·simp
  ·have q0:¬y.2<=255:=by have:=g1 aa;omega
   by_cases q:y.2<=65535
   ·refine dt q ?_;exact eY (by simp[h2,Fa,q0,q]) rfl
   ·refine dt q ?_;refine⟨_,_,_,?_,Wk.mk [2,1,0] [] ?_ ?_ ?_,2,rfl,aa,λ_=>aa,λ_=>aa,rfl,rfl⟩
    ·omega
    ·exact fK
    ·exact asr
    ·simp
  ·have q0:¬y.2<=255:=by have:=g1 aa;omega
   have q1:¬y.2<=65535:=by have:=g2 aa;omega
   refine dt hy3 ?_;exact eY (by simp[h2,Fa,q0,q1]) rfl
theorem DK(a b:Int):kt (binOp .and 0 (.int .u32 a) (.int .u32 b))=some (.n .u32 (an2 a b)):=by
 unfold binOp Op.intBits;simp only[ne_eq,not_true_eq_false,if_false];rfl
theorem DJ(a b:Int):kt (binOp .or 0 (.int .u32 a) (.int .u32 b))=some (.n .u32 (orU a b)):=by
 unfold binOp Op.intBits;simp only[ne_eq,not_true_eq_false,if_false];rfl
theorem vn(a b:Int):kt (binOp .xor 0 (.int .u32 a) (.int .u32 b))=some (.n .u32 (yV a b)):=by
 unfold binOp Op.intBits;simp only[ne_eq,not_true_eq_false,if_false];rfl
theorem DI{k:IntKind}{a b:Int}(h:b≠0):kt (binOp .rem 0 (.int k a) (.int k b))=some (.n k (a.tmod b)):=by
 unfold binOp Op.intDiv;simp only[ne_eq,not_true_eq_false,if_false,if_neg h];rfl
theorem sG{x:Int}(h:0<=x/\x<=4294967295):IntKind.wrap .u32 x=x:=KW h
theorem xG(b:Int)(hb:0<=b):Int.tmod b 32=b%32:=Int.tmod_eq_emod_of_nonneg hb
def mF(f:FuncId)(op:Int):Prop:=∀a b:Int,0<=a/\a<=4294967295->0<=b/\b<=4294967295->((op=11\/op=12)->b≠0)->gw av f [.n .u32 a,.n .u32 b] [.v (.n .u32 (ic op a b))]
theorem anZ:mF 202 8:=λa b ha hb hz=>by
 refine fe fx Yw ⟨ae,ag⟩ ?_;simp only[fy];refine dp ?_;exact dU
theorem anY:mF 203 9:=λa b ha hb hz=>by
 refine fe fx Yt ⟨ae,ag⟩ ?_;simp only[fy];refine dp ?_;exact dU
theorem aa5:mF 204 10:=λa b ha hb hz=>by
 refine fe fx Yq ⟨ae,ag⟩ ?_;simp only[fy];refine dp ?_;exact dU
theorem aa4:mF 205 11:=λa b ha hb hz=>by
 refine fe fx Yn ⟨ae,ag⟩ ?_;simp only[fy];have hz:=hz (.inl rfl);have hd:=nW ha.1 hb.1;have w:IntKind.u32.wrap (Int.tdiv a b)=a / b:=by rw[apO ha.1];exact sG aa
 repeat first|with_reducible refine fj ?_|simp only[lJ hz,hz,if_false,gp,w,go_sem,simprocAttr]
 exact dU
theorem aa3:mF 206 12:=λa b ha hb hz=>by
 refine fe fx Yk ⟨ae,ag⟩ ?_;simp only[fy];have hz:=hz (.inr rfl);have h1:=Int.emod_nonneg a hz;have h2:=aqj a (show 0<b by omega)
 have w:Int.tmod a b=a%b:=Int.tmod_eq_emod_of_nonneg ha.1
 repeat first|with_reducible refine fj ?_|simp only[DI hz,hz,if_false,gp,w,go_sem,simprocAttr]
 exact dU
theorem aa2:mF 207 13:=λa b ha hb hz=>by
 refine fe fx Yh ⟨ae,ag⟩ ?_;simp only[fy];refine du @DK ?_;exact dU
theorem aa1:mF 208 14:=λa b ha hb hz=>by
 refine fe fx Ye ⟨ae,ag⟩ ?_;simp only[fy];refine du @DJ ?_;exact dU
theorem aa0:mF 209 15:=λa b ha hb hz=>by
 refine fe fx Yb ⟨ae,ag⟩ ?_;simp only[fy];refine du @vn ?_;exact dU
theorem aaZ:mF 210 16:=λa b ha hb hz=>by
 refine fe fx X8 ⟨ae,ag⟩ ?_;simp only[fy];have h0:=Int.emod_nonneg b (show(32:Int)≠0 by decide)
 have h1:=aqj b (show(0:Int)<32 by decide)
 have w:Int.tmod b 32=b%32:=xG b hb.1;have hb32:IntKind.u32.bits=32:=rfl
 repeat first|with_reducible refine fj ?_|simp only[gp,w,sS h0,go_sem,simprocAttr]
 exact dU
theorem aaY:mF 211 17:=λa b ha hb hz=>by
 refine fe fx X5 ⟨ae,ag⟩ ?_;simp only[fy];have h0:=Int.emod_nonneg b (show(32:Int)≠0 by decide)
 have h1:=aqj b (show(0:Int)<32 by decide)
 have w:Int.tmod b 32=b%32:=xG b hb.1;have hb32:IntKind.u32.bits=32:=rfl
 repeat first|with_reducible refine fj ?_|simp only[gp,w,gI h0,go_sem,simprocAttr]
 exact dU
theorem aaX:mF 212 18:=λa b ha hb hz=>by
 refine fe fx X2 ⟨ae,ag⟩ ?_;simp only[fy];refine dp ?_;exact dU
theorem aaW:mF 213 19:=λa b ha hb hz=>by
 refine fe fx XZ ⟨ae,ag⟩ ?_;simp only[fy];refine dp ?_;exact dU
theorem aaV:mF 214 20:=λa b ha hb hz=>by
 refine fe fx XW ⟨ae,ag⟩ ?_;simp only[fy];have h16:(0:Int)<=16:=ag;have hb32:IntKind.u32.bits=32:=rfl;have e16':(2:Int)^min (Int.toNat 16) IntKind.u32.bits=65536:=ag
 repeat first|with_reducible refine fj ?_|simp only[vn,gI h16,go_sem,simprocAttr]
 have x:∀a b,bits .xor .u32 a b=yV a b:=λ_ _=>rfl;have e:(2:Int)^min 16 32=65536:=ag;have z:ic 20 a b=Ba a b:=by simp[ic]
 rw[z];simp only[x,e];exact dU
/-! ### the length of a number-/
def lgP(n L:Nat):Prop:=n<2^L/\(L=0\/2^(L-1)<=n)
instance (n L:Nat):Decidable (lgP n L):=inferInstanceAs (Decidable (_/\_))
def lgB:Bool:=(List.range 256).all λj=>decide (lgP j (sO j).toNat)
theorem aaB:lgB=true:=by kernel_rfl
theorem EU{j:Nat}(h:j<256):lgP j (sO j).toNat:=of_decide_eq_true (apr.1 aaB j (List.mem_range.2 h))
theorem A0{n L:Nat}(k:Nat)(h:lgP (n / 2^k) L)(hn:2^k<=n):lgP n (L+k):=by
 obtain⟨h1,h2⟩:=h;have hp:0<2^k:=Nat.two_pow_pos k;have h3:1<=n / 2^k:=(Nat.le_div_iff_mul_le hp).2 aa;have h4:L≠0:=λe=>by subst e;simp at h1;omega
 refine⟨?_,.inr ?_⟩
 ·rw[Nat.pow_add];exact(Nat.div_lt_iff_lt_mul hp).1 h1
 ·have:=(Nat.le_div_iff_mul_le hp).1 (h2.resolve_left h4);rw[show L+k-1=(L-1)+k by omega,Nat.pow_add]
  exact this
theorem anG{y:Nat}(h:y<65536)(n:Int):∃L:Nat,qz y n=n+L/\lgP y L:=by
 unfold qz;by_cases g:256<=(y:Int)
 ·rw[if_pos g];obtain⟨c,_,_,q1,q2⟩:=qh (y / 256) aa;refine⟨(sO (y / 256)).toNat+8,?_,A0 8 (EU aa) aa⟩;rw[show((y:Int) / 256).toNat=y / 256 by omega]
  omega
 ·rw[if_neg g];obtain⟨c,_,_,q1,q2⟩:=qh y aa;exact⟨(sO y).toNat,by rw[apw];omega,EU aa⟩
theorem avD{y:Nat}(h:y<4294967296):∃L:Nat,k8 y=L/\lgP y L:=by
 unfold k8 tn;rw[if_neg aa];by_cases g:65536<=(y:Int)
 ·rw[if_pos g];obtain⟨L,h1,h2⟩:=anG (y:=y / 65536) aa (0+16);exact⟨L+16,by rw[show(y:Int) / 65536=((y / 65536:Nat):Int) by omega,h1];omega,A0 16 h2 aa⟩
 ·rw[if_neg g];obtain⟨L,h1,h2⟩:=anG (y:=y) aa 0;exact⟨L,by rw[h1];omega,h2⟩
theorem Ee{n:Int}(h:0<=n/\n<=4294967295):∃L:Nat,k8 n=L/\L<=32/\(2:Int)^L-1=iU n:=by
 obtain⟨y,rfl⟩:∃y:Nat,n=y:=⟨n.toNat,aa⟩;obtain⟨L,h1,h2,h3⟩:=avD (y:=y) aa;have hL:L<=32:=by
  rcases h3 with h3|h3
  ·omega
  ·apply Nat.le_of_not_lt;intro hlt;have:2^32<=2^(L-1):=aqi ag aa;omega
 refine⟨L,h1,hL,?_⟩;unfold iU;by_cases hy:(y:Int)=0
 ·rw[if_pos hy];obtain rfl:y=0:=aa;have:L=0:=by
   rcases h3 with h3|h3
   ·exact h3
   ·have:=Nat.two_pow_pos (L-1);omega
  subst this;rfl
 ·rw[if_neg hy,apw];have h4:L≠0:=λe=>by subst e;simp at h2;omega
  have:y.log2=L-1:=(Nat.log2_eq_iff aa).2 ⟨h3.resolve_left h4,by rw[show L-1+1=L by omega];exact h2⟩
  rw[this,show L-1+1=L by omega]
theorem xB(n:Int)(h:0<=n/\n<=4294967295):gw av 228 [aq n] [.v (aq (iU n))]:=by
 refine fe fx Yz ⟨ae,ag⟩ ?_;simp only[fy];obtain⟨L,h1,h2,h3⟩:=Ee h;obtain⟨_,ho⟩:=AD h;have hw:IntKind.u64.wrap n=n:=by rw[IntKind.wrap_u64];omega
 refine du hw ?_;refine gf (F:=[.n .u64 n]) (A1 n h.1 aa) ?_;rw[h1];have h0:(0:Int)<=(L:Int):=aa;have e:min L 64=L:=aa;have w1:IntKind.i64.wrap (1*2^L)=iU n+1:=by rw[Int.one_mul,<-h3,ff aa];omega
 have w2:IntKind.i64.wrap (iU n+1-1)=iU n:=(ff aa).trans aa;have w3:IntKind.i64.wrap (2^L)=iU n+1:=by rw[<-h3,ff aa];omega
 repeat first|with_reducible refine fj ?_|simp only[sS h0,apw,e,w1,w2,w3,go_sem,simprocAttr]
 exact eY (by first|rfl|(rw[w1,w2])|(rw[w3,w2])|skip) rfl
theorem rJ(l h:Int)(hb: -8589934592<=l/\h<=36893488147419103232/\l<=8589934592/\h<=8589934592/\ -8589934592<=h):gw av 227 [aq l,aq h] [.v (iv (iP l h))]:=by
 refine fe fx YI ⟨ae,ag⟩ ?_;simp only[fy,iv];have w1:IntKind.i64.wrap (l-4294967295)=l-4294967295:=ff aa;have w2:IntKind.i64.wrap (l-4294967295-1)=l-4294967296:=(ff aa).trans aa;have w3:IntKind.i64.wrap (h-4294967295)=h-4294967295:=ff aa;have w4:IntKind.i64.wrap (h-4294967295-1)=h-4294967296:=(ff aa).trans aa;have w5:IntKind.i64.wrap (l+4294967295)=l+4294967295:=ff aa;have w6:IntKind.i64.wrap (l+4294967295+1)=l+4294967296:=(ff aa).trans aa;have w7:IntKind.i64.wrap (h+4294967295)=h+4294967295:=ff aa;have w8:IntKind.i64.wrap (h+4294967295+1)=h+4294967296:=(ff aa).trans aa;have full:(iv (0,4294967295))= .agg [aq 0,aq 4294967295]:=rfl;by_cases h0:0<=l
 ·by_cases h1:h<=4294967295
  ·refine dt (aU h0 h1) ?_;exact eY (by simp[iP,h0,h1]) rfl
  ·by_cases h2:4294967295<l
   ·refine dA (aU h0 (aU h1 (aU h2 (aU w1 (aU w2 (aU w3 w4)))))) ?_;exact eY (by simp[iP,h0,h1,h2]) rfl
   ·have h3:¬h<0:=aa;refine dA (aU h0 (aU h1 (aU h2 h3))) ?_;refine gf jc ?_;rw[full];refine dp ?_;exact eY (by simp[iP,h0,h1,h2,h3]) rfl
 ·have h2:¬4294967295<l:=aa;by_cases h3:h<0
  ·refine dA (aU h0 (aU h2 (aU h3 (aU w5 (aU w6 (aU w7 w8)))))) ?_;exact eY (by simp[iP,h0,h2,h3]) rfl
  ·refine dA (aU h0 (aU h2 h3)) ?_;refine gf jc ?_;rw[full];refine dp ?_;exact eY (by simp[iP,h0,h2,h3]) rfl
/-! ### each rule-/
def qr(x y:Iv):AV:= .agg [aq x.1,aq x.2,aq y.1,aq y.2]
def mE(f:FuncId)(op:Int):Prop:=∀x y:Iv,iJ x->iJ y->((op=11\/op=12)->y.1≠0)->gw av f [qr x y] [.v (iv (gg op x y))]
theorem am7:mE 187 8:=λx y hx hy hz=>by
 refine fe fx abH ⟨ae,ag⟩ ?_;obtain⟨a,b⟩:=x;obtain⟨c,d⟩:=y;obtain⟨hx1,hx2,hx3⟩:=hx;obtain⟨hy1,hy2,hy3⟩:=hy;dsimp only at*;simp only[fy,qr,iv];have w1:IntKind.i64.wrap (a+c)=a+c:=ff aa;have w2:IntKind.i64.wrap (b+d)=b+d:=ff aa;refine du (aU w1 w2) ?_;refine gf (F:=[aq (a+c),aq (b+d)]) (rJ (a+c) (b+d) aa) ?_;simp only[iv];refine dp ?_;exact dU
theorem am6:mE 188 9:=λx y hx hy hz=>by
 refine fe fx abE ⟨ae,ag⟩ ?_;obtain⟨a,b⟩:=x;obtain⟨c,d⟩:=y;obtain⟨hx1,hx2,hx3⟩:=hx;obtain⟨hy1,hy2,hy3⟩:=hy;dsimp only at*;simp only[fy,qr,iv];have w1:IntKind.i64.wrap (a-d)=a-d:=ff aa;have w2:IntKind.i64.wrap (b-c)=b-c:=ff aa;refine du (aU w1 w2) ?_;refine gf (F:=[aq (a-d),aq (b-c)]) (rJ (a-d) (b-c) aa) ?_;simp only[iv];refine dp ?_;exact dU
theorem ZJ:mE 189 10:=λx y hx hy hz=>by
 refine fe fx abA ⟨ae,ag⟩ ?_;obtain⟨a,b⟩:=x;obtain⟨c,d⟩:=y;obtain⟨hx1,hx2,hx3⟩:=hx;obtain⟨hy1,hy2,hy3⟩:=hy;dsimp only at*;simp only[fy,qr,iv];by_cases h0:0<d
 ·have hz0:d≠0:=aa;have w:IntKind.i64.wrap (Int.tdiv 4294967295 d)=4294967295 / d:=by
   rw[apO ag];have:=nW (a:=4294967295) (b:=d) ag aa;exact ff aa
  by_cases h1:4294967295 / d<b
  ·repeat first|with_reducible refine fj ?_|simp only[h0,lJ hz0,hz0,if_false,gp,w,h1,gt_iff_lt,aQ,go_sem,simprocAttr]
   refine gf jc ?_;simp only[iv];refine dp ?_;exact eY (by simp[gg,h0,h1]) rfl
  ·have hbd:b*d<=4294967295:=(Int.le_ediv_iff_mul_le h0).1 (Int.not_lt.1 h1);have hac:a*c<=b*d:=Int.mul_le_mul hx2 hy2 hy1 aa;have hac0:0<=a*c:=apY hx1 hy1;have w1:IntKind.i64.wrap (a*c)=a*c:=ff aa;have w2:IntKind.i64.wrap (b*d)=b*d:=ff aa
   repeat first|with_reducible refine fj ?_|simp only[h0,lJ hz0,hz0,if_false,gp,w,h1,w1,w2,gt_iff_lt,aQ,go_sem,simprocAttr]
   exact eY (by simp[gg,h0,h1]) rfl
 ·have hd:d=0:=aa;have hc:c=0:=aa;subst hd;subst hc;have w0:IntKind.i64.wrap 0=0:=rfl
  repeat first|with_reducible refine fj ?_|simp only[h0,gt_iff_lt,Int.mul_zero,w0,aQ,go_sem,simprocAttr]
  exact eJ
theorem ZI:mE 190 11:=λx y hx hy hz=>by
 refine fe fx abv ⟨ae,ag⟩ ?_;obtain⟨a,b⟩:=x;obtain⟨c,d⟩:=y;obtain⟨hx1,hx2,hx3⟩:=hx;obtain⟨hy1,hy2,hy3⟩:=hy;dsimp only at*;simp only[fy,qr,iv];have hc0:=hz (.inl rfl);have hd0:d≠0:=aa;have w1:IntKind.i64.wrap (Int.tdiv a d)=a / d:=by
  rw[apO hx1];have:=nW hx1 (show 0<=d by omega)
  exact ff aa
 have w2:IntKind.i64.wrap (Int.tdiv b c)=b / c:=by
  rw[apO aa];have:=nW (show 0<=b by omega) hy1
  exact ff aa
 refine dB (aU hc0 (aU hd0 (aU @gp (aU w1 w2)))) ?_;exact eJ
theorem ZH:mE 191 12:=λx y hx hy hz=>by
 refine fe fx abt ⟨ae,ag⟩ ?_;obtain⟨a,b⟩:=x;obtain⟨c,d⟩:=y;obtain⟨hx1,hx2,hx3⟩:=hx;obtain⟨hy1,hy2,hy3⟩:=hy;dsimp only at*;simp only[fy,qr,iv];have w:IntKind.i64.wrap (d-1)=d-1:=ff aa;by_cases h:b<c
 ·refine dq h ?_;exact eY (by simp[gg,h]) rfl
 ·refine dq (aU h w) ?_;exact eY (by simp[gg,h,jT]) rfl
theorem ZG:mE 192 13:=λx y hx hy hz=>by
 refine fe fx Zi ⟨ae,ag⟩ ?_;obtain⟨a,b⟩:=x;obtain⟨c,d⟩:=y;obtain⟨hx1,hx2,hx3⟩:=hx;obtain⟨hy1,hy2,hy3⟩:=hy;dsimp only at*;simp only[fy,qr,iv];refine dp ?_;exact eY (by simp[gg,jT]) rfl
theorem ZF:mE 193 14:=λx y hx hy hz=>by
 refine fe fx Ze ⟨ae,ag⟩ ?_;obtain⟨a,b⟩:=x;obtain⟨c,d⟩:=y;obtain⟨hx1,hx2,hx3⟩:=hx;obtain⟨hy1,hy2,hy3⟩:=hy;dsimp only at*;simp only[fy,qr,iv];have hm:0<=fA b d/\fA b d<=4294967295:=by unfold fA;split<;>omega
 have e:(if b<d then d else b)=fA b d:=rfl
 have e2:(if a<c then c else a)=fA a c:=rfl
 have fin:(AV.agg [aq (fA a c),aq (iU (fA b d))])= .agg [aq (gg 14 (a,b) (c,d)).1,aq (gg 14 (a,b) (c,d)).2]:=rfl
 (try simp only[go_sem,simprocAttr])
 iterate 3 (with_reducible refine GA.go fx rfl ?_;try simp only[go_sem,simprocAttr])
 refine GA.frkm fx 1 eL ?_
 refine bc (aU e e2) ?_
 repeat' with_reducible refine fE ?_ ?_
 all_goals
  refine gf (F:=[aq (fA b d)]) (xB _ hm) ?_;refine bc (aU e e2) ?_
  repeat' with_reducible refine fE ?_ ?_
 all_goals
  refine du (aU e e2) ?_
  first
   |decide
   |exact eY fin rfl
theorem ZE:mE 194 15:=λx y hx hy hz=>by
 refine fe fx Zb ⟨ae,ag⟩ ?_;obtain⟨a,b⟩:=x;obtain⟨c,d⟩:=y;obtain⟨hx1,hx2,hx3⟩:=hx;obtain⟨hy1,hy2,hy3⟩:=hy;dsimp only at*;simp only[fy,qr,iv];have hm:0<=fA b d/\fA b d<=4294967295:=by unfold fA;split<;>omega
 have e:(if b<d then d else b)=fA b d:=rfl
 refine du e ?_;refine gf (F:=[aq (fA b d)]) (xB _ hm) ?_;refine dp ?_;exact eJ
theorem ZD:mE 195 16:=λx y hx hy hz=>by
 refine fe fx Y6 ⟨ae,ag⟩ ?_;obtain⟨a,b⟩:=x;obtain⟨c,d⟩:=y;obtain⟨hx1,hx2,hx3⟩:=hx;obtain⟨hy1,hy2,hy3⟩:=hy;dsimp only at*;simp only[fy,qr,iv];have h0:=Int.emod_nonneg c (show(32:Int)≠0 by decide)
 have h1:=aqj c (show(0:Int)<32 by decide)
 have w:Int.tmod c 32=c%32:=xG c hy1;obtain⟨s,hs⟩:∃s:Nat,c%32=s:=⟨(c%32).toNat,aa⟩;have hs32:s<32:=aa;rw[hs] at w;have hsn:(0:Int)<=(s:Int):=aa;have e:min s 64=s:=aa;have pw:∀n:Nat,n<32->(1:Int)<=2^n/\(2:Int)^n<=2147483648:=λn hn=>by
  have h1:1<=2^n:=Nat.one_le_two_pow;have h2:2^n<=2^31:=aqi ag aa;have e:(2:Int)^n=((2^n:Nat):Int):=by rw[Int.natCast_pow];rfl
  omega
 obtain⟨p1,p2⟩:=pw s hs32;obtain⟨p,hp⟩:∃p:Int,p=2^s:=⟨_,rfl⟩;have hp':(2:Int)^(min s 64)=p:=by rw[e,hp]
 have er:gg 16 (a,b) (c,d)=if c≠d\/4294967295 / p<b then(0,4294967295) else(a*p,b*p):=by
  simp[gg,hs,hp]
 rw[<-hp] at p1 p2;have w4:Int.fdiv 4294967295 p=4294967295 / p:=Int.fdiv_eq_ediv_of_nonneg _ aa;by_cases g:c=d;rotate_left
 ·refine dq (aU w g) ?_;refine gf jc ?_;simp only[iv];refine dp ?_;exact eY (by rw[er,if_pos (.inl g)]) rfl
 subst g;by_cases g1:4294967295 / p<b
 ·repeat first|with_reducible refine fj ?_|simp only[w,gI hsn,apw,e,<-hp,w4,g1,gt_iff_lt,aQ,go_sem,simprocAttr]
  refine gf jc ?_;simp only[iv];refine dp ?_;exact eY (by rw[er,if_pos (.inr g1)]) rfl
 have hbp:b*p<=4294967295:=(Int.le_ediv_iff_mul_le aa).1 (Int.not_lt.1 g1);have hap:a*p<=b*p:=Int.mul_le_mul_of_nonneg_right hx2 aa;have hap0:0<=a*p:=apY hx1 aa;have w1:IntKind.i64.wrap (a*p)=a*p:=ff aa;have w2:IntKind.i64.wrap (b*p)=b*p:=ff aa
 repeat first|with_reducible refine fj ?_|simp only[w,gI hsn,sS hsn,apw,e,<-hp,w4,w1,w2,g1,gt_iff_lt,aQ,go_sem,simprocAttr]
 exact eY (by rw[er,if_neg (by simp;omega)]) rfl
theorem ZC:mE 196 17:=λx y hx hy hz=>by
 refine fe fx YX ⟨ae,ag⟩ ?_;obtain⟨a,b⟩:=x;obtain⟨c,d⟩:=y;obtain⟨hx1,hx2,hx3⟩:=hx;obtain⟨hy1,hy2,hy3⟩:=hy;dsimp only at*;simp only[fy,qr,iv];have pw:∀n:Nat,n<32->(1:Int)<=2^n/\(2:Int)^n<=2147483648:=λn hn=>by
  have h1:1<=2^n:=Nat.one_le_two_pow;have h2:2^n<=2^31:=aqi ag aa;have e:(2:Int)^n=((2^n:Nat):Int):=by rw[Int.natCast_pow];rfl
  omega
 have fd:∀(x:Int) (n:Nat),Int.fdiv x (2^n)=x / 2^n:=λx n=>Int.fdiv_eq_ediv_of_nonneg _ (Int.le_of_lt (qg _));by_cases h1:d<=31
 ·have hcn:0<=c:=hy1;have hdn:0<=d:=aa;have e1:min c.toNat 64=c.toNat:=aa;have e2:min d.toNat 64=d.toNat:=aa
  repeat first|with_reducible refine fj ?_|simp only[h1,gI hcn,gI hdn,e1,e2,fd,aQ,go_sem,simprocAttr]
  exact eY (by simp[gg,h1]) rfl
 by_cases h2:c=d
 ·subst h2;have g0:=Int.emod_nonneg c (show(32:Int)≠0 by decide)
  have g1:=aqj c (show(0:Int)<32 by decide)
  have w:Int.tmod c 32=c%32:=xG c hy1;have e1:min (c%32).toNat 64=(c%32).toNat:=aa
  repeat first|with_reducible refine fj ?_|simp only[h1,w,gI g0,e1,fd,aQ,go_sem,simprocAttr]
  exact eY (by simp[gg,h1]) rfl
 ·refine dq (aU h1 h2) ?_;exact eY (by simp[gg,h1,h2]) rfl
theorem ZB:mE 197 18:=λx y hx hy hz=>by
 refine fe fx YS ⟨ae,ag⟩ ?_;obtain⟨a,b⟩:=x;obtain⟨c,d⟩:=y;obtain⟨hx1,hx2,hx3⟩:=hx;obtain⟨hy1,hy2,hy3⟩:=hy;dsimp only at*;simp only[fy,qr,iv];refine dp ?_;exact eY (by simp[gg,jT]) rfl
theorem ZA:mE 198 19:=λx y hx hy hz=>by
 refine fe fx YP ⟨ae,ag⟩ ?_;obtain⟨a,b⟩:=x;obtain⟨c,d⟩:=y;obtain⟨hx1,hx2,hx3⟩:=hx;obtain⟨hy1,hy2,hy3⟩:=hy;dsimp only at*;simp only[fy,qr,iv];refine dp ?_;exact eY (by simp[gg,fA]) rfl
theorem Zz:mE 199 20:=λx y hx hy hz=>by
 refine fe fx YM ⟨ae,ag⟩ ?_;obtain⟨a,b⟩:=x;obtain⟨c,d⟩:=y;obtain⟨hx1,hx2,hx3⟩:=hx;obtain⟨hy1,hy2,hy3⟩:=hy;dsimp only at*;simp only[fy,qr,iv];refine dp ?_;refine gf jc ?_;simp only[iv];refine dp ?_;exact eJ
theorem jx{a b x y:AV}{H:AH}(h:a=x)(hp:x.pu 3=true)(h':b=y)(hp':y.pu 3=true):∃l1,AV.tup [a,b]=gD l1/\qP [.v x,.v y] l1 H:=⟨[a,b],rfl,⟨h,hp⟩,⟨h',hp'⟩,trivial⟩
theorem Ay(x:nG)(k:Int)(v:AV):(x.put k v).own=x.own:=id rfl
theorem xN{x:nG}{k:Int}{g:FuncId}(h:x.get k=some (.f g [] [])):x.look true .f0 k= .tup [.f g [] [],.b true]:=by
 unfold nG.look;rw[h];rfl
def abe(C:FuncId->Int->Prop)(_:Nat->Option OB)(rs:List RT)(N:Nat->Option OB):Prop:=∃r x,rs=[.v (.cv (.map (some r)))]/\N r=some (.mp x)/\∀op,8<=op->op<=20->∃g,x.get op=some (.f g [] [])/\C g op
theorem FL{C:FuncId->Int->Prop}{r:Nat}{x:nG}{H:AH}{M:Nat->Option OB}(hob:H.ob r=some (.mp x))(ho:x.own=true)(hP:∀op,8<=op->op<=20->∃g,x.get op=some (.f g [] [])/\C g op):∃(rs:List RT) (N:Nat->Option OB) (l:List AV),abe C M rs N/\gD [.cv (.map (some r))]=gD l/\qP rs l H/\∀r x,N r=some x->H.ob r=some x/\D9 x=true:=
 ⟨_,λr'=>if r'=r then some (.mp x) else none,_,⟨r,x,rfl,if_pos rfl,hP⟩,rfl,⟨⟨rfl,rfl⟩,trivial⟩,λr' y h=>by
  replace h:(if r'=r then some (OB.mp x) else none)=some y:=h
  by_cases e:r'=r
  ·subst e;rw[if_pos rfl] at h;cases h;exact⟨hob,ho⟩
  ·rw[if_neg e] at h;cases h⟩
theorem BH:Df av 174 [] (λ_=>True) (abe mE):=by
 refine sD fx afT ⟨ae,ag⟩ λM _=>?_;simp only[fy];refine dp ?_;refine vL λr hr=>?_;refine du @Ay ?_;refine FL (x:=?x) ?h ?o λop h1 h2=>?_
 case h=>simp only[go_sem,simprocAttr]<;>rfl
 case o=>rfl
 rcases(show op=8\/op=9\/op=10\/op=11\/op=12\/op=13\/op=14\/op=15\/op=16\/op=17\/op=18\/op=19\/op=20 by omega) with rfl|rfl|rfl|rfl|rfl|rfl|rfl|rfl|rfl|rfl|rfl|rfl|rfl
 ·exact⟨_,rfl,am7⟩
 ·exact⟨_,rfl,am6⟩
 ·exact⟨_,rfl,ZJ⟩
 ·exact⟨_,rfl,ZI⟩
 ·exact⟨_,rfl,ZH⟩
 ·exact⟨_,rfl,ZG⟩
 ·exact⟨_,rfl,ZF⟩
 ·exact⟨_,rfl,ZE⟩
 ·exact⟨_,rfl,ZD⟩
 ·exact⟨_,rfl,ZC⟩
 ·exact⟨_,rfl,ZB⟩
 ·exact⟨_,rfl,ZA⟩
 ·exact⟨_,rfl,Zz⟩
theorem zR:Df av 179 [] (λ_=>True) (abe mF):=by
 refine sD fx afH ⟨ae,ag⟩ λM _=>?_;simp only[fy];refine dp ?_;refine vL λr hr=>?_;refine du @Ay ?_;refine FL (x:=?x) ?h ?o λop h1 h2=>?_
 case h=>simp only[go_sem,simprocAttr]<;>rfl
 case o=>rfl
 rcases(show op=8\/op=9\/op=10\/op=11\/op=12\/op=13\/op=14\/op=15\/op=16\/op=17\/op=18\/op=19\/op=20 by omega) with rfl|rfl|rfl|rfl|rfl|rfl|rfl|rfl|rfl|rfl|rfl|rfl|rfl
 ·exact⟨_,rfl,anZ⟩
 ·exact⟨_,rfl,anY⟩
 ·exact⟨_,rfl,aa5⟩
 ·exact⟨_,rfl,aa4⟩
 ·exact⟨_,rfl,aa3⟩
 ·exact⟨_,rfl,aa2⟩
 ·exact⟨_,rfl,aa1⟩
 ·exact⟨_,rfl,aa0⟩
 ·exact⟨_,rfl,aaZ⟩
 ·exact⟨_,rfl,aaY⟩
 ·exact⟨_,rfl,aaX⟩
 ·exact⟨_,rfl,aaW⟩
 ·exact⟨_,rfl,aaV⟩
theorem tz(op a b:Int)(h1:8<=op)(h2:op<=20)(ha:0<=a/\a<=4294967295)(hb:0<=b/\b<=4294967295)(hz:(op=11\/op=12)->b≠0):gw av 152 [aq op,.n .u32 a,.n .u32 b] [.v (.n .u32 (ic op a b)),.v (aq 0)]:=by
 refine fe fx afP ⟨ae,ag⟩ ?_;simp only[fy];refine dp ?_;refine jW [] (fargs:=[]) (ja.same rfl) zR True.intro ah ?_;rintro rs N ⟨r,x,rfl,hN,hF⟩ hfree;obtain⟨g,hg,hC⟩:=hF op h1 h2;have hN1:Gj (fi []).ob N r=some (.mp x):=(t7 rfl).trans hN;have hl:=xN hg;by_cases hb0:b=0
 ·have h11:¬op=11:=λe=>hz (.inl e) hb0;have h12:¬op=12:=λe=>hz (.inr e) hb0;subst hb0;refine dq (aU hN (aU hN1 (aU hl (aU h11 h12)))) ?_;refine gf (hC a 0 ha hb hz) ?_;refine dp ?_;exact jx rfl rfl rfl rfl
 ·refine dq (aU hN (aU hN1 (aU hl hb0))) ?_;refine gf (hC a b ha hb hz) ?_;refine dp ?_;exact jx rfl rfl rfl rfl
theorem lt2a{i:Nat}(h:i<2):i=0\/i=1:=aa
theorem lt4a{i:Nat}(h:i<4):i=0\/i=1\/i=2\/i=3:=aa
theorem xV(op:Int)(h1:8<=op)(h2:op<=20)(x y:Iv)(hx:iJ x)(hy:iJ y):gw av 127 [aq op,iv x,iv y] [.v (iv (fZ op x y).1),.v (aq (fZ op x y).2)]:=by
 refine fe fx af2 ⟨ae,ag⟩ ?_;have hkx:=nY.2 hx;have hky:=nY.2 hy;have wx:IntKind.u32.wrap x.1=x.1:=sG aa;have wy:IntKind.u32.wrap y.1=y.1:=sG aa;simp only[fy,iv];refine dp ?_;refine GA.loop (I:=λm e H=>∃k:Nat,m=2-k/\k<=2/\e=fu [(0,aq op),(4,.p 0 0),(5,.p 1 0),(6,.p 2 0),(17,.sl 3 0 2 2),(18,aq 2),(19,aq k)]/\H=fi [eZ 2 127 [aq x.1,aq x.2,aq y.1,aq y.2],eZ 0 127 [aq 0,aq 0],eZ 0 127 [aq y.1,aq y.2],eZ 0 127 [aq x.1,aq x.2]]) (Wk.mk [3,2,1,0] [] ?_ ?_ ?_) ⟨0,rfl,aa,rfl,rfl⟩ ?_
 ·exact fK
 ·exact bb
 ·simp
 rintro m e H ⟨k,rfl,hk,rfl,rfl⟩;rcases(show k=0\/k=1\/k=2 by omega) with rfl|rfl|rfl
 ·refine dp ?_;refine gf (pe x) ?_;refine dx hkx ?_;refine⟨_,_,_,?_,Wk.mk [3,2,1,0] [] ?_ ?_ ?_,1,rfl,aa,rfl,rfl⟩
  ·omega
  ·exact fK
  ·exact asu
  ·simp
 ·refine dp ?_;refine gf (pe y) ?_;refine dx hky ?_;refine⟨_,_,_,?_,Wk.mk [3,2,1,0] [] ?_ ?_ ?_,2,rfl,aa,rfl,rfl⟩
  ·omega
  ·exact fK
  ·exact asu
  ·simp
 refine dp ?_;refine jW [] (fargs:=[]) (ja.same rfl) BH True.intro ah ?_;rintro rs N ⟨r,mx,rfl,hN,hF⟩ hfree;obtain⟨g,hg,hC⟩:=hF op h1 h2;have hl:=xN hg;have hN1:∀bl,Gj (fi bl).ob N r=some (.mp mx):=λbl=>(t7 (by rw[sy])).trans hN
 by_cases hz:y.1=0/\(op=11\/op=12)
 ·have hA:fZ op x y=((0,0),17):=by unfold fZ;rw[if_pos hz]
  have z0:=eq_true hz.1;rcases hz.2 with e|e
  ·exact eM
  ·exact eM
 by_cases z0:y.1=0
 ·have z1:=eq_true z0;have n11:¬op=11:=λe=>hz ⟨z0,.inl e⟩;have n12:¬op=12:=λe=>hz ⟨z0,.inr e⟩;by_cases c1:x.1=x.2
  ·have c1':=eq_true c1;by_cases c2:y.1=y.2
   ·have c2':=eq_true c2;have hA:fZ op x y=((ic op x.1 y.1,ic op x.1 y.1),0):=by unfold fZ;rw[if_neg hz,if_pos ⟨c1,c2⟩]
    refine dq (aU hN1 (aU hl (aU z1 (aU n11 (aU n12 (aU c1' (aU c2' (aU wx wy)))))))) ?_;refine gf (F:=[aq op,.n .u32 x.1,.n .u32 y.1]) (tz op x.1 y.1 h1 h2 ⟨hx.1,aa⟩ ⟨hy.1,aa⟩ (λh e=>hz ⟨e,h⟩)) ?_;refine dp ?_;refine gf (F:=[.n .u32 (ic op x.1 y.1)]) (mA _ (pk ⟨h1,h2⟩ ⟨hx.1,aa⟩ ⟨hy.1,aa⟩ (λe=>⟨λh=>hz ⟨e,.inl h⟩,λh=>hz ⟨e,.inr h⟩⟩))) ?_;simp only[iv];refine dp ?_;rw[hA];exact jx rfl rfl rfl rfl
   ·have hA:fZ op x y=(gg op x y,0):=by unfold fZ;rw[if_neg hz,if_neg (λh=>c2 h.2)]
    refine dq (aU hN1 (aU hl (aU z1 (aU n11 (aU n12 (aU c1' c2)))))) ?_;refine gf (hC x y hx hy (λh e=>hz ⟨e,h⟩)) ?_;simp only[iv];refine dp ?_;rw[hA];exact jx rfl rfl rfl rfl
  ·have hA:fZ op x y=(gg op x y,0):=by unfold fZ;rw[if_neg hz,if_neg (λh=>c1 h.1)]
   refine dq (aU hN1 (aU hl (aU z1 (aU n11 (aU n12 c1))))) ?_;refine gf (hC x y hx hy (λh e=>hz ⟨e,h⟩)) ?_;simp only[iv];refine dp ?_;rw[hA];exact jx rfl rfl rfl rfl
 ·by_cases c1:x.1=x.2
  ·have c1':=eq_true c1;by_cases c2:y.1=y.2
   ·have c2':=eq_true c2;have hA:fZ op x y=((ic op x.1 y.1,ic op x.1 y.1),0):=by unfold fZ;rw[if_neg hz,if_pos ⟨c1,c2⟩]
    refine dq (aU hN1 (aU hl (aU z0 (aU c1' (aU c2' (aU wx wy)))))) ?_;refine gf (F:=[aq op,.n .u32 x.1,.n .u32 y.1]) (tz op x.1 y.1 h1 h2 ⟨hx.1,aa⟩ ⟨hy.1,aa⟩ (λh e=>hz ⟨e,h⟩)) ?_;refine dp ?_;refine gf (F:=[.n .u32 (ic op x.1 y.1)]) (mA _ (pk ⟨h1,h2⟩ ⟨hx.1,aa⟩ ⟨hy.1,aa⟩ (λe=>⟨λh=>hz ⟨e,.inl h⟩,λh=>hz ⟨e,.inr h⟩⟩))) ?_;simp only[iv];refine dp ?_;rw[hA];exact jx rfl rfl rfl rfl
   ·have hA:fZ op x y=(gg op x y,0):=by unfold fZ;rw[if_neg hz,if_neg (λh=>c2 h.2)]
    refine dq (aU hN1 (aU hl (aU z0 (aU c1' c2)))) ?_;refine gf (hC x y hx hy (λh e=>hz ⟨e,h⟩)) ?_;simp only[iv];refine dp ?_;rw[hA];exact jx rfl rfl rfl rfl
  ·have hA:fZ op x y=(gg op x y,0):=by unfold fZ;rw[if_neg hz,if_neg (λh=>c1 h.1)]
   refine dq (aU hN1 (aU hl (aU z0 c1))) ?_;refine gf (hC x y hx hy (λh e=>hz ⟨e,h⟩)) ?_;simp only[iv];refine dp ?_;rw[hA];exact jx rfl rfl rfl rfl
def vl(v:Vl):AV:= .agg [.b v.1,aq v.2.1,aq v.2.2]
def jo(b:Bd):AV:= .agg [aq b.1,aq b.2]
abbrev jY(b:Bd):Prop:=(0<=b.1/\b.1<=281474976710657)/\0<=b.2/\b.2<=281474976710657
theorem v7{b c:Bd}(hb:jY b)(hc:jY c):jY (gh b c):=⟨fH aa,fH aa⟩
theorem yx{b:Bd}{n:Int}(hb:jY b)(hn:0<=n):jY (jt b n):=⟨hJ (fH aa).1 hn,hJ hb.2.1 hn⟩
theorem mS(x:Iv):gw av 125 [iv x] [.v (vl (false,x))]:=by
 refine fe fx agA ⟨ae,ag⟩ ?_;simp only[fy,iv,vl];refine dp ?_;exact dU
theorem oY(b c:Bd)(hb:jY b)(hc:jY c):gw av 90 [jo b,jo c] [.v (jo (gh b c))]:=by
 refine fe fx ahF ⟨ae,ag⟩ ?_;simp only[fy,jo];have w1:IntKind.i64.wrap (b.1+c.1)=b.1+c.1:=ff aa;have w2:IntKind.i64.wrap (b.2+c.2)=b.2+c.2:=ff aa;refine du (aU w1 w2) ?_;exact dU
theorem rH(a n:Int)(ha:0<=a/\a<=281474976710657)(hn:0<=n/\n<=65536):gw av 173 [aq a,.fp 1 (λ_=> aq n) 0] [.v (aq (fN a n))]:=by
 refine fe fx agU ⟨ae,ag⟩ ?_;simp only[fy];have hd:=nW (a:=281474976710657) (b:=n) ag hn.1;have w1:IntKind.i64.wrap (Int.tdiv 281474976710657 n)=281474976710657 / n:=by rw[apO ag];exact ff aa
 by_cases h0:0<n
 ·have hz:n≠0:=aa;by_cases hc:281474976710657 / n<a
  ·exact eN
  ·have hle:a*n<=281474976710657:=(Int.le_ediv_iff_mul_le h0).1 (Int.not_lt.1 hc);have hp:0<=a*n:=apY ha.1 hn.1;have w2:IntKind.i64.wrap (a*n)=a*n:=ff aa;refine dC (aU h0 (aU hz (aU @gp (aU w1 (aU hc w2))))) ?_;exact eY (by rw[show fN a n=gi (a*n) from if_neg (λh=>hc h.2)];rfl) rfl
 ·have hz:n=0:=aa;subst hz;have w0:IntKind.i64.wrap 0=0:=rfl
  repeat first|with_reducible refine fj ?_|simp only[h0,gt_iff_lt,Int.mul_zero,w0,aQ,go_sem,simprocAttr]
  exact eY (by rw[show fN a 0=gi (a*0) from if_neg (λh=>by cases h.1),Int.mul_zero];rfl) rfl
theorem yX(b:Bd)(n:Int)(hb:jY b)(hn:0<=n/\n<=65536):gw av 122 [jo b,aq n] [.v (jo (jt b n))]:=by
 refine fe fx agX ⟨ae,ag⟩ ?_;simp only[fy,jo];have w1:IntKind.i64.wrap (b.1+1)=b.1+1:=ff aa;have hF:=fH (n:=b.1+1) aa;refine du w1 ?_;refine uQ [1] (fargs:=[aq (gi (b.1+1)),.fp 1 (λ_=> aq n) 0]) ⟨.rfl rfl,.p (o:=0) (j:=0) (x:=_) ae ai ae ae (λq hq=>by cases apE.1 hq;simp only[go_sem,simprocAttr]) (λq hq=>rfl),trivial⟩ (rH _ n hF hn) ah (λr hr=>by cases apy.1 hr;rfl) ?_
 refine dp ?_;refine uQ [1] (fargs:=[aq b.2,.fp 1 (λ_=> aq n) 0]) ⟨.rfl rfl,.p (o:=0) (j:=0) (x:=_) ae ai ae ae (λq hq=>by cases apE.1 hq;simp only[go_sem,simprocAttr]) (λq hq=>rfl),trivial⟩ (rH b.2 n hb.2 hn) ah (λr hr=>by cases apy.1 hr;rfl) ?_
 refine dp ?_;exact dU
/-! ### the stack effect-/
def yk(l:List UInt8):AV:= .s ⟨l.toArray⟩
theorem zO:∃L:List AV,gw av 97 [] [.v (.agg L)]/\L.length=36*5/\∀k:Nat,k<36->∃a,(L.drop (k*5)).take 5=[.s a,.s ⟨(kc k).1.toArray⟩,.s ⟨(kc k).2.toArray⟩,.n .u64 (oa k),.b (rV k)]:=by
 obtain⟨L,h1,h2,h3⟩:=xz;refine⟨L,h1,h2,λk hk=>?_⟩;obtain⟨h4,h5⟩:=Bool.and_eq_true_iff.1 (apr.1 h3 k (List.mem_range.2 hk));obtain⟨a,b,c,h6⟩:=xj h4;rw[h6] at h5 ⊢;simp only[am8,apq,beq_iff_eq] at h5;exact⟨a,by rw[<-h5.1,<-h5.2]⟩
theorem zP(k:Nat)(hk:k<36):gw av 103 [aq k] [.v (yk (kc k).1),.v (yk (kc k).2),.v (.b true)]:=by
 obtain⟨L,hL,hlen,hrow⟩:=zO;obtain⟨a,hr⟩:=hrow k hk;have hkn:gw av 70 [aq k] [.v (.agg [.s a,.s ⟨(kc k).1.toArray⟩,.s ⟨(kc k).2.toArray⟩,.n .u64 (oa k),.b (rV k)]),.v (.b true)]:=by
  refine fe fx M3 ⟨ae,ag⟩ ?_;simp only[fy];have h0:¬((k:Int)<0):=aa;have h1:¬((36:Int)<=k):=aa;have h2:(0:Int)<=(k:Int):=aa;have h3:(k:Int)<36:=aa;refine dt (aU h0 h1) ?_;refine gf hL ?_
  repeat first|with_reducible refine fj ?_|simp only[hlen,h2,h3,hr,apw,and_self,go_sem,simprocAttr]
  exact aq7
 refine fe fx agD ⟨ae,ag⟩ ?_;simp only[fy];refine dp ?_;refine gf hkn ?_;simp only[yk];refine dp ?_;exact asx
def Ed:List Int->List l5->Bool->Int
 |[],_,w=>if w=true then 2 else 0
 |_::_,[],_=>0
 |a::ls,x::li,w=>if x.1=a then Ed ls li (w||decide (x.2.1<0)||decide (65536<x.2.1)) else 23
abbrev MZ(l:List l5):Prop:=∀x ∈ l,0<=x.2.1/\x.2.1<=65536
theorem Ec:∀(ls:List Int) (li:List l5) (w:Bool),ls.length=li.length->Ed ls li w=if(li.map λx=>x.1)=ls then(if w=false/\MZ li then 0 else 2) else 23
 |[],[],w,_=>by
  rw[Ed,if_pos (show(([]:List l5).map λx=>x.1)=[] from rfl)];cases w
  ·rw[if_neg ag,if_pos ⟨rfl,λx h=>by cases h⟩]
  ·rw[if_pos rfl,if_neg (λh=>by cases h.1)]
 |[],_::_,_,h=>by simp at h
 |_::_,[],_,h=>by simp at h
 |a::ls,x::li,w,h=>by
  have hl:ls.length=li.length:=by simpa using h
  rw[Ed,Ec ls li _ hl];by_cases e:x.1=a
  ·rw[if_pos e];by_cases e2:(li.map λx=>x.1)=ls
   ·have hh:(List.map (λx:l5=>x.1) (x::li))=a::ls:=by rw[List.map_cons,e,e2]
    rw[if_pos e2,if_pos hh];have key:((w||decide (x.2.1<0)||decide (65536<x.2.1))=false/\MZ li)↔(w=false/\MZ (x::li)):=by
     simp only[Bool.or_eq_false_iff,decide_eq_false_iff_not];constructor
     ·rintro ⟨⟨⟨h1,h2⟩,h3⟩,h4⟩;refine⟨h1,λy hy=>?_⟩;rcases apv.1 hy with rfl|hy
      ·omega
      ·exact h4 y hy
     ·rintro ⟨h1,h2⟩;have:=h2 x (aps ..);exact⟨⟨⟨h1,aa⟩,aa⟩,λy hy=>h2 y (apx _ hy)⟩
    by_cases k:w=false/\MZ (x::li)
    ·rw[if_pos (key.2 k),if_pos k]
    ·rw[if_neg (λq=>k (key.1 q)),if_neg k]
   ·rw[if_neg e2,if_neg (λq=>e2 (by rw[List.map_cons] at q;exact(List.cons.inj q).2))]
  ·rw[if_neg e,if_neg (λq=>e (by rw[List.map_cons] at q;exact(List.cons.inj q).1))]
theorem Li(ls:List Int)(li:List l5)(h:ls.length=li.length):vx ls li=Ed ls li false:=by
 rw[Ec ls li false h,vx];by_cases e:(li.map λx=>x.1)=ls
 ·rw[if_pos ⟨h,e⟩,if_pos e];by_cases k:MZ li
  ·rw[if_pos k,if_pos ⟨rfl,k⟩]
  ·rw[if_neg k,if_neg (λq=>k q.2)]
 ·rw[if_neg (λq=>e q.2),if_neg e]
theorem D0(ls:List Int)(li:List l5)(h:ls.length≠li.length):vx ls li=23:=if_neg (λq=>h q.1)
theorem pT(cs:am):∀(k:Nat) (a:Int),a ∈ g9 cs k->a<k
 |0,a,h=>by cases h
 |k+1,a,h=>by
  rw[g9] at h;split at h
  ·rcases apS.1 h with h|h
   ·have:=pT cs k a h;omega
   ·have:a=k:=by simpa using h
    omega
  ·have:=pT cs k a h;omega
theorem mM(cs:am):∀k:Nat,(g9 cs k).Nodup
 |0=>List.nodup_nil
 |k+1=>by
  rw[g9];split
  ·rw[List.nodup_append];refine⟨mM cs k,ae,λa ha b hb=>?_⟩;have:=pT cs k a ha;have hb:b=k:=by simpa using hb
   omega
  ·exact mM cs k
theorem vN(cs:am):(jV cs).Nodup:=by
 unfold jV;split
 ·exact mM cs _
 ·exact List.nodup_nil
theorem pQ:∀{l:List l5} {x:l5},x.1 ∉ (l.map λx=>x.1)->∀a,gQ (l++[x]) a=if a=x.1 then x.2.1 else gQ l a
 |[],x,_,a=>by
  show(if x.1=a then x.2.1 else 0)=_
  by_cases e:a=x.1
  ·rw[if_pos e,if_pos e.symm]
  ·rw[if_neg e,if_neg (λq=>e q.symm)];rfl
 |y::l,x,h,a=>by
  rw[List.map_cons,apv,not_or] at h;rw[List.cons_append,gQ,pQ h.2];by_cases e:y.1=a
  ·rw[if_pos e,if_neg (λq=>h.1 (q.symm.trans e.symm)),gQ,if_pos e]
  ·rw[if_neg e,gQ,if_neg e]
theorem nG.look_put(y:nG)(k:Int)(q:IntKind)(v a:Int)(z:AV):(y.put k (.n q v)).look false z a=if a=k then .n q v else y.look false z a:=by
 show(match(if a=k then some (AV.n q v) else y.get a) with
  |some v=>uc false v true
  |none=>uc false z false)=_
 by_cases e:a=k
 ·rw[if_pos e,if_pos e];rfl
 ·rw[if_neg e,if_neg e];rfl
def mZ(la:ao)(loc:Int)(cs:am)(li:List l5):Int:=if(iH la loc cs).2=0 then vx (jV cs) li else(iH la loc cs).2
theorem tR{la:ao}{loc:Int}{cs:am}(h:(iH la loc cs).2=0):(fJ cs).2.2=0/\cs.length<=1024:=by
 have hp:(fJ cs).2.2=0:=by
  unfold iH at h;split at h
  ·split at h
   ·assumption
   ·exact h
  ·rename_i h1;exact absurd h h1
 refine⟨hp,?_⟩;by_cases e:1024<cs.length
 ·rw[fJ,if_pos e] at hp;exact absurd hp ag
 ·omega
def yE(la:ao)(loc:Int)(cs:am)(li:List l5)(rs:List RT)(N:Nat->Option OB):Prop:=
 (mZ la loc cs li≠0/\rs=[.v (.agg [.sl0,.cv (.map none)]),.v .sl0,.v (aq (mZ la loc cs li))]/\N=λ_=>none)\/
 (mZ la loc cs li=0/\∃r,Gq li r N/\rs=[.v (om cs r),.v (.fs 5 (fJ cs).1.len (fJ cs).1.cell),.v (aq 0)])
theorem Bj{la:ao}{loc:Int}{cs:am}{li:List l5}{H:AH}{e:Int}(h:mZ la loc cs li=e)(h0:e≠0):∃(rs:List RT) (N:Nat->Option OB) (l:List AV),yE la loc cs li rs N/\gD [.agg [.sl0,.cv (.map none)],.sl0,aq e]=gD l/\qP rs l H/\∀r x,N r=some x->H.ob r=some x/\D9 x=true:=
 ⟨_,_,[.agg [.sl0,.cv (.map none)],.sl0,aq e],.inl ⟨by rw[h];exact h0,rfl,rfl⟩,rfl,⟨⟨rfl,rfl⟩,⟨rfl,rfl⟩,⟨by rw[h],rfl⟩,trivial⟩,λr x hx=>by cases hx⟩
theorem Eb(la:ao)(loc:Int)(cs:am)(hl:la.length<=9223372036854775807)(hc:cs.length<=9223372036854775807)(ha:il cs)(s e h:Int)(li:List l5)(hli:li.length<=1024)(hL:Gr li):
  Df av 34 [fX la loc cs,vu s e h li] (λ_=>True) (λM rs N=>yE la loc cs li rs N):=by
 refine sD fx afy ⟨ae,ag⟩ λM _=>?_;simp only[fy,fX,vu];refine dp ?_;refine gf (pJ la loc cs hl hc ha) ?_;by_cases h1:(iH la loc cs).2=0;rotate_left
 ·refine dx h1 ?_;exact Bj (if_neg h1) h1
 have hO:mZ la loc cs li=vx (jV cs) li:=if_pos h1;obtain⟨hp,hcs⟩:=tR h1;refine dx h1 ?_;refine gf (F:=[.fs 2 cs.length (pI cs)]) (Co cs aa) ?_;rw[hp];have hnd:=vN cs;have hlen:(jV cs).length<=1024:=by
  rw[jV,if_pos hp];exact apj (oJ cs _) hcs
 generalize hls:jV cs=ls at hO hnd hlen ⊢;by_cases h2:ls.length=li.length;rotate_left
 ·have h2':¬(ls.length:Int)=li.length:=aa;refine dx h2' ?_;exact Bj (hO.trans (D0 ls li h2)) ag
 have h2':(ls.length:Int)=li.length:=aa;rw[Li ls li h2] at hO;refine dx h2' ?_;refine vL λr hr=>?_;refine dp ?_;refine GA.loop (I:=λm ev H=>∃(k:Nat) (wr:Bool) (y:nG) (ob:Nat->Option OB),m=ls.length-k/\k<=ls.length/\Ed ls li false=Ed (ls.drop k) (li.drop k) wr/\ob r=some (.mp y)/\y.own=true/\(∀a,y.look false (aq 0) a= aq (gQ (li.take k) a))/\((li.take k).map λx=>x.1)=ls.take k/\
   ev=fu [(2,.p 0 0),(3,.p 1 0),(4,.p 2 0),(11,.p 3 0),(12,.b wr),(48,.fs 1 ls.length (iC ls)),(49,aq li.length),(50,aq k)]/\
   H=ft ob [eZ 0 88 [.fs 2 cs.length (pI cs),.cv (.map (some r))],eZ 0 88 [.sl0,.cv (.map none)],eZ 0 38 [aq s,aq e,aq h,.fs 3 li.length (vI li)],eZ 0 25 [.fs 2 la.length (pA la),aq loc,.fs 2 cs.length (pI cs)]])
  (Wk.mkS [4,2,1,0] [3] ?_ ?_ ?_) ⟨0,false,⟨true,λ_=>none,0,none⟩,_,rfl,apf _,rfl,?_,rfl,λa=>rfl,rfl,rfl,rfl⟩ ?_
 ·simp only[iT,ig,go_sem,simprocAttr]
  repeat' refine fE ?_ ?_
  all_goals first|exact jQ|skip
  exact .cv (.os (x:=fg 3 1 ls.length 0 (iC ls)) ae ah (bL _) (λi j _ hj=>fI i j hj) (λi j _ _=>rfl))
 ·exact bb
 ·simp
 ·exact arT
 rintro m ev H ⟨k,wr,y,ob,rfl,hk,hs,hob,hown,hlook,hmap,rfl,rfl⟩;have h0:(0:Int)<=(k:Int):=aa;by_cases hkl:k<ls.length;rotate_left
 ·have hk':¬(k:Int)<li.length:=aa;obtain rfl:k=ls.length:=aa;rw[apV,Ed] at hs;rw[List.take_length,h2,List.take_length] at hmap;rw[h2,List.take_length] at hlook;cases wr
  ·refine dq hk' ?_;refine gf (re cs) ?_;rw[hp];refine dp ?_;exact⟨_,λq=>if q=r then some (.mp y) else none,[om cs r,.fs 5 (fJ cs).1.len (fJ cs).1.cell,aq 0],.inr ⟨hO.trans (hs.trans (if_neg ag)),r,⟨y,if_pos rfl,hlook⟩,rfl⟩,rfl,⟨⟨rfl,rfl⟩,⟨rfl,rfl⟩,⟨rfl,rfl⟩,trivial⟩,λq x hx=>by
    have hx2:(if q=r then some (OB.mp y) else none)=some x:=hx
    clear hx;by_cases hq:q=r
    ·rw[if_pos hq] at hx2;cases hx2;subst hq;exact⟨by simp only[hob,go_sem,simprocAttr],hown⟩
    ·rw[if_neg hq] at hx2;cases hx2⟩
  ·refine dq hk' ?_;exact Bj (hO.trans (hs.trans (if_pos rfl))) ag
 have hk1:(k:Int)<li.length:=aa;have hk2:(k:Int)<ls.length:=aa;have hkl':k<li.length:=aa;have wk:=au k;rw[ir (d:=0) hkl,ir (d:=tw) hkl',Ed] at hs;have htl:li.take (k+1)=li.take k++[li.getD k tw]:=by
  rw[List.take_add_one,apd,apk hkl'];rfl
 have htl2:ls.take (k+1)=ls.take k++[ls.getD k 0]:=by
  rw[List.take_add_one,apd,apk hkl];rfl
 have hLk:abd (vI li k 2):=hL _ (by
  rw[apd,apk hkl'];exact ap2 hkl')
 by_cases h3:(li.getD k tw).1=ls.getD k 0;rotate_left
 ·rw[if_neg h3] at hs;rcases hLk with hV2|⟨x3,x4,hV2⟩
  all_goals
   refine dx (aU h0 (aU hk1 (aU hk2 (aU @zG (aU @vI0 (aU @vI1 (aU hV2 (aU @uW (aU @AJ h3))))))))) ?_;exact Bj (hO.trans hs) ag
 rw[if_pos h3] at hs;have hnot:(li.getD k tw).1 ∉ ((li.take k).map λx=>x.1):=by
  rw[hmap,h3];intro hin;have hn2:(ls.take (k+1)).Nodup:=hnd.sublist (List.take_sublist _ _);rw[htl2,List.nodup_append] at hn2;exact hn2.2.2 _ hin _ (apy.2 rfl) rfl
 have hmap':((li.take (k+1)).map λx=>x.1)=ls.take (k+1):=by
  rw[htl,htl2,List.map_append,hmap];simp only[List.map_cons,List.map_nil,h3]
 have hlook':∀a,(y.put (ls.getD k 0) (aq (li.getD k tw).2.1)).look false (aq 0) a= aq (gQ (li.take (k+1)) a):=λa=>by
  rw[nG.look_put,htl,pQ hnot,hlook,h3];split<;>rfl
 generalize hx:li.getD k tw=x at hs h3 hlook' htl;obtain⟨x1,x2,x3⟩:=x
 replace h3:x1=ls.getD k 0:=h3
 subst h3;have hV0:vI li k 0= aq (ls.getD k 0):=by rw[vI0,hx]
 have hV1:vI li k 1= aq x2:=by rw[vI1,hx]
 replace hs:Ed ls li false=Ed (ls.drop (k+1)) (li.drop (k+1)) (wr||decide (x2<0)||decide (65536<x2)):=hs
 replace hlook':∀a,(y.put (ls.getD k 0) (aq x2)).look false (aq 0) a= aq (gQ (li.take (k+1)) a):=hlook'
 clear hlook htl hmap hnot;rcases hLk with hV2|⟨x3,x4,hV2⟩<;>cases wr<;>cases q1:decide (x2<0)<;>cases q2:decide (65536<x2)
 all_goals
  rw[q1,q2] at hs;refine dG (aU h0 (aU hk1 (aU hk2 (aU @zG (aU hV0 (aU hV1 (aU hV2 (aU @uW (aU @AJ (aU hob (aU hown (aU q1 (aU q2 wk))))))))))))) ?_;refine⟨_,_,_,?_,Wk.mkS [3,2,1,0] [] ?_ ?_ ?_,k+1,_,y.put (ls.getD k 0) (aq x2),_,rfl,aa,hs,?_,hown,hlook',hmap',rfl,rfl⟩
  ·omega
  ·exact fK
  ·exact asu
  ·simp
  ·exact arT
theorem Lj{ls:List Int}{li:List l5}(h:vx ls li=0):ls.length=li.length/\(li.map λx=>x.1)=ls/\MZ li:=by
 unfold vx at h;split at h
 ·rename_i h1;split at h
  ·rename_i h2;exact⟨h1.1,h1.2,h2⟩
  ·exact absurd h ag
 ·exact absurd h ag
theorem Lq{la:ao}{loc:Int}{cs:am}{li:List l5}(h:mZ la loc cs li=0):∃out,fM cs out (fJ cs).1 0 cs.length/\cs.length<=1024/\MZ li/\(fJ cs).2.2=0:=by
 by_cases h1:(iH la loc cs).2=0
 ·have h2:vx (jV cs) li=0:=(if_pos h1).symm.trans h;obtain⟨hp,_⟩:=tR h1;rcases pO cs with⟨a,e,he,_,k2⟩|⟨out,o,_,k2,k3,_,k5⟩
  ·rw[k2] at hp;exact absurd hp he
  ·exact⟨out,by rw[k2];exact k5,k3,(Lj h2).2.2,hp⟩
 ·exact absurd ((if_neg h1).symm.trans h) h1
theorem yF.okf{cs:am}(hcs:cs.length<=100000):∀{o:Fo},yF cs o->Gy o
 |.nil,_=>trivial
 |.pl x y r,h=>⟨h.1,by have:=h.2.1;omega,yF.okf hcs h.2.2⟩
 |.br op x y u v r,h=>⟨h.1,yF.okf hcs h.2.1,yF.okf hcs h.2.2.1,yF.okf hcs h.2.2.2⟩
theorem yF.okp{cs:am}{C:Nat->Nat->Prop}(hC:∀x y,x<=y->y<=cs.length->C x y):∀{o:Fo},yF cs o->Gp C o
 |.nil,_=>trivial
 |.pl x y r,h=>⟨hC x y h.1 h.2.1,yF.okp hC h.2.2⟩
 |.br op x y u v r,h=>⟨h.1,yF.okp hC h.2.1,yF.okp hC h.2.2.1,yF.okp hC h.2.2.2⟩
def pL(la:ao)(loc:Int)(cs:am)(li:List l5):Int×Int:=if mZ la loc cs li=0 then ul (ga li (fJ cs).1 0) else(0,mZ la loc cs li)
theorem B0{cs:am}(hcs:cs.length<=1024)(r x y:Nat)(h1:x<=y)(h2:y<=cs.length):PlC cs r 36 (λx y=>(y:Int)-x) x y:=by
 have e:((y:Int)-x)=((y-x:Nat):Int):=aa;refine⟨?_,by show 0<=(y:Int)-x;omega,by show(y:Int)-x<=100000;omega⟩
 show gw av 36 [om cs r,aq x,aq y] [.v (aq ((y:Int)-x))];rw[e];exact zU cs r x y h1 aa
theorem tN(la:ao)(loc:Int)(cs:am)(hl:la.length<=9223372036854775807)(hc:cs.length<=9223372036854775807)(ha:il cs)(s e h:Int)(li:List l5)(hli:li.length<=1024)(hL:Gr li):
  gw av 13 [fX la loc cs,vu s e h li] [.v (aq (pL la loc cs li).1),.v (aq (pL la loc cs li).2)]:=by
 refine fe fx afE ⟨ae,ag⟩ ?_;simp only[fy,fX,vu];refine dp ?_;refine jW [] (fargs:=[fX la loc cs,vu s e h li]) (ja.same rfl) (Eb la loc cs hl hc ha s e h li hli hL) True.intro ?_ ?_
 ·exact arT
 rintro rs N (⟨h0,rfl,rfl⟩|⟨h0,r,⟨x,hx,hlk⟩,rfl⟩) hfree
 ·rw[show pL la loc cs li=(0,mZ la loc cs li) from if_neg h0];refine dx h0 ?_;exact⟨[_,_],rfl,⟨rfl,rfl⟩,⟨rfl,rfl⟩,trivial⟩
 obtain⟨out,hg,hcs,hin,_⟩:=Lq h0;have hm:=tf hin;have hok:=hg.oke (bL _);have hsz:=hg.size;have hw:=wE cs r li 36 (λx y=>(y:Int)-x) 1 ag hm _ (fJ cs).1 (apG _) aa (hok.okp (B0 hcs r));unfold Bp at hw;rw[kw (λa=>(hm a).1) _ 0 (hok.okf aa) ag] at hw;rw[show pL la loc cs li=ul (ga li (fJ cs).1 0) from if_pos h0];simp only[om];refine dz ?_;refine jW [] (fargs:=[om cs r,.fs 5 (fJ cs).1.len (fJ cs).1.cell,.f 36 [om cs r] [],aq 1]) (ja.same rfl) hw ⟨x,?_,hlk⟩ ?_ ?_
 ·refine ba ?_;exact(t7 rfl).trans hx
 ·exact arT
 rintro rs N2 ⟨rfl,rfl⟩ _;refine dp ?_;refine gf (F:=[aq (ga li (fJ cs).1 0)]) (oS _) ?_;refine dp ?_;exact aq7
end Go.Proofs.YtdpkgnmmikebdaaGreat