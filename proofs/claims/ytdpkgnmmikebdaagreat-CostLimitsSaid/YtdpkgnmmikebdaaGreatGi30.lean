/- A part of the proof of CostLimits. No condition. -/
import Derived.Test.YtdpkgnmmikebdaaGreatGi28
import Derived.Test.YtdpkgnmmikebdaaGreatGi29
import Derived.Test.YtdpkgnmmikebdaaGreatGi24
import Derived.Test.YtdpkgnmmikebdaaGreatGi16
import Derived.Test.YtdpkgnmmikebdaaGreatGi26
import Derived.Test.YtdpkgnmmikebdaaGreatGip
set_option linter.unusedSimpArgs false
set_option linter.unusedVariables false
set_option linter.constructorNameAsVariable false
set_option maxRecDepth 100000
set_option maxHeartbeats 4000000
namespace Go.Proofs.YtdpkgnmmikebdaaGreat
open Go.RowKit
def vC(l:List Iv)(i j:Nat):AV:=if j=0 then aq (l.getD i (0,0)).1 else aq (l.getD i (0,0)).2
theorem wt(l:List Iv)(i:Nat):vC l i 0= aq (l.getD i (0,0)).1:=rfl
theorem ws(l:List Iv)(i:Nat):vC l i 1= aq (l.getD i (0,0)).2:=rfl
theorem gL(l:List Iv)(i j:Nat):(vC l i j).cell=true:=by unfold vC;split<;>rfl
theorem oy(l:List Iv)(i j:Nat):(vC l i j).pu 3=true:=by unfold vC;split<;>rfl
theorem uh{j:Nat}(h:j<2):j=0\/j=1:=aa
theorem qW(x y:List Iv)(hxy:x.length<=y.length)(hn:x.length<100000):gw av 120 [.fs 2 x.length (vC x),.fs 2 y.length (vC y)] [.o 127 2 x.length 0 (vC (gj x y))]:=by
 refine fe fx ahM ⟨ae,ag⟩ ?_;simp only[fy];refine dp ?_;refine gf (F:=[.fs 2 x.length (vC x)]) (nX aa (λi j _ _=>gL x i j)) ?_;refine dp ?_;refine GA.loop (I:=λm e H=>∃k:Nat,m=x.length-k/\k<=x.length/\e=fu [(0,.fs 2 x.length (vC x)),(1,.fs 2 y.length (vC y)),(5,.os 0 x.length),(10,aq x.length),(11,aq k)]/\H=fi [fg 127 2 x.length 0 (λi j=>if i<k then vC (gj x y) i j else vC x i j)]) (Wk.mk [0] [] ?_ ?_ ?_) ⟨0,rfl,aa,rfl,rfl⟩ ?_
 ·exact fK
 ·exact .cr (.same ai rfl ag (λi j h hj=>rfl) (λi j _ _=>oy x i j)) .nil
 ·simp
 rintro m e H ⟨k,rfl,hk,rfl,rfl⟩;have h0:(0:Int)<=(k:Int):=aa;have hrp:∀i j,((λi j=>if i<k then vC (gj x y) i j else vC x i j:Nat->Nat->AV) i j).pu 3=true:=λi j=>by dsimp only;split<;>exact oy _ _ _
 by_cases hkn:k<x.length
 ·have hki:(k:Int)<x.length:=aa;have hkj:(k:Int)<y.length:=aa;have hk1:k*2+2<=x.length*2:=aa;have wk:=au k;refine dD (aU h0 (aU hki (aU hkj (aU @wt @ws)))) ?_;refine gf (F:=[iv (x.getD k (0,0)),iv (y.getD k (0,0))]) (tt _ _) ?_;simp only[iv];refine dE (aU h0 (aU hki (aU hkn (aU hk1 wk)))) ?_;refine⟨_,_,_,?_,Wk.mk [0] [] ?_ ?_ ?_,k+1,rfl,aa,rfl,rfl⟩
  ·omega
  ·exact fK
  ·refine .cr (.put (q:=k) ai ae rfl hkn rfl ag aa (λi j h hj=>?_) (λi j _ _=>by split<;>exact oy _ _ _)) .nil
   by_cases e:i=k
   ·subst e;rw[if_pos rfl,if_pos aa];rcases uh hj with rfl|rfl
    ·rw[wt,ni x y i hkn];rfl
    ·rw[ws,ni x y i hkn];rfl
   ·rw[if_neg e];by_cases h9:i<k
    ·rw[if_pos h9,if_pos aa]
    ·rw[if_neg h9,if_neg aa]
  ·simp
 ·have hki:¬(k:Int)<x.length:=aa;obtain rfl:k=x.length:=aa;refine dq hki ?_;exact⟨[_],rfl,.inr ⟨0,rfl,ae,_,ai,rfl,rfl,ag,rfl,bL _,bL _,λi j hi hj=>(fI i j hj).trans (if_pos hi),λi j _ _=>gL _ i j⟩,rfl,trivial⟩
theorem rG:∀(x y:List Iv),x.length≠y.length->ib x y=false
 |[],[],h=>absurd rfl h
 |[],_::_,_=>rfl
 |_::_,[],_=>rfl
 |a::x,b::y,h=>by simp only[ib,rG x y (by simpa using h),Bool.and_false]
theorem qe{x y:List Iv}{k:Nat}(hx:k<x.length)(hy:k<y.length):ib (x.drop k) (y.drop k)=(jp (x.getD k (0,0)) (y.getD k (0,0))&&ib (x.drop (k+1)) (y.drop (k+1))):=by
 rw[ir (d:=(0,0)) hx,ir (d:=(0,0)) hy,ib]
theorem K4(x y:List Iv)(hn:x.length<100000)(hm:y.length<100000):gw av 171 [.fs 2 x.length (vC x),.fs 2 y.length (vC y),.f 172 [] []] [.v (.b (ib x y))]:=by
 refine fe fx ag8 ⟨ae,ag⟩ ?_;simp only[fy];by_cases hl:x.length=y.length;rotate_left
 ·have hl':¬(x.length:Int)=y.length:=aa;refine dx hl' ?_;exact eY (by rw[rG x y hl]) rfl
 have hl':(x.length:Int)=y.length:=aa;refine dx hl' ?_;refine GA.loop (I:=λm e H=>∃k:Nat,m=x.length-k/\k<=x.length/\ib x y=ib (x.drop k) (y.drop k)/\e=fu [(1,.fs 2 y.length (vC y)),(2,.f 172 [] []),(15,.fs 2 x.length (vC x)),(16,aq y.length),(17,aq k)]/\H=fi []) (Wk.mk [] [] ?_ ?_ ?_) ⟨0,rfl,aa,rfl,rfl,rfl⟩ ?_
 ·exact fK
 ·trivial
 ·decide
 rintro m e H ⟨k,rfl,hk,hs,rfl,rfl⟩;have h0:(0:Int)<=(k:Int):=aa;by_cases hkn:k<x.length
 ·have hki:(k:Int)<x.length:=aa;have hkj:(k:Int)<y.length:=aa;have wk:=au k;rw[qe hkn aa] at hs;refine dD (aU h0 (aU hki (aU hkj (aU @wt @ws)))) ?_;refine gf (F:=[iv (x.getD k (0,0)),iv (y.getD k (0,0))]) (vQ _ _) ?_;cases hw:jp (x.getD k (0,0)) (y.getD k (0,0))
  ·refine dF ?_;exact eY (by rw[hs,hw];rfl) rfl
  ·refine dq wk ?_;refine⟨_,_,_,?_,Wk.mk [] [] ?_ ?_ ?_,k+1,rfl,aa,by rw[hs,hw];rfl,rfl,rfl⟩
   ·omega
   ·exact fK
   ·trivial
   ·decide
 ·have hki:¬(k:Int)<y.length:=aa;refine dq hki ?_;exact eY (by rw[hs,aqm aa,aqm aa];rfl) rfl
theorem wI(x y:List Iv)(hn:x.length<100000)(hm:y.length<100000):gw av 121 [.fs 2 x.length (vC x),.fs 2 y.length (vC y)] [.v (.b (ib x y))]:=by
 refine fe fx ahc ⟨ae,ag⟩ ?_;simp only[fy];refine dp ?_;refine gf (K4 x y hn hm) ?_;refine dp ?_;exact dU
/-! ### what is demanded-/
def kY(at_ e:Int):List PanicEntry:=[{v:= .iface 118 (.agg #[.int .i64 at_,.int .i64 e]),recovered:=false}]
theorem Dz(a n:Int)(w:World):
  Calls av 64 #[.int .i64 a,.int .i64 n] w λe w'=>e= .panicked (kY a n)/\Below w.heap.size w w':=by
 go_enter Tryz.func64,Tryz.ntmps64
 go_wp2
 exact(⟨rfl,rfl,Below.refl _ _⟩:_/\_/\_)
theorem Zj{σ:Sg}{k k':IntKind}{a n:Int}{args':Array Value}(h:gn σ [.n k a,.n k' n] args'.toList):args'= #[.int k a,.int k' n]:=by
 obtain⟨l⟩:=args';obtain⟨h1,h2⟩:=h
 match l,h1 with
 |[x,y],_=>
  have e0:=h2 0 _ rfl;have e1:=h2 1 _ rfl;simp only[List.getD_cons_zero,List.getD_cons_succ] at e0 e1;cases e0;cases e1;rfl
theorem Dy:ui av 64:=⟨_,Tryz.func64,by kernel_rfl,rfl⟩
theorem BB(a n:Int):Pan av 64 [aq a,aq n] (kY a n):=by
 refine⟨Dy,λφ w args' hφ ha=>?_⟩;obtain rfl:=Zj ha;exact Dz a n w
theorem jd(a n:Int):gw av 33 [.b true,aq a,aq n] []:=by
 refine fe fx MF ⟨ae,ag⟩ ?_;simp only[fy];refine dp ?_;exact⟨[],rfl,trivial⟩
theorem jK(a n:Int):Pan av 33 [.b false,aq a,aq n] (kY a n):=by
 refine D8 (gX MF ⟨ae,ag⟩ ?_);simp only[fy];refine a7 ?_;exact fP [] (fargs:=[aq a,aq n]) (ja.same rfl) (BB a n) rfl
theorem zi(x:Iv):gw av 184 [iv x] [.v (aq (yr x))]:=by
 refine fe fx W0 ⟨ae,ag⟩ ?_;obtain⟨a,b⟩:=x;simp only[fy,iv,yr];by_cases h1:a<0
 ·refine dw h1 ?_;exact eY (by simp[h1]) rfl
 by_cases h2:4294967295<a
 ·refine dw (aU h1 h2) ?_;exact eY (by simp[h1,h2]) rfl
 by_cases h3:b<0
 ·exact eG
 by_cases h4:4294967295<b
 ·exact eH
 by_cases h5:b<a
 ·exact eI
 refine dw (aU h1 (aU h2 (aU h3 (aU h4 h5)))) ?_;exact eY (by simp[h1,h2,h3,h4,h5]) rfl
theorem j8{x:Iv}(h:iJ x):gw av 184 [iv x] [.v (aq 0)]:=by
 have:=zi x;rwa [nY.2 h] at this
theorem iQ:gw av 167 [] [.v (iv (0,4294967295))]:=by
 refine fe fx Xx ⟨ae,ag⟩ ?_;simp only[fy,iv];refine dp ?_;exact dU
theorem ki(n:Int)(h:0<=n/\n<=4294967295):gw av 76 [.n .u32 n] [.v (iv (n,n))]:=by
 refine fe fx XA ⟨ae,ag⟩ ?_;simp only[fy,iv];have w:IntKind.i64.wrap n=n:=ff aa;refine du w ?_;exact dU
theorem rO{x y:Iv}(hx:iJ x)(hy:iJ y):gw av 180 [iv x,iv y] [.v (iv (kQ x y))]:=by
 refine fe fx Xj ⟨ae,ag⟩ ?_;simp only[fy,iv];refine dp ?_;refine gf (j8 hx) ?_;refine dz ?_;refine gf (j8 hy) ?_;rw[show kQ x y=(jT x.1 y.1,fA x.2 y.2) from if_pos ⟨hx,hy⟩]
 repeat first|with_reducible refine fj ?_|simp only[ne_eq,fL,gV,iW,iK,aQ,go_sem,simprocAttr]
 exact dU
theorem ug{x y:Iv}(hx:iJ x)(hy:iJ y):gw av 181 [iv x,iv y] [.v (.b (jp x y))]:=by
 refine fe fx Xe ⟨ae,ag⟩ ?_;simp only[fy,iv];refine dp ?_;refine gf (j8 hx) ?_;refine dF ?_;refine gf (j8 hy) ?_;unfold jp;by_cases h1:y.1<=x.1
 ·by_cases h2:x.2<=y.2
  ·refine dt (aU h1 h2) ?_;exact eY (by simp[h1,h2,hx,hy]) rfl
  ·refine dt (aU h1 h2) ?_;exact eY (by simp[h1,h2]) rfl
 ·refine dt h1 ?_;exact eY (by simp[h1]) rfl
theorem vB{x y:Iv}(hx:iJ x)(hy:iJ y):gw av 182 [iv x,iv y] [.v (iv (kX x y))]:=by
 refine fe fx Xb ⟨ae,ag⟩ ?_;simp only[fy,iv];refine dp ?_;refine gf (j8 hx) ?_;refine dz ?_;refine gf (j8 hy) ?_;rw[show kX x y=(if y.1<x.1 then 0 else x.1,if x.2<y.2 then Fa y.2 else x.2) from if_pos ⟨hx,hy⟩]
 unfold Fa;by_cases c1:y.1<x.1<;>by_cases c2:x.2<y.2<;>by_cases c3:y.2<=65535<;>by_cases c4:y.2<=255
 all_goals first|(exfalso;omega)|skip
 all_goals
  refine dG (aU c1 (aU c2 (aU c3 c4))) ?_;exact eY (by simp[c1,c2,c3,c4]) rfl
theorem gq(l h:Int):gw av 223 [aq l,aq h] [.v (iv (if l<0\/4294967295<h then(0,4294967295) else(l,h)))]:=by
 refine fe fx WH ⟨ae,ag⟩ ?_;simp only[fy];by_cases h1:l<0
 ·rw[if_pos (.inl h1)];refine dw h1 ?_;refine gf iQ ?_;simp only[iv];refine dp ?_;exact eY rfl rfl
 by_cases h2:4294967295<h
 ·rw[if_pos (.inr h2)];refine dw (aU h1 h2) ?_;refine gf iQ ?_;simp only[iv];refine dp ?_;exact eY rfl rfl
 rw[if_neg aa];refine dw (aU h1 h2) ?_;exact dU
theorem qn(n:Int)(s:Nat)(hn:0<=n/\n<=4294967295)(hs:s<=31):gw av 225 [aq n,aq s] [.v (aq (n*2^s))]:=by
 refine fe fx Wo ⟨ae,ag⟩ ?_;simp only[fy];refine dp ?_;refine GA.loop (I:=λm e H=>∃k:Nat,m=s-k/\k<=s/\e=fu [(0,aq (n*2^k)),(1,aq s),(5,aq k)]/\H=fi []) (Wk.mk [] [] ?_ ?_ ?_) ⟨0,rfl,apf _,rfl,rfl⟩ ?_
 ·rw[Int.pow_zero,Int.mul_one];simp only[iT,ig,go_sem,simprocAttr]
  repeat' refine fE ?_ ?_
  all_goals first|exact jQ|skip
 ·trivial
 ·simp
 rintro m e H ⟨k,rfl,hk,rfl,rfl⟩;by_cases h:k<s;rotate_left
 ·exact eO
 have h':(k:Int)<s:=aa;have wk:=au k;have hp:(2:Int)^(k+1)<=2^31:=by
  have:(2:Nat)^(k+1)<=2^31:=aqi ag aa
  exact_mod_cast this
 have hp0:(0:Int)<2^(k+1):=Int.pow_pos ag;have e1:2*(n*2^k)=n*2^(k+1):=by rw[Int.pow_succ,Int.mul_comm 2,Int.mul_assoc]
 have b0:0<=n*2^(k+1):=apY hn.1 aa;have b1:n*2^(k+1)<=4294967295*2^31:=Int.mul_le_mul hn.2 hp aa ag;have w2:IntKind.i64.wrap (2*(n*2^k))=n*2^(k+1):=by rw[e1];exact ff aa
 refine dq (aU h' (aU wk w2)) ?_;refine⟨_,_,_,?_,Wk.mk [] [] ?_ ?_ ?_,k+1,rfl,aa,rfl,rfl⟩
 ·omega
 ·exact fK
 ·trivial
 ·simp
theorem lr(n:Int)(s:Nat)(hn:0<=n/\n<=4294967295)(hs:s<=31):gw av 226 [aq n,aq s] [.v (aq (n / 2^s))]:=by
 refine fe fx Wd ⟨ae,ag⟩ ?_;simp only[fy];refine dp ?_;refine GA.loop (I:=λm e H=>∃k:Nat,m=s-k/\k<=s/\e=fu [(0,aq (n / 2^k)),(1,aq s),(5,aq k)]/\H=fi []) (Wk.mk [] [] ?_ ?_ ?_) ⟨0,rfl,apf _,rfl,rfl⟩ ?_
 ·rw[Int.pow_zero,Int.ediv_one];simp only[iT,ig,go_sem,simprocAttr]
  repeat' refine fE ?_ ?_
  all_goals first|exact jQ|skip
 ·trivial
 ·simp
 rintro m e H ⟨k,rfl,hk,rfl,rfl⟩;by_cases h:k<s;rotate_left
 ·exact eO
 have h':(k:Int)<s:=aa;have wk:=au k;have b0:0<=n / 2^k:=apW hn.1 (Int.le_of_lt (Int.pow_pos ag));have b1:n / 2^k<=n:=apZ _ hn.1;have e1:Int.tdiv (n / 2^k) 2=n / 2^(k+1):=by
  rw[apO b0,Int.ediv_ediv_of_nonneg (Int.le_of_lt (Int.pow_pos ag)),Int.pow_succ]
 have w2:IntKind.i64.wrap (n / 2^(k+1))=n / 2^(k+1):=by
  have c0:0<=n / 2^(k+1):=apW hn.1 (Int.le_of_lt (Int.pow_pos ag));have c1:n / 2^(k+1)<=n:=apZ _ hn.1;exact ff aa
 refine dq (aU h' (aU wk (aU e1 w2))) ?_;refine⟨_,_,_,?_,Wk.mk [] [] ?_ ?_ ?_,k+1,rfl,aa,rfl,rfl⟩
 ·omega
 ·exact fK
 ·trivial
 ·simp
theorem Lv{n:Int}{j:Nat}(h0:0<=n)(h1:n<=2^j-1)(h2:j=0\/(2:Int)^(j-1)-1<n):iU n=2^j-1:=by
 obtain⟨m,rfl⟩:∃m:Nat,n=m:=⟨n.toNat,aa⟩;unfold iU;rcases h2 with rfl|h2
 ·rw[if_pos (by simp at h1;omega)];rfl
 ·by_cases e:m=0
  ·subst e;have:(0:Int)<2^(j-1):=Int.pow_pos ag;simp at h2;omega
  ·rw[if_neg aa];by_cases ej:j=0
   ·subst ej;simp at h1;omega
   ·have a1:2^(j-1)<=m:=by
     have:((2^(j-1):Nat):Int)=(2:Int)^(j-1):=by norm_cast
     omega
    have a2:m<2^j:=by
     have:((2^j:Nat):Int)=(2:Int)^j:=by norm_cast
     omega
    have:Nat.log2 m=j-1:=(Nat.log2_eq_iff e).2 ⟨a1,by rw[show j-1+1=j by omega];exact a2⟩
    rw[apw,this,show j-1+1=j by omega]
theorem AA{n:Int}(hn:0<=n/\n<=4294967295):iU n<=4294967295:=by
 unfold iU;split
 ·decide
 ·rename_i h;have h2:Nat.log2 n.toNat<32:=(Nat.log2_lt aa).2 aa;have:(2:Nat)^(Nat.log2 n.toNat+1)<=2^32:=aqi ag aa;have:(2:Int)^(Nat.log2 n.toNat+1)<=2^32:=by exact_mod_cast this
  omega
theorem CC{p q:Prop}[Decidable p][Decidable q]{α:Type}{x y u v:α}(h:p↔q)(h1:x=u)(h2:y=v):(if p then x else y)=if q then u else v:=by
 subst h1 h2;by_cases hp:p
 ·rw[if_pos hp,if_pos (h.1 hp)]
 ·rw[if_neg hp,if_neg (λhq=>hp (h.2 hq))]
theorem rN(n:Int)(hn:0<=n/\n<=4294967295):gw av 224 [aq n] [.v (aq (iU n))]:=by
 refine fe fx Wy ⟨ae,ag⟩ ?_;simp only[fy];refine dp ?_;refine GA.loop (I:=λm e H=>∃j:Nat,m=40-j/\j<=32/\(j=0\/(2:Int)^(j-1)-1<n)/\e=fu [(0,aq n),(3,aq (2^j-1))]/\H=fi []) (Wk.mk [] [] ?_ ?_ ?_) ⟨0,rfl,apf _,.inl rfl,rfl,rfl⟩ ?_
 ·rw[show(2:Int)^0-1=0 from rfl];simp only[iT,ig,go_sem,simprocAttr]
  repeat' refine fE ?_ ?_
  all_goals first|exact jQ|skip
 ·trivial
 ·simp
 rintro m e H ⟨j,rfl,hj,hl,rfl,rfl⟩;by_cases h:(2:Int)^j-1<n;rotate_left
 ·rw[Lv hn.1 aa hl];refine dq h ?_;exact eY rfl rfl
 have hp:(2:Int)^j<=2^32:=by
  have:(2:Nat)^j<=2^32:=aqi ag hj
  exact_mod_cast this
 have hp0:(0:Int)<2^j:=Int.pow_pos ag;have hj2:j<32:=by
  rcases Nat.lt_or_ge j 32 with q|q
  ·exact q
  ·have:j=32:=aa;subst this;omega
 have w1:IntKind.i64.wrap (2*(2^j-1))=2*(2^j-1):=ff aa;have w2:IntKind.i64.wrap (2*(2^j-1)+1)=2^(j+1)-1:=(ff aa).trans (by rw[Int.pow_succ];omega)
 refine dq (aU h (aU w1 w2)) ?_;refine⟨_,_,_,?_,Wk.mk [] [] ?_ ?_ ?_,j+1,rfl,aa,.inr (by rw[Nat.add_sub_cancel];exact h),rfl,rfl⟩
 ·omega
 ·exact fK
 ·trivial
 ·simp
theorem vD{op:Int}{x y:Iv}(hx:iJ x)(hy:iJ y)(ho:8<=op/\op<=20)(hz:y.1=0->op≠11/\op≠12):gw av 186 [aq op,aq x.1,aq x.2,iv y] [.v (iv (gg op x y))]:=by
 obtain⟨a,b⟩:=x;obtain⟨c,d⟩:=y;obtain⟨hx1,hx2,hx3⟩:=hx;obtain⟨hy1,hy2,hy3⟩:=hy;dsimp only at hx1 hx2 hx3 hy1 hy2 hy3 hz;have t1:Int.tmod c 32=c%32:=Int.tmod_eq_emod_of_nonneg hy1;refine fe fx WR ⟨ae,ag⟩ ?_;simp only[fy,iv];have hop:op=8\/op=9\/op=10\/op=11\/op=12\/op=13\/op=14\/op=15\/op=16\/op=17\/op=18\/op=19\/op=20:=aa;rcases hop with rfl|rfl|rfl|rfl|rfl|rfl|rfl|rfl|rfl|rfl|rfl|rfl|rfl
 ·have w1:IntKind.i64.wrap (a+c)=a+c:=ff aa;have w2:IntKind.i64.wrap (b+d)=b+d:=ff aa;by_cases q:4294967295<a+c
  ·have hR:gg 8 (a,b) (c,d)=if(a+c-4294967295-1)<0\/4294967295<(b+d-4294967295-1) then(0,4294967295) else((a+c-4294967295-1),(b+d-4294967295-1)):=by
    unfold gg;simp only[Int.reduceEq,if_true,if_false,reduceIte];unfold iP
    (repeat' split)<;>first|rfl|(exfalso;omega)|(refine Prod.ext ?_ ?_<;>dsimp only<;>omega)
   rw[hR];have w3:IntKind.i64.wrap (a+c-4294967295)=a+c-4294967295:=ff aa;have w4:IntKind.i64.wrap (a+c-4294967295-1)=a+c-4294967295-1:=ff aa;have w5:IntKind.i64.wrap (b+d-4294967295)=b+d-4294967295:=ff aa;have w6:IntKind.i64.wrap (b+d-4294967295-1)=b+d-4294967295-1:=ff aa
   repeat first|with_reducible refine fj ?_|simp only[t1,w1,w2,w3,w4,w5,w6,q,ne_eq,gt_iff_lt,fL,gV,iW,iK,aQ,go_sem,simprocAttr]
   refine gf (gq (a+c-4294967295-1) (b+d-4294967295-1)) ?_;simp only[iv];refine dp ?_;exact dU
  ·have hR:gg 8 (a,b) (c,d)=if(a+c)<0\/4294967295<(b+d) then(0,4294967295) else((a+c),(b+d)):=by
    unfold gg;simp only[Int.reduceEq,if_true,if_false,reduceIte];unfold iP
    (repeat' split)<;>first|rfl|(exfalso;omega)|(refine Prod.ext ?_ ?_<;>dsimp only<;>omega)
   rw[hR]
   repeat first|with_reducible refine fj ?_|simp only[t1,w1,w2,q,ne_eq,gt_iff_lt,fL,gV,iW,iK,aQ,go_sem,simprocAttr]
   refine gf (gq (a+c) (b+d)) ?_;simp only[iv];refine dp ?_;exact dU
 ·have w1:IntKind.i64.wrap (b-c)=b-c:=ff aa;have w2:IntKind.i64.wrap (a-d)=a-d:=ff aa;by_cases q:b-c<0
  ·have hR:gg 9 (a,b) (c,d)=if(a-d+4294967295+1)<0\/4294967295<(b-c+4294967295+1) then(0,4294967295) else((a-d+4294967295+1),(b-c+4294967295+1)):=by
    unfold gg;simp only[Int.reduceEq,if_true,if_false,reduceIte];unfold iP
    (repeat' split)<;>first|rfl|(exfalso;omega)|(refine Prod.ext ?_ ?_<;>dsimp only<;>omega)
   rw[hR];have w3:IntKind.i64.wrap (a-d+4294967295)=a-d+4294967295:=ff aa;have w4:IntKind.i64.wrap (a-d+4294967295+1)=a-d+4294967295+1:=ff aa;have w5:IntKind.i64.wrap (b-c+4294967295)=b-c+4294967295:=ff aa;have w6:IntKind.i64.wrap (b-c+4294967295+1)=b-c+4294967295+1:=ff aa
   repeat first|with_reducible refine fj ?_|simp only[t1,w1,w2,w3,w4,w5,w6,q,ne_eq,gt_iff_lt,fL,gV,iW,iK,aQ,go_sem,simprocAttr]
   refine gf (gq (a-d+4294967295+1) (b-c+4294967295+1)) ?_;simp only[iv];refine dp ?_;exact dU
  ·have hR:gg 9 (a,b) (c,d)=if(a-d)<0\/4294967295<(b-c) then(0,4294967295) else((a-d),(b-c)):=by
    unfold gg;simp only[Int.reduceEq,if_true,if_false,reduceIte];unfold iP
    (repeat' split)<;>first|rfl|(exfalso;omega)|(refine Prod.ext ?_ ?_<;>dsimp only<;>omega)
   rw[hR]
   repeat first|with_reducible refine fj ?_|simp only[t1,w1,w2,q,ne_eq,gt_iff_lt,fL,gV,iW,iK,aQ,go_sem,simprocAttr]
   refine gf (gq (a-d) (b-c)) ?_;simp only[iv];refine dp ?_;exact dU
 ·have t2:Int.tdiv 4294967295 d=4294967295 / d:=apO ag;have b0:0<=a*c:=apY hx1 hy1;have b1:b*d<=4294967295*4294967295:=Int.mul_le_mul hx3 hy3 aa ag;have b2:a*c<=b*d:=Int.mul_le_mul hx2 hy2 hy1 aa;have w3:IntKind.i64.wrap (4294967295 / d)=4294967295 / d:=by
   have c0:0<=4294967295 / d:=apW ag aa;have c1:4294967295 / d<=4294967295:=apZ _ ag;exact ff aa
  by_cases q1:0<d
  ·have nz:¬d=0:=aa;by_cases q2:4294967295 / d<b
   ·rw[show gg 10 (a,b) (c,d)=(0,4294967295) by
     show(if 0<d/\4294967295 / d<b then((0,4294967295):Iv) else(a*c,b*d))=_
     exact if_pos ⟨q1,q2⟩]
    repeat first|with_reducible refine fj ?_|simp only[t1,t2,w3,nz,q1,q2,ne_eq,gt_iff_lt,fL,gV,iW,iK,aQ,go_sem,simprocAttr]
    refine gf iQ ?_;simp only[iv];refine dp ?_;exact dU
   ·have b3:b*d<=4294967295:=by
     have c2:b*d<=4294967295 / d*d:=Int.mul_le_mul_of_nonneg_right aa aa;have c3:4294967295 / d*d<=4294967295:=Int.ediv_mul_le _ nz;omega
    rw[show gg 10 (a,b) (c,d)=if a*c<0\/4294967295<b*d then(0,4294967295) else(a*c,b*d) by
     rw[if_neg aa];show(if 0<d/\4294967295 / d<b then((0,4294967295):Iv) else(a*c,b*d))=_
     exact if_neg (λh=>q2 h.2)]
    have w1:IntKind.i64.wrap (a*c)=a*c:=ff aa;have w2:IntKind.i64.wrap (b*d)=b*d:=ff aa
    repeat first|with_reducible refine fj ?_|simp only[t1,t2,w1,w2,w3,nz,q1,q2,ne_eq,gt_iff_lt,fL,gV,iW,iK,aQ,go_sem,simprocAttr]
    refine gf (gq (a*c) (b*d)) ?_;simp only[iv];refine dp ?_;exact dU
  ·obtain rfl:d=0:=aa;obtain rfl:c=0:=aa;rw[show gg 10 (a,b) (0,0)=if a*0<0\/4294967295<b*0 then(0,4294967295) else(a*0,b*0) by
    rw[if_neg aa];show(if(0:Int)<0/\4294967295 / (0:Int)<b then((0,4294967295):Iv) else(a*0,b*0))=_
    exact if_neg (λh=>q1 h.1)]
   have w1:IntKind.i64.wrap (a*0)=a*0:=ff aa;have w2:IntKind.i64.wrap (b*0)=b*0:=ff aa
   repeat first|with_reducible refine fj ?_|simp only[t1,w1,w2,q1,ne_eq,gt_iff_lt,fL,gV,iW,iK,aQ,go_sem,simprocAttr]
   refine gf (gq (a*0) (b*0)) ?_;simp only[iv];refine dp ?_;exact dU
 ·have hc:0<c:=by
   rcases Int.lt_or_eq_of_le hy1 with h|h
   ·exact h
   ·exact absurd rfl (hz h.symm).1
  have t2:Int.tdiv a d=a / d:=apO hx1;have t3:Int.tdiv b c=b / c:=apO aa;have nz:¬d=0:=aa;have nz2:¬c=0:=aa;have b0:0<=a / d:=apW hx1 aa;have b1:a / d<=a:=apZ _ hx1;have b2:0<=b / c:=apW aa aa;have b3:b / c<=b:=apZ _ aa;have w1:IntKind.i64.wrap (a / d)=a / d:=ff aa;have w2:IntKind.i64.wrap (b / c)=b / c:=ff aa;rw[show gg 11 (a,b) (c,d)=if a / d<0\/4294967295<b / c then(0,4294967295) else(a / d,b / c) by rw[if_neg aa];rfl]
  repeat first|with_reducible refine fj ?_|simp only[t1,t2,t3,w1,w2,nz,nz2,ne_eq,gt_iff_lt,fL,gV,iW,iK,aQ,go_sem,simprocAttr]
  refine gf (gq (a / d) (b / c)) ?_;simp only[iv];refine dp ?_;exact dU
 ·have hc:0<c:=by
   rcases Int.lt_or_eq_of_le hy1 with h|h
   ·exact h
   ·exact absurd rfl (hz h.symm).2
  have w1:IntKind.i64.wrap (d-1)=d-1:=ff aa;by_cases q:b<c
  ·rw[show gg 12 (a,b) (c,d)=if a<0\/4294967295<b then(0,4294967295) else(a,b) by rw[if_neg aa];exact if_pos q]
   repeat first|with_reducible refine fj ?_|simp only[t1,w1,q,ne_eq,gt_iff_lt,fL,gV,iW,iK,aQ,go_sem,simprocAttr]
   refine gf (gq (a) (b)) ?_;simp only[iv];refine dp ?_;exact dU
  ·rw[show gg 12 (a,b) (c,d)=if(0:Int)<0\/4294967295<jT b (d-1) then(0,4294967295) else(0,jT b (d-1)) by rw[if_neg (by unfold jT;split<;>omega)];exact if_neg q]
   unfold jT
   repeat first|with_reducible refine fj ?_|simp only[t1,w1,q,ne_eq,gt_iff_lt,fL,gV,iW,iK,aQ,go_sem,simprocAttr]
   refine gf (gq (0) (if d-1<b then d-1 else b)) ?_
   simp only[iv];refine dp ?_;exact dU
 ·rw[show gg 13 (a,b) (c,d)=if(0:Int)<0\/4294967295<jT b d then(0,4294967295) else(0,jT b d) by rw[if_neg (by unfold jT;split<;>omega)];rfl]
  unfold jT
  repeat first|with_reducible refine fj ?_|simp only[t1,ne_eq,gt_iff_lt,fL,gV,iW,iK,aQ,go_sem,simprocAttr]
  refine gf (gq (0) (if d<b then d else b)) ?_
  simp only[iv];refine dp ?_;exact dU
 ·have hm:0<=(if b<d then d else b)/\(if b<d then d else b)<=4294967295:=by split<;>omega
  have hon:=AA hm;rw[show gg 14 (a,b) (c,d)=if(fA a c:Int)<0\/4294967295<iU (fA b d) then(0,4294967295) else(fA a c,iU (fA b d)) by
   rw[if_neg (by have:iU (fA b d)<=4294967295:=hon
                 generalize iU (fA b d)=z at this ⊢
                 (try unfold fA)<;>(try split)<;>omega)];rfl]
  unfold fA
  repeat first|with_reducible refine fj ?_|simp only[t1,ne_eq,gt_iff_lt,fL,gV,iW,iK,aQ,go_sem,simprocAttr]
  refine gf (rN (if b<d then d else b) hm) ?_
  repeat first|with_reducible refine fj ?_|simp only[ne_eq,gt_iff_lt,fL,gV,iW,iK,aQ,go_sem,simprocAttr]
  refine gf (gq (if a<c then c else a) (iU (if b<d then d else b))) ?_
  simp only[iv];refine dp ?_;exact dU
 ·have hm:0<=(if b<d then d else b)/\(if b<d then d else b)<=4294967295:=by split<;>omega
  have hon:=AA hm;rw[show gg 15 (a,b) (c,d)=if(0:Int)<0\/4294967295<iU (fA b d) then(0,4294967295) else(0,iU (fA b d)) by
   rw[if_neg (by have:iU (fA b d)<=4294967295:=hon
                 generalize iU (fA b d)=z at this ⊢
                 (try unfold fA)<;>(try split)<;>omega)];rfl]
  unfold fA
  repeat first|with_reducible refine fj ?_|simp only[t1,ne_eq,gt_iff_lt,fL,gV,iW,iK,aQ,go_sem,simprocAttr]
  refine gf (rN (if b<d then d else b) hm) ?_
  repeat first|with_reducible refine fj ?_|simp only[ne_eq,gt_iff_lt,fL,gV,iW,iK,aQ,go_sem,simprocAttr]
  refine gf (gq (0) (iU (if b<d then d else b))) ?_
  simp only[iv];refine dp ?_;exact dU
 ·obtain⟨s,hs⟩:∃s:Nat,s=(c%32).toNat:=⟨_,rfl⟩;have hs1:c%32=s:=aa;by_cases q:c=d
  ·subst q;have hp0:(0:Int)<2^s:=Int.pow_pos ag;have b0:0<=a*2^s:=apY hx1 aa;have hiff:4294967295<b*2^s↔4294967295 / 2^s<b:=(Int.ediv_lt_iff_lt_mul hp0).symm;rw[show gg 16 (a,b) (c,c)=if a*2^s<0\/4294967295<b*2^s then(0,4294967295) else(a*2^s,b*2^s) by
    rw[hs];show(if c≠c\/4294967295 / 2^(c%32).toNat<b then((0,4294967295):Iv) else _)=_
    rw[<-hs];exact CC (by rw[hiff];omega) rfl rfl]
   repeat first|with_reducible refine fj ?_|simp only[t1,hs1,ne_eq,gt_iff_lt,fL,gV,iW,iK,aQ,go_sem,simprocAttr]
   refine gf (F:=[aq (a),aq ((s:Nat):Int)]) (qn (a) (s) aa aa) ?_
   repeat first|with_reducible refine fj ?_|simp only[ne_eq,gt_iff_lt,fL,gV,iW,iK,aQ,go_sem,simprocAttr]
   refine gf (F:=[aq (b),aq ((s:Nat):Int)]) (qn (b) (s) aa aa) ?_
   repeat first|with_reducible refine fj ?_|simp only[ne_eq,gt_iff_lt,fL,gV,iW,iK,aQ,go_sem,simprocAttr]
   refine gf (gq (a*2^s) (b*2^s)) ?_;simp only[iv];refine dp ?_;exact dU
  ·rw[show gg 16 (a,b) (c,d)=(0,4294967295) by
    show(if c≠d\/4294967295 / 2^(c%32).toNat<b then((0,4294967295):Iv) else(a*2^(c%32).toNat,b*2^(c%32).toNat))=_
    exact if_pos (.inl q)]
   repeat first|with_reducible refine fj ?_|simp only[t1,hs1,q,ne_eq,gt_iff_lt,fL,gV,iW,iK,aQ,go_sem,simprocAttr]
   refine gf iQ ?_;simp only[iv];refine dp ?_;exact dU
 ·by_cases q:d<=31
  ·obtain⟨u,hu⟩:∃u:Nat,d=u:=⟨d.toNat,aa⟩;obtain⟨v,hv⟩:∃v:Nat,c=v:=⟨c.toNat,aa⟩;have b0:0<=a / 2^u:=apW hx1 (Int.le_of_lt (Int.pow_pos ag));have b1:b / 2^v<=b:=apZ _ aa;rw[show gg 17 (a,b) (c,d)=if a / 2^u<0\/4294967295<b / 2^v then(0,4294967295) else(a / 2^u,b / 2^v) by
    rw[if_neg aa,hu,hv];exact if_pos (show(u:Int)<=31 by omega)]
   subst hu hv
   repeat first|with_reducible refine fj ?_|simp only[t1,q,ne_eq,gt_iff_lt,fL,gV,iW,iK,aQ,go_sem,simprocAttr]
   refine gf (F:=[aq (a),aq ((u:Nat):Int)]) (lr (a) (u) aa aa) ?_
   repeat first|with_reducible refine fj ?_|simp only[ne_eq,gt_iff_lt,fL,gV,iW,iK,aQ,go_sem,simprocAttr]
   refine gf (F:=[aq (b),aq ((v:Nat):Int)]) (lr (b) (v) aa aa) ?_
   repeat first|with_reducible refine fj ?_|simp only[ne_eq,gt_iff_lt,fL,gV,iW,iK,aQ,go_sem,simprocAttr]
   refine gf (gq (a / 2^u) (b / 2^v)) ?_;simp only[iv];refine dp ?_;exact dU
  ·by_cases q2:c=d
   ·subst q2;obtain⟨s,hs⟩:∃s:Nat,s=(c%32).toNat:=⟨_,rfl⟩;have hs1:c%32=s:=aa;have b0:0<=a / 2^s:=apW hx1 (Int.le_of_lt (Int.pow_pos ag));have b1:b / 2^s<=b:=apZ _ aa;rw[show gg 17 (a,b) (c,c)=if a / 2^s<0\/4294967295<b / 2^s then(0,4294967295) else(a / 2^s,b / 2^s) by
     rw[if_neg aa,hs];exact(if_neg (show ¬c<=31 from q)).trans (if_pos rfl)]
    repeat first|with_reducible refine fj ?_|simp only[t1,hs1,q,ne_eq,gt_iff_lt,fL,gV,iW,iK,aQ,go_sem,simprocAttr]
    refine gf (F:=[aq (a),aq ((s:Nat):Int)]) (lr (a) (s) aa aa) ?_
    repeat first|with_reducible refine fj ?_|simp only[ne_eq,gt_iff_lt,fL,gV,iW,iK,aQ,go_sem,simprocAttr]
    refine gf (F:=[aq (b),aq ((s:Nat):Int)]) (lr (b) (s) aa aa) ?_
    repeat first|with_reducible refine fj ?_|simp only[ne_eq,gt_iff_lt,fL,gV,iW,iK,aQ,go_sem,simprocAttr]
    refine gf (gq (a / 2^s) (b / 2^s)) ?_;simp only[iv];refine dp ?_;exact dU
   ·rw[show gg 17 (a,b) (c,d)=if(0:Int)<0\/4294967295<b then(0,4294967295) else(0,b) by
     rw[if_neg aa];exact(if_neg (show ¬d<=31 from q)).trans (if_neg q2)]
    repeat first|with_reducible refine fj ?_|simp only[t1,q,q2,ne_eq,gt_iff_lt,fL,gV,iW,iK,aQ,go_sem,simprocAttr]
    refine gf (gq (0) (b)) ?_;simp only[iv];refine dp ?_;exact dU
 ·rw[show gg 18 (a,b) (c,d)=if jT a c<0\/4294967295<jT b d then(0,4294967295) else(jT a c,jT b d) by rw[if_neg (by unfold jT;split<;>split<;>omega)];rfl]
  unfold jT
  repeat first|with_reducible refine fj ?_|simp only[t1,ne_eq,gt_iff_lt,fL,gV,iW,iK,aQ,go_sem,simprocAttr]
  refine gf (gq (if c<a then c else a) (if d<b then d else b)) ?_
  simp only[iv];refine dp ?_;exact dU
 ·rw[show gg 19 (a,b) (c,d)=if fA a c<0\/4294967295<fA b d then(0,4294967295) else(fA a c,fA b d) by rw[if_neg (by unfold fA;split<;>split<;>omega)];rfl]
  unfold fA
  repeat first|with_reducible refine fj ?_|simp only[t1,ne_eq,gt_iff_lt,fL,gV,iW,iK,aQ,go_sem,simprocAttr]
  refine gf (gq (if a<c then c else a) (if b<d then d else b)) ?_
  simp only[iv];refine dp ?_;exact dU
 ·rw[show gg 20 (a,b) (c,d)=(0,4294967295) from rfl]
  repeat first|with_reducible refine fj ?_|simp only[t1,ne_eq,gt_iff_lt,fL,gV,iW,iK,aQ,go_sem,simprocAttr]
  refine gf iQ ?_;simp only[iv];refine dp ?_;exact dU
theorem xt(a b:Int)(ha:0<=a/\a<=4294967295)(hb:0<=b/\b<=4294967295):gw av 221 [.n .u32 a,.n .u32 b] [.v (.n .u32 (Ba a b))]:=by
 refine fe fx VJ ⟨ae,ag⟩ ?_;simp only[fy];have h16:(0:Int)<=16:=ag;have hb32:IntKind.u32.bits=32:=rfl;have e16':(2:Int)^min (Int.toNat 16) IntKind.u32.bits=65536:=ag
 repeat first|with_reducible refine fj ?_|simp only[vn,gI h16,go_sem,simprocAttr]
 have x:∀a b,bits .xor .u32 a b=yV a b:=λ_ _=>rfl;have e:(2:Int)^min 16 32=65536:=ag
 try simp only[x,e]
 exact dU
theorem nQ(op a b:Int)(h1:8<=op)(h2:op<=20)(ha:0<=a/\a<=4294967295)(hb:0<=b/\b<=4294967295)(hz:(op=11\/op=12)->b≠0):gw av 185 [aq op,.n .u32 a,.n .u32 b] [.v (.n .u32 (ic op a b)),.v (aq 0)]:=by
 refine fe fx VV ⟨ae,ag⟩ ?_;simp only[fy];have h0:=Int.emod_nonneg b (show(32:Int)≠0 by decide)
 have h3:=aqj b (show(0:Int)<32 by decide)
 have w32:Int.tmod b 32=b%32:=xG b hb.1;have hb32:IntKind.u32.bits=32:=rfl;have hop:op=8\/op=9\/op=10\/op=11\/op=12\/op=13\/op=14\/op=15\/op=16\/op=17\/op=18\/op=19\/op=20:=aa;rcases hop with rfl|rfl|rfl|rfl|rfl|rfl|rfl|rfl|rfl|rfl|rfl|rfl|rfl
 ·repeat first|with_reducible refine fj ?_|simp only[ne_eq,gt_iff_lt,ge_iff_le,fL,gV,iW,iK,fT,fS,aQ,go_sem,simprocAttr]
  exact aq7
 ·repeat first|with_reducible refine fj ?_|simp only[ne_eq,gt_iff_lt,ge_iff_le,fL,gV,iW,iK,fT,fS,aQ,go_sem,simprocAttr]
  exact aq7
 ·repeat first|with_reducible refine fj ?_|simp only[ne_eq,gt_iff_lt,ge_iff_le,fL,gV,iW,iK,fT,fS,aQ,go_sem,simprocAttr]
  exact aq7
 ·have hz:=hz (.inl rfl);have hd:=nW ha.1 hb.1;have w:IntKind.u32.wrap (Int.tdiv a b)=a / b:=by rw[apO ha.1];exact sG aa
  repeat first|with_reducible refine fj ?_|simp only[lJ hz,hz,if_false,gp,w,ne_eq,gt_iff_lt,ge_iff_le,fL,gV,iW,iK,fT,fS,aQ,go_sem,simprocAttr]
  exact aq7
 ·have hz:=hz (.inr rfl);have w:Int.tmod a b=a%b:=Int.tmod_eq_emod_of_nonneg ha.1
  repeat first|with_reducible refine fj ?_|simp only[DI hz,hz,if_false,gp,w,ne_eq,gt_iff_lt,ge_iff_le,fL,gV,iW,iK,fT,fS,aQ,go_sem,simprocAttr]
  exact aq7
 ·repeat first|with_reducible refine fj ?_|simp only[DK,ne_eq,gt_iff_lt,ge_iff_le,fL,gV,iW,iK,fT,fS,aQ,go_sem,simprocAttr]
  exact aq7
 ·repeat first|with_reducible refine fj ?_|simp only[DJ,ne_eq,gt_iff_lt,ge_iff_le,fL,gV,iW,iK,fT,fS,aQ,go_sem,simprocAttr]
  exact aq7
 ·repeat first|with_reducible refine fj ?_|simp only[vn,ne_eq,gt_iff_lt,ge_iff_le,fL,gV,iW,iK,fT,fS,aQ,go_sem,simprocAttr]
  exact aq7
 ·repeat first|with_reducible refine fj ?_|simp only[gp,w32,sS h0,ne_eq,gt_iff_lt,ge_iff_le,fL,gV,iW,iK,fT,fS,aQ,go_sem,simprocAttr]
  exact aq7
 ·repeat first|with_reducible refine fj ?_|simp only[gp,w32,gI h0,ne_eq,gt_iff_lt,ge_iff_le,fL,gV,iW,iK,fT,fS,aQ,go_sem,simprocAttr]
  exact aq7
 ·repeat first|with_reducible refine fj ?_|simp only[ne_eq,gt_iff_lt,ge_iff_le,fL,gV,iW,iK,fT,fS,aQ,go_sem,simprocAttr]
  exact aq7
 ·repeat first|with_reducible refine fj ?_|simp only[ne_eq,gt_iff_lt,ge_iff_le,fL,gV,iW,iK,fT,fS,aQ,go_sem,simprocAttr]
  exact aq7
 ·repeat first|with_reducible refine fj ?_|simp only[ne_eq,gt_iff_lt,ge_iff_le,fL,gV,iW,iK,fT,fS,aQ,go_sem,simprocAttr]
  refine gf (xt a b ha hb) ?_;rw[show ic 20 a b=Ba a b by simp[ic]]
  repeat first|with_reducible refine fj ?_|simp only[ne_eq,gt_iff_lt,ge_iff_le,fL,gV,iW,iK,fT,fS,aQ,go_sem,simprocAttr]
  exact aq7
theorem zj(k:Int)(h0:0<=k)(hk:k<36):gw av 163 [aq k] [.v (yk (kc k).1),.v (yk (kc k).2),.v (.b true)]:=by
 refine fe fx V6 ⟨ae,ag⟩ ?_;simp only[fy,yk];rcases(show k=0\/k=1\/k=2\/k=3\/k=4\/k=5\/k=6\/k=7\/k=8\/k=9\/k=10\/k=11\/k=12\/k=13\/k=14\/k=15\/k=16\/k=17\/k=18\/k=19\/k=20\/k=21\/k=22\/k=23\/k=24\/k=25\/k=26\/k=27\/k=28\/k=29\/k=30\/k=31\/k=32\/k=33\/k=34\/k=35 by omega) with rfl|rfl|rfl|rfl|rfl|rfl|rfl|rfl|rfl|rfl|rfl|rfl|rfl|rfl|rfl|rfl|rfl|rfl|rfl|rfl|rfl|rfl|rfl|rfl|rfl|rfl|rfl|rfl|rfl|rfl|rfl|rfl|rfl|rfl|rfl|rfl
 all_goals
  repeat first|with_reducible refine fj ?_|simp only[ne_eq,gt_iff_lt,ge_iff_le,fL,gV,iW,iK,fT,fS,aQ,go_sem,simprocAttr]
  exact asx
theorem vE{op:Int}{x y:Iv}(hx:iJ x)(hy:iJ y)(h1:8<=op)(h2:op<=20):gw av 168 [aq op,iv x,iv y] [.v (iv (fZ op x y).1),.v (aq (fZ op x y).2)]:=by
 obtain⟨a,b⟩:=x;obtain⟨c,d⟩:=y;have hx':=hx;have hy':=hy;obtain⟨hx1,hx2,hx3⟩:=hx;obtain⟨hy1,hy2,hy3⟩:=hy;dsimp only at hx1 hx2 hx3 hy1 hy2 hy3;have q1:¬op<8:=aa;have q2:¬26<op:=aa;have q3:¬20<op:=aa;refine fe fx Xu ⟨ae,ag⟩ ?_;simp only[fy,iv];refine dp ?_;refine gf (j8 hx') ?_
 repeat first|with_reducible refine fj ?_|simp only[ne_eq,gt_iff_lt,ge_iff_le,fL,gV,iW,iK,fT,fS,aQ,go_sem,simprocAttr]
 refine gf (j8 hy') ?_;by_cases hz:c=0/\(op=11\/op=12)
 ·rw[show fZ op (a,b) (c,d)=((0,0),17) from if_pos hz];obtain⟨z1,z2⟩:=hz;rcases z2 with rfl|rfl
  ·repeat first|with_reducible refine fj ?_|simp only[z1,q1,q2,q3,ne_eq,gt_iff_lt,ge_iff_le,fL,gV,iW,iK,fT,fS,aQ,go_sem,simprocAttr]
   exact aq7
  ·repeat first|with_reducible refine fj ?_|simp only[z1,q1,q2,q3,ne_eq,gt_iff_lt,ge_iff_le,fL,gV,iW,iK,fT,fS,aQ,go_sem,simprocAttr]
   exact aq7
 have hzz:(op=11\/op=12)->c≠0:=λh e=>hz ⟨e,h⟩;have hd:(op=11\/op=12)=False\/(op=11\/op=12)=True:=by
  by_cases h:op=11\/op=12
  ·exact .inr (eq_true h)
  ·exact .inl (eq_false h)
 have key:∀{G:Prop},(op=11->c≠0->G)->(op≠11->op=12->c≠0->G)->(op≠11->op≠12->G)->G:=λ{G} k1 k2 k3=>by
  by_cases o1:op=11
  ·exact k1 o1 (hzz (.inl o1))
  ·by_cases o2:op=12
   ·exact k2 o1 o2 (hzz (.inr o2))
   ·exact k3 o1 o2
 by_cases he:a=b/\c=d
 ·obtain⟨rfl,rfl⟩:=he;rw[show fZ op (a,a) (c,c)=((ic op a c,ic op a c),0) from(if_neg hz).trans (if_pos ⟨rfl,rfl⟩)];have w1:IntKind.u32.wrap a=a:=sG ⟨hx1,hx3⟩;have w2:IntKind.u32.wrap c=c:=sG ⟨hy1,hy3⟩;have har:=pk ⟨h1,h2⟩ ⟨hx1,hx3⟩ ⟨hy1,hy3⟩ (λe=>⟨λo=>hzz (.inl o) e,λo=>hzz (.inr o) e⟩);refine key (λo1 o2=>?_) (λo1 o2 o3=>?_) (λo1 o2=>?_)
  ·repeat first|with_reducible refine fj ?_|simp only[o1,o2,w1,w2,q1,q2,q3,ne_eq,gt_iff_lt,ge_iff_le,fL,gV,iW,iK,fT,fS,aQ,go_sem,simprocAttr]
   refine gf (F:=[aq 11,.n .u32 a,.n .u32 c]) (by rw[<-o1];exact nQ op a c h1 h2 ⟨hx1,hx3⟩ ⟨hy1,hy3⟩ hzz) ?_
   repeat first|with_reducible refine fj ?_|simp only[ne_eq,gt_iff_lt,ge_iff_le,fL,gV,iW,iK,fT,fS,aQ,go_sem,simprocAttr]
   refine gf (F:=[.n .u32 (ic op a c)]) (ki _ har) ?_;simp only[iv]
   repeat first|with_reducible refine fj ?_|simp only[ne_eq,gt_iff_lt,ge_iff_le,fL,gV,iW,iK,fT,fS,aQ,go_sem,simprocAttr]
   exact⟨[_,_],rfl,⟨by rw[<-o1],rfl⟩,⟨rfl,rfl⟩,trivial⟩
  ·repeat first|with_reducible refine fj ?_|simp only[o1,o2,o3,w1,w2,q1,q2,q3,ne_eq,gt_iff_lt,ge_iff_le,fL,gV,iW,iK,fT,fS,aQ,go_sem,simprocAttr]
   refine gf (F:=[aq 12,.n .u32 a,.n .u32 c]) (by rw[<-o2];exact nQ op a c h1 h2 ⟨hx1,hx3⟩ ⟨hy1,hy3⟩ hzz) ?_
   repeat first|with_reducible refine fj ?_|simp only[ne_eq,gt_iff_lt,ge_iff_le,fL,gV,iW,iK,fT,fS,aQ,go_sem,simprocAttr]
   refine gf (F:=[.n .u32 (ic op a c)]) (ki _ har) ?_;simp only[iv]
   repeat first|with_reducible refine fj ?_|simp only[ne_eq,gt_iff_lt,ge_iff_le,fL,gV,iW,iK,fT,fS,aQ,go_sem,simprocAttr]
   exact⟨[_,_],rfl,⟨by rw[<-o2],rfl⟩,⟨rfl,rfl⟩,trivial⟩
  ·repeat first|with_reducible refine fj ?_|simp only[o1,o2,w1,w2,q1,q2,q3,ne_eq,gt_iff_lt,ge_iff_le,fL,gV,iW,iK,fT,fS,aQ,go_sem,simprocAttr]
   refine gf (nQ op a c h1 h2 ⟨hx1,hx3⟩ ⟨hy1,hy3⟩ hzz) ?_
   repeat first|with_reducible refine fj ?_|simp only[ne_eq,gt_iff_lt,ge_iff_le,fL,gV,iW,iK,fT,fS,aQ,go_sem,simprocAttr]
   refine gf (F:=[.n .u32 (ic op a c)]) (ki _ har) ?_;simp only[iv]
   repeat first|with_reducible refine fj ?_|simp only[ne_eq,gt_iff_lt,ge_iff_le,fL,gV,iW,iK,fT,fS,aQ,go_sem,simprocAttr]
   exact aq7
 rw[show fZ op (a,b) (c,d)=(gg op (a,b) (c,d),0) from(if_neg hz).trans (if_neg he)];have hA:=vD hx' hy' ⟨h1,h2⟩ (λe=>⟨λo=>hzz (.inl o) e,λo=>hzz (.inr o) e⟩);have hab:a≠b\/(a=b/\c≠d):=by
  by_cases e:a=b
  ·exact .inr ⟨e,λe2=>he ⟨e,e2⟩⟩
  ·exact .inl e
 have key2:∀{G:Prop},(a≠b->G)->(a=b->c≠d->G)->G:=λ{G} k1 k2=>by
  rcases hab with h|h
  ·exact k1 h
  ·exact k2 h.1 h.2
 refine key2 (λp1=>?_) (λp1 p2=>?_)
 ·refine key (λo1 o2=>?_) (λo1 o2 o3=>?_) (λo1 o2=>?_)
  ·repeat first|with_reducible refine fj ?_|simp only[o1,o2,p1,q1,q2,q3,ne_eq,gt_iff_lt,ge_iff_le,fL,gV,iW,iK,fT,fS,aQ,go_sem,simprocAttr]
   refine gf (F:=[aq 11,aq a,aq b,iv (c,d)]) (by rw[<-o1];exact hA) ?_
   simp only[iv]
   repeat first|with_reducible refine fj ?_|simp only[ne_eq,gt_iff_lt,ge_iff_le,fL,gV,iW,iK,fT,fS,aQ,go_sem,simprocAttr]
   exact asz
  ·repeat first|with_reducible refine fj ?_|simp only[o1,o2,o3,p1,q1,q2,q3,ne_eq,gt_iff_lt,ge_iff_le,fL,gV,iW,iK,fT,fS,aQ,go_sem,simprocAttr]
   refine gf (F:=[aq 12,aq a,aq b,iv (c,d)]) (by rw[<-o2];exact hA) ?_
   simp only[iv]
   repeat first|with_reducible refine fj ?_|simp only[ne_eq,gt_iff_lt,ge_iff_le,fL,gV,iW,iK,fT,fS,aQ,go_sem,simprocAttr]
   exact asA
  ·repeat first|with_reducible refine fj ?_|simp only[o1,o2,p1,q1,q2,q3,ne_eq,gt_iff_lt,ge_iff_le,fL,gV,iW,iK,fT,fS,aQ,go_sem,simprocAttr]
   refine gf (F:=[aq op,aq a,aq b,iv (c,d)]) (by exact hA) ?_
   simp only[iv]
   repeat first|with_reducible refine fj ?_|simp only[ne_eq,gt_iff_lt,ge_iff_le,fL,gV,iW,iK,fT,fS,aQ,go_sem,simprocAttr]
   exact asA
 ·subst p1;refine key (λo1 o2=>?_) (λo1 o2 o3=>?_) (λo1 o2=>?_)
  ·repeat first|with_reducible refine fj ?_|simp only[o1,o2,p2,q1,q2,q3,ne_eq,gt_iff_lt,ge_iff_le,fL,gV,iW,iK,fT,fS,aQ,go_sem,simprocAttr]
   refine gf (F:=[aq 11,aq a,aq a,iv (c,d)]) (by rw[<-o1];exact hA) ?_
   simp only[iv]
   repeat first|with_reducible refine fj ?_|simp only[ne_eq,gt_iff_lt,ge_iff_le,fL,gV,iW,iK,fT,fS,aQ,go_sem,simprocAttr]
   exact asz
  ·repeat first|with_reducible refine fj ?_|simp only[o1,o2,o3,p2,q1,q2,q3,ne_eq,gt_iff_lt,ge_iff_le,fL,gV,iW,iK,fT,fS,aQ,go_sem,simprocAttr]
   refine gf (F:=[aq 12,aq a,aq a,iv (c,d)]) (by rw[<-o2];exact hA) ?_
   simp only[iv]
   repeat first|with_reducible refine fj ?_|simp only[ne_eq,gt_iff_lt,ge_iff_le,fL,gV,iW,iK,fT,fS,aQ,go_sem,simprocAttr]
   exact asA
  ·repeat first|with_reducible refine fj ?_|simp only[o1,o2,p2,q1,q2,q3,ne_eq,gt_iff_lt,ge_iff_le,fL,gV,iW,iK,fT,fS,aQ,go_sem,simprocAttr]
   refine gf (F:=[aq op,aq a,aq a,iv (c,d)]) (by exact hA) ?_
   simp only[iv]
   repeat first|with_reducible refine fj ?_|simp only[ne_eq,gt_iff_lt,ge_iff_le,fL,gV,iW,iK,fT,fS,aQ,go_sem,simprocAttr]
   exact asA
def sC(l:List Vl)(i j:Nat):AV:=if j=0 then .b (l.getD i v0).1 else if j=1 then aq (l.getD i v0).2.1 else aq (l.getD i v0).2.2
theorem Ap(l:List Vl)(i:Nat):sC l i 0= .b (l.getD i v0).1:=rfl
theorem za(l:List Vl)(i:Nat):sC l i 1= aq (l.getD i v0).2.1:=rfl
theorem wU(l:List Vl)(i:Nat):sC l i 2= aq (l.getD i v0).2.2:=rfl
theorem kH(l:List Vl)(i j:Nat):(sC l i j).cell=true:=by unfold sC;(repeat' split)<;>rfl
theorem fk(l:List Vl)(i j:Nat):(sC l i j).pu 3=true:=by unfold sC;(repeat' split)<;>rfl
theorem am5(l:List Vl)(i j:Nat):(sC l i j).sc 3=true:=by unfold sC;(repeat' split)<;>rfl
theorem DL(l:List Vl)(p:Nat->Bool)(i j:Nat):(sC l i j).nm p 3=true:=by unfold sC;(repeat' split)<;>rfl
theorem Ao(l:List Vl)(q i j:Nat):sC (l.drop q) i j=sC l (q+i) j:=by simp only[sC,apd,aqf]
theorem Am(l:List Vl)(q i j:Nat)(h:i<q):sC (l.take q) i j=sC l i j:=by simp only[sC,apd,List.getElem?_take,if_pos h]
def pS(l:List (List Iv))(i _j:Nat):AV:= .fs 2 (l.getD i []).length (vC (l.getD i []))
def Gv(la:ao)(loc:Int)(cs:am)(j:Nat):AV:=if j=0 then .fs 2 la.length (pA la) else if j=1 then aq loc else .fs 2 cs.length (pI cs)
def kv(la:ao)(loc:Int)(cs:am)(pt:List Int)(r:Nat)(S:WS):List AV:=
 [.fs 2 la.length (pA la),aq loc,.fs 2 cs.length (pI cs),.fs 1 pt.length (iC pt),.f 57 [] [],.f 58 [] [.fp 3 (Gv la loc cs) 0],.fs 2 S.loc.length (vC S.loc),.os 1 S.st.length,aq S.ht,.os 2 S.lv.length,.cv (.map (some r))]
def wH(la:ao)(loc:Int)(cs:am)(pt:List Int)(r:Nat)(S:WS):List AB:=
 [fg 46 1 S.lv.length 0 (pS S.lv),fg 221 3 S.st.length 0 (sC S.st),eZ 0 124 (kv la loc cs pt r S)]
theorem xJ{i:Nat}(h:i<11):i=0\/i=1\/i=2\/i=3\/i=4\/i=5\/i=6\/i=7\/i=8\/i=9\/i=10:=aa
theorem js.wk{r:Nat->Option Nat}{M:List Nat}{H:AH}{b ty:Nat}{l:List AV}{x:AB}(hx:H.at b=some x:=by simp only[go_sem,simprocAttr]<;>rfl)(h1:x.ty=ty:=by rfl)(h2:x.esz=0:=by rfl)(h3:x.opn=false:=by rfl)(h4:x.size=l.length:=by rfl)(h5:x.fzn=0:=by rfl)(hM:M.contains b=false:=by rfl)(hl:l.length=11:=by rfl)
  (hg:∀i,i<11->Wv r M H (x.get i) (l[i]?.getD .u):=by intro i hi;rcases(show i=0\/i=1\/i=2\/i=3\/i=4\/i=5\/i=6\/i=7\/i=8\/i=9\/i=10 from xJ hi) with rfl|rfl|rfl|rfl|rfl|rfl|rfl|rfl|rfl|rfl|rfl<;>(simp only[go_sem,simprocAttr];first|exact Wv.same rfl|exact Wv.os rfl)):js r M H b (eZ 0 ty l):=
 .lstj hx h1 h2 h3 h4 h5 hM aa (λi hi=>hg i aa)
def Zk{α:Type}(r:Except Er α)(c:List PanicEntry)(_:AH):Prop:=∃x,r= .error x/\c=kY x.1 x.2
section
variable (la:ao) (loc:Int) (cs:am) (pt:List Int) (r:Nat) (ob:Nat->Option OB)
def r8(p:Int)(h:Nat)(S:WS):Except Er Unit:=if S.st.length=h then .ok () else .error (p,14)
theorem oK(p:Int)(h:Nat)(S:WS)(hS:S.st.length<100000):PC av fV 56 [.p 0 0,aq p,aq h] (ft ob (wH la loc cs pt r S)) (λv H'=>r8 p h S= .ok ()/\v= .tup []/\H'=ft ob (wH la loc cs pt r S)) (Zk (r8 p h S)):=by
 refine PC.vw (gX ahS ⟨ae,ag⟩ ?_);simp only[fy,wH,kv];by_cases e:S.st.length=h
 ·have e':(S.st.length:Int)=h:=aa;refine a8 e' ?_;refine iR (jd p 14) ?_;refine a7 ?_;exact mj (ob:=ob) [2,1,0] [] (.tup []) _ bb (.cv (.rfl rfl)) ae (λr x h=>by simp only[go_sem,simprocAttr];exact h) (fh rfl) ⟨if_pos e,rfl,rfl⟩
 ·have e':¬(S.st.length:Int)=h:=aa;refine a8 e' ?_;exact fP [] (fargs:=[.b false,aq p,aq 14]) (ja.same rfl) (jK p 14) ⟨(p,14),if_neg e,rfl⟩
/-! ### push-/
theorem js.appfn{ro:Nat->Option Nat}{M:List Nat}{H:AH}{b ty esz n k z o:Nat}{row row1 row2:Nat->Nat->AV}(hx:H.at b=some ((fg ty esz n z row).app o (.fn (k*esz) λi=>row1 (i / esz) (i%esz))))(ho:o=n*esz)(hM:M.contains b=false)(h0:0<esz)(hn:(n+k)*esz<2^40)
  (h1:∀i j,i<n->j<esz->row2 i j=row i j) (h2:∀i j,i<k->j<esz->row2 (n+i) j=row1 i j) (hc:∀i j,i<n+k->j<esz->(row2 i j).pu 3=true):js ro M H b (fg ty esz (n+k) z row2):=by
 subst ho;refine js.rows hx (AB.app_rest _ _ _).2.1 (AB.app_rest _ _ _).1 (AB.app_rest _ _ _).2.2.1 ?_ ?_ h0 (λi j hi hj=>?_) hc
 ·rw[AB.app_size];simp only[ke.len,Nat.add_mul];exact bL _
 ·exact ark
 ·rw[tX hj hi hn];by_cases h:n<=i
  ·rw[if_pos h,<-h2 (i-n) j aa hj,show n+(i-n)=i by omega]
  ·rw[if_neg h,fI i j hj,h1 i j aa hj]
theorem lu(p:Int)(l:List Vl)(hl:0<l.length/\l.length<1000)(S:WS)(hS:S.st.length<1000)(hht:0<=S.ht/\S.ht<1000000):PC av fV 124 [.p 0 0,aq p,.fs 3 l.length (sC l)] (ft ob (wH la loc cs pt r S)) (λv H'=>∃S',gH p l S= .ok S'/\v= .tup []/\H'=ft ob (wH la loc cs pt r S')) (Zk (gH p l S)):=by
 refine PC.vw (gX agw ⟨ae,ag⟩ ?_);simp only[fy,wH,kv];have hap:((S.st.length+l.length)*3<1099511627776/\(S.st.length+l.length)*24<=140737488355328)/\S.st.length+l.length<=9223372036854775807:=⟨⟨aa,aa⟩,aa⟩;have hlen:(S.st++l).length=S.st.length+l.length:=ape;by_cases e:S.st.length+l.length<=32
 ·have e':((S.st.length+l.length:Nat):Int)<=32:=aa;refine a8 (aU hap e') ?_;refine iR (jd p 14) ?_;refine a7 ?_;refine mj (ob:=ob) [2,3,0] [] (.tup []) (wH la loc cs pt r {S with st:=S.st++l,ht:=fA S.ht ((S.st++l).length:Nat)}) ?_ (.cv (.rfl rfl)) (by simp[wH]) (λr x h=>by simp only[go_sem,simprocAttr];exact h) (fh rfl) ⟨_,if_pos aa,rfl,rfl⟩
  simp only[wH,kv,hlen];refine .cr (.k2 (λ_ _ _ _=>rfl)) (.cr (.appfn (row1:=sC l) ai rfl rfl ag aa (λi j hi hj=>?_) (λi j hi hj=>?_) (λi j _ _=>fk _ i j)) bb)
  ·simp only[sC,apd,apF hi]
  ·simp only[sC,apd,apP (Nat.le_add_right _ _),Nat.add_sub_cancel_left]
 ·have e':¬((S.st.length+l.length:Nat):Int)<=32:=aa;refine a8 (aU hap e') ?_;exact fP [] (fargs:=[.b false,aq p,aq 14]) (ja.same rfl) (jK p 14) ⟨(p,14),if_neg aa,rfl⟩
/-! ### pop-/
theorem tF:uk 9 .b (.b true) (.b true)=some true:=id rfl
theorem tG:uk 9 .b (.b true) (.b false)=some false:=id rfl
theorem tI:uk 9 .b (.b false) (.b true)=some false:=id rfl
theorem tJ:uk 9 .b (.b false) (.b false)=some true:=id rfl
theorem uG{l:List Vl}{ty:List UInt8}{j:Nat}(h1:j<l.length)(h2:j<ty.length):l7 (l.drop j) (ty.drop j)=(MT (ty.getD j 0) (l.getD j v0)&&l7 (l.drop (j+1)) (ty.drop (j+1))):=by
 rw[ir (d:=v0) h1,ir (d:=0) h2,l7]
theorem Ga{ty:List UInt8}{j:Nat}(h:j<ty.length):(ByteArray.mk ty.toArray)[j]? =some (ty.getD j 0):=by
 rw[apd,apk h];have hs:j<(ByteArray.mk ty.toArray).size:=by simpa [ByteArray.size] using h
 rw[getElem?_pos (ByteArray.mk ty.toArray) j hs];rfl
theorem vF(p:Int)(base:Nat)(ty:List UInt8)(hty:ty.length<100)(hbase:base<100000)(S:WS)(hS:S.st.length<1000):PC av fV 88 [.p 0 0,aq p,aq base,.s ⟨ty.toArray⟩] (ft ob (wH la loc cs pt r S)) (λv H'=>∃l S',jS p base ty S= .ok (l,S')/\v= .fs 3 l.length (sC l)/\H'=ft ob (wH la loc cs pt r S')) (Zk (jS p base ty S)):=by
 refine PC.vw (gX ah6 ⟨ae,ag⟩ ?_);simp only[fy,wH,kv];have hts:(ByteArray.mk ty.toArray).size=ty.length:=by simp[ByteArray.size]
 have w:IntKind.i64.wrap ((S.st.length:Int)-ty.length)=(S.st.length:Int)-ty.length:=ff aa;by_cases h1:S.st.length<base+ty.length
 ·have h1':¬(base:Int)<=(S.st.length:Int)-ty.length:=aa;refine bh (aU hts (aU w h1')) ?_;exact fP [] (fargs:=[.b false,aq p,aq 14]) (ja.same rfl) (jK p 14) ⟨(p,14),by unfold jS;rw[if_pos h1],rfl⟩
 obtain⟨q,hq⟩:∃q,q=S.st.length-ty.length:=⟨_,rfl⟩;have hqi:(S.st.length:Int)-ty.length=q:=aa;have h1':(base:Int)<=(q:Int):=aa;have wq:IntKind.i64.wrap (q:Int)=q:=ff aa;obtain⟨tl,htl⟩:∃tl,tl=S.st.drop q:=⟨_,rfl⟩;have hk:tl.length=ty.length:=by rw[htl,aqa];omega
 have hpop:jS p base ty S=if l7 tl ty=true then .ok (tl,{S with st:=S.st.take q}) else .error (p,13):=by
  unfold jS;rw[if_neg h1,<-hq,<-htl]
 have hrow:∀i j,sC tl i j=sC S.st (q+i) j:=λi j=>by rw[htl,Ao]
 refine bh (aU hts (aU hqi (aU wq h1'))) ?_;refine iR (jd p 14) ?_
 (try simp only[go_sem,simprocAttr])
 iterate 1 (with_reducible refine GE.go fx rfl ?_;try simp only[go_sem,simprocAttr])
 refine GE.cut (fu [(0,.p 0 0),(1,aq p),(3,.s ⟨ty.toArray⟩),(9,aq q),(10,.fs 3 tl.length (sC tl))]) (ft ob (wH la loc cs pt r S)) ?_ ?_
 ·have hWk:∀{H:AH} {e:Tr AV},iT (λb2=>[2,1,0].reverse[b2]?) [3] H e [(0,.p 0 0),(1,aq p),(3,.s ⟨ty.toArray⟩),(9,aq q),(10,.fs 3 tl.length (sC tl))]->ig (λb2=>[2,1,0].reverse[b2]?) [3] H [2,1,0] (wH la loc cs pt r S)->(∀r x,ob r=some x->H.ob r=some x)->gA 72 fV e H (fu [(0,.p 0 0),(1,aq p),(3,.s ⟨ty.toArray⟩),(9,aq q),(10,.fs 3 tl.length (sC tl))]) (ft ob (wH la loc cs pt r S)):=λhe hh hob=>gA.mkO [2,1,0] [3] he hh (by simp[wH]) hob (fh rfl)
  have hcl:gw av 123 [.fs 3 tl.length (sC tl)] [.o 221 3 tl.length 0 (sC tl)]:=zS aa (λi j _ _=>kH tl i j);have hsc:∀r ∈ [RT.o 221 3 tl.length 0 (sC tl)],gR (λa=>a.sc 3=true) r:=λr hr=>by
   cases apy.1 hr;exact λi j _ _=>am5 tl i j
  have hq0:(0:Int)<=(q:Int):=aa;have hqn:(q:Int)<=(S.st.length:Int):=aa;rcases(show q=0\/(0<q/\q<S.st.length)\/(0<q/\q=S.st.length) by omega) with c|c|c
  ·have c0:((q:Int)=0)=True:=eq_true aa;have c1:S.st.length=tl.length:=aa;have c2:(0:Int)<=(S.st.length:Int):=aa;refine bw (aU c0 c2) ?_;refine nA [1] (fargs:=[.fs 3 tl.length (sC tl)]) ?_ hcl ?_ hsc ?_
   ·exact⟨by rw[<-c1];exact .os (x:=fg 221 3 S.st.length 0 (sC S.st)) ae ai (bL _) (λi j hi hj=>(fI i j hj).trans (by rw[hrow,c,apz])) (λi j _ _=>kH tl i j),trivial⟩
   ·exact arT
   refine a7 ?_;refine hWk ?_ ?_ ?_
   ·simp only[iT,ig,go_sem,simprocAttr]
    repeat' refine fE ?_ ?_
    all_goals first|exact jQ|skip
    exact eP
   ·exact bb
   ·exact asC
  ·have c0:¬(q:Int)=0:=aa;have c1:(0:Int)<(q:Int):=aa;have c2:(q:Int)<(S.st.length:Int):=aa;have c3:S.st.length-q=tl.length:=aa;refine bw (aU c0 (aU c1 (aU c2 (aU c3 hqn)))) ?_;refine nA [1] (fargs:=[.fs 3 tl.length (sC tl)]) ?_ hcl ?_ hsc ?_
   ·exact⟨.sl (x:=fg 221 3 S.st.length 0 (sC S.st)) ae ai (by show q*3+tl.length*3<=S.st.length*3;omega) (bL _) (by show 0<S.st.length*3;omega) (λi j hi hj=>by rw[show q*3+i*3+j=(q+i)*3+j by omega,fI _ _ hj,hrow]) (λi j _ _=>kH tl i j),trivial⟩
   ·exact arT
   refine a7 ?_;refine hWk ?_ ?_ ?_
   ·simp only[iT,ig,go_sem,simprocAttr]
    repeat' refine fE ?_ ?_
    all_goals first|exact jQ|skip
    exact eP
   ·exact bb
   ·exact asC
  ·have c0:¬(q:Int)=0:=aa;have c1:(0:Int)<(q:Int):=aa;have c2:¬(q:Int)<(S.st.length:Int):=aa;have c3:((q:Int)=(S.st.length:Int))=True:=eq_true aa;have c4:tl.length=0:=aa;have hz:∀H,ja [1] H [.fs 3 0 (λ_ _=> .u)] [.fs 3 tl.length (sC tl)]:=λH=>by rw[c4];exact⟨.fs (λi j hi=>absurd hi (apg _)),trivial⟩
   refine bw (aU c0 (aU c1 (aU c2 (aU c3 hqn)))) ?_;refine nA [1] (fargs:=[.fs 3 tl.length (sC tl)]) ?_ hcl ?_ hsc ?_
   ·exact⟨(hz _).1,trivial⟩
   ·exact arT
   refine a7 ?_;refine hWk ?_ ?_ ?_
   ·simp only[iT,ig,go_sem,simprocAttr]
    repeat' refine fE ?_ ?_
    all_goals first|exact jQ|skip
    exact eP
   ·exact bb
   ·exact asC
 simp only[wH,kv];refine a7 ?_;refine GE.loop (I:=λm e H=>∃j:Nat,m=tl.length-j/\j<=tl.length/\l7 tl ty=l7 (tl.drop j) (ty.drop j)/\e=fu [(0,.p 0 0),(1,aq p),(3,.s ⟨ty.toArray⟩),(9,aq q),(10,.fs 3 tl.length (sC tl)),(33,.fs 3 tl.length (sC tl)),(34,aq tl.length),(35,aq j)]/\H=ft ob (wH la loc cs pt r S)) (gA.mkO [2,1,0] [] ?_ ?_ (by simp[wH]) ?_ (fh rfl)) ⟨0,rfl,apf _,rfl,rfl,rfl⟩ ?_
 ·exact fK
 ·exact bb
 ·exact asC
 rintro m e H ⟨j,rfl,hj,hs,rfl,rfl⟩;simp only[wH,kv];have hj0:(0:Int)<=(j:Int):=aa;have hq0:(0:Int)<=(q:Int):=aa;have hqn:(q:Int)<=(S.st.length:Int):=aa;have hbk:∀{H:AH} {e:Tr AV} (j':Nat) (a:AV),a= aq (j':Nat)->iT (λb2=>[2,1,0].reverse[b2]?) [] H e [(0,.p 0 0),(1,aq p),(3,.s ⟨ty.toArray⟩),(9,aq q),(10,.fs 3 tl.length (sC tl)),(33,.fs 3 tl.length (sC tl)),(34,aq tl.length),(35,a)]->ig (λb2=>[2,1,0].reverse[b2]?) [] H [2,1,0] (wH la loc cs pt r S)->(∀r x,ob r=some x->H.ob r=some x)->j<tl.length->j'=j+1->l7 tl ty=l7 (tl.drop j') (ty.drop j')->
  ∃m' e2 H2,m'<tl.length-j/\gA 72 fV e H e2 H2/\∃j:Nat,m'=tl.length-j/\j<=tl.length/\l7 tl ty=l7 (tl.drop j) (ty.drop j)/\e2=fu [(0,.p 0 0),(1,aq p),(3,.s ⟨ty.toArray⟩),(9,aq q),(10,.fs 3 tl.length (sC tl)),(33,.fs 3 tl.length (sC tl)),(34,aq tl.length),(35,aq j)]/\H2=ft ob (wH la loc cs pt r S):=λj' a ha he hh hob hjt hj1 hs'=>by
  subst ha;subst hj1;exact⟨_,_,_,aa,gA.mkO [2,1,0] [] he hh (by simp[wH]) hob (fh rfl),j+1,rfl,aa,hs',rfl,rfl⟩
 by_cases hjt:j<tl.length;rotate_left
 ·have hjt':¬(j:Int)<(tl.length:Int):=aa;have hok:l7 tl ty=true:=by
   rw[hs,aqm aa];rfl
  have hmin:min q S.st.length=q:=aa;refine bz (aU hjt' (aU hq0 hqn)) ?_;refine mj (ob:=ob) [2,1,0] [] (.fs 3 tl.length (sC tl)) (wH la loc cs pt r {S with st:=S.st.take q}) ?_ (.cv (.rfl rfl)) (by simp[wH]) (λr x h=>by simp only[go_sem,simprocAttr];exact h) (fh rfl) ⟨tl,_,by rw[hpop,if_pos hok],rfl,rfl⟩
  simp only[wH,kv,apL,hmin];exact .cr (.k2 (λ_ _ _ _=>rfl)) (.cr (.pop (row:=sC S.st) (n:=S.st.length) ah rfl ag aa (λi j hi hj=>(Am S.st q i j hi).symm) (λi j _ _=>fk _ i j)) bb)
 have hjt':(j:Int)<(tl.length:Int):=aa;have wj:=au j;have hby:=Ga (ty:=ty) (j:=j) aa;rw[uG hjt aa] at hs;have hE0:MT (ty.getD j 0) (tl.getD j v0)=false->Zk (jS p base ty S) (kY p 13) (fi []):=λh=>⟨(p,13),by rw[hpop,if_neg (by rw[hs,h];simp)],rfl⟩
 generalize hc:ty.getD j 0=c at*;generalize hv:tl.getD j v0=v at*;have e0:sC tl j 0= .b v.1:=by rw[Ap,hv]
 have e1:sC tl j 1= aq v.2.1:=by rw[za,hv]
 have e2:sC tl j 2= aq v.2.2:=by rw[wU,hv]
 obtain⟨tr,iv0⟩:=v;by_cases c1:c=110
 ·subst c1;cases tr
  ·refine bA (aU hj0 (aU hjt' (aU hby (aU e0 (aU e1 (aU e2 (aU @tF (aU @tG (aU @tI @tJ))))))))) ?_;refine iR (jd p 13) ?_;refine a9 wj ?_;refine hbk (j+1) _ rfl ?_ ?_ ?_ hjt rfl (by rw[hs];rfl)
   ·exact fK
   ·exact bb
   ·exact asC
  ·exact eR
 by_cases c2:c=116
 ·subst c2;cases tr
  ·exact eR
  ·refine bA (aU hj0 (aU hjt' (aU hby (aU e0 (aU e1 (aU e2 (aU @tF (aU @tG (aU @tI @tJ))))))))) ?_;refine iR (jd p 13) ?_;refine a9 wj ?_;refine hbk (j+1) _ rfl ?_ ?_ ?_ hjt rfl (by rw[hs];rfl)
   ·exact fK
   ·exact bb
   ·exact asC
 have n1:¬(c.toNat:Int)=110:=λh=>c1 (UInt8.toNat_inj.1 (show c.toNat=110 by omega))
 have n2:¬(c.toNat:Int)=116:=λh=>c2 (UInt8.toNat_inj.1 (show c.toNat=116 by omega))
 have hok:MT c (tr,iv0)=true:=by
  unfold MT;rw[if_neg c1,if_neg c2]
 refine bA (aU hj0 (aU hjt' (aU hby (aU e0 (aU e1 (aU e2 (aU @tF (aU @tG (aU @tI (aU @tJ (aU n1 n2))))))))))) ?_;refine iR (jd p 13) ?_;refine a9 wj ?_;refine hbk (j+1) _ rfl ?_ ?_ ?_ hjt rfl (by rw[hs,hok];rfl)
 ·exact fK
 ·exact bb
 ·exact asC
end
section
variable (la:ao) (loc:Int) (cs:am) (pt:List Int) (r:Nat) (ob:Nat->Option OB)
theorem gB{n:Nat}{g:FuncId}{args args2:List AV}{e:Tr AV}{H:AH}{L:List (Nat×AV)}{bl2:List AB}{Q':AV->AH->Prop}{E':List PanicEntry->AH->Prop}{Q:AV->Tr AV->AH->Prop}{E:List PanicEntry->AH->Prop}(S:WS)(ρ M:List Nat)
  (h:PC av fV g args2 (ft ob (wH la loc cs pt r S)) Q' E')
  (he:iT (λb2=>ρ.reverse[b2]?) M H e L) (hh:ig (λb2=>ρ.reverse[b2]?) M H ρ (bl2++wH la loc cs pt r S)) (hv:Gk (λb2=>ρ.reverse[b2]?) M H args args2) (hob:∀r x,ob r=some x->H.ob r=some x)
  (hl:bl2.length<1000) (hρ:ρ.reverse[0]? =some 0) (ha:args2.all (AV.nm (λb=>decide (b<3)) 3)=true) (hL:(L.all λp=>decide (p.1<1000000)&&p.2.nm (λb=>fV b||decide (3<=b)) 3)=true) (h2:BN (λb=>fV b||decide (3<=b)) bl2)
  (hQ:∀v H',Q' v H'->∃(S':WS) (ob':Nat->Option OB),H'=ft ob' (wH la loc cs pt r S')/\Q v (fu L) (ft ob' (bl2++wH la loc cs pt r S')))
  (hE:∀c H',E' c H'->E c (fi [])):jr av n fV g args e H Q E:=by
 have hlen:(bl2++wH la loc cs pt r S).length<1000000:=by rw[ape];simp only[wH,List.length_cons,List.length_nil];omega
 refine pX ρ M he hh hv hob hlen (fh hρ) ?_;have hfr:jr av n (λb=>fV b||decide (3<=b)) g args2 (fu L) (ft ob (bl2++wH la loc cs pt r S)) Q E:=
  oQ (bl1:=wH la loc cs pt r S) (e2:=fu L) h hlen (λx hx=>by simp only[wH,apv,aqh,or_false] at hx;rcases hx with rfl|rfl|rfl<;>rfl) (λb hb=>by have:=of_decide_eq_true hb;show b<3;omega)
   (λb x hb hx=>kP (bl:=wH la loc cs pt r S) (by simp[wH]) af b x hb (by rw[qN] at hx;exact hx)) ha
   (λb x _ hx=>(BN.cons (.row ag (λi j _ _=>rfl)) (.cons (.row ag (λi j _ _=>DL _ _ i j)) (.cons (.lst (by simp[kv]) af) .nil)):BN (λb=>decide (b<3)) (wH la loc cs pt r S)) x (nr _ b x (by simp[wH]) hx))
   (λb x hb hx=>h2 x (lF bl2 _ b x hlen hb hx)) ⟨λt v hv=>hv,yQ.nm hL⟩
   (λv H' q=>by
    obtain⟨S',ob',rfl,q2⟩:=hQ v H' q;exact⟨ob',_,rfl,rfl,q2⟩) hE
 refine⟨hfr.1,λB σ a w args' hEn hH ha'=>(hfr.2 B σ a w args' hEn hH ha').mono λen w' hp=>?_⟩;cases en with
 |returned u=>
  obtain⟨v,e',H',σ',r0,r1,r2,r3,r4⟩:=hp;exact asE
 |panicked c=>exact hp
 |outgrown=>exact hp.elim
theorem zN(p:Nat)(hp:p<cs.length)(v:Vl)(S:WS)(ha:0<=(cs.getD p (0,0)).2)(hal:(cs.getD p (0,0)).2<la.length):PC av fV 126 [.p 0 0,aq p,vl v] (ft ob (wH la loc cs pt r S)) (λu H'=>∃x,jA la (cs.getD p (0,0)).2 p v= .ok x/\u=iv x/\H'=ft ob (wH la loc cs pt r S)) (Zk (jA la (cs.getD p (0,0)).2 p v)):=by
 refine PC.vw (gX ags ⟨ae,ag⟩ ?_);simp only[fy,wH,kv,vl];have p0:(0:Int)<=(p:Int):=aa;have p1:(p:Int)<(cs.length:Int):=aa;generalize hx:la.getD (cs.getD p (0,0)).2.toNat (false,0)=x;have e0:pA la (cs.getD p (0,0)).2.toNat 0= .b x.1:=by rw[yN,hx]
 have e1:pA la (cs.getD p (0,0)).2.toNat 1= aq x.2:=by rw[yM,hx]
 have hF:jA la (cs.getD p (0,0)).2 p v=if v.2.2<x.2 then .ok (if x.1=true then(0,4294967295) else(0,255)) else .error ((p:Int),16):=by unfold jA;rw[hx]
 obtain⟨xb,xn⟩:=x;dsimp only at hF e0 e1;by_cases h:v.2.2<xn
 ·refine bA (aU p0 (aU p1 (aU ha (aU hal (aU @td (aU e0 (aU e1 h))))))) ?_;refine iR (jd p 16) ?_;cases xb
  ·refine a7 ?_;refine mj (ob:=ob) [2,1,0] [] (iv (0,255)) (wH la loc cs pt r S) ?_ (.cv (.rfl rfl)) (by simp[wH]) (λr x h=>by simp only[go_sem,simprocAttr];exact h) (fh rfl) ⟨_,by rw[hF,if_pos h];rfl,rfl,rfl⟩
   exact bb
  ·refine a7 ?_;refine iR jc ?_;simp only[iv];refine a7 ?_;refine mj (ob:=ob) [2,1,0] [] (iv (0,4294967295)) (wH la loc cs pt r S) ?_ (.cv (.rfl rfl)) (by simp[wH]) (λr x h=>by simp only[go_sem,simprocAttr];exact h) (fh rfl) ⟨_,by rw[hF,if_pos h];rfl,rfl,rfl⟩
   exact bb
 ·refine bA (aU p0 (aU p1 (aU ha (aU hal (aU @td (aU e0 (aU e1 h))))))) ?_;exact fP [] (fargs:=[.b false,aq p,aq 16]) (ja.same rfl) (jK p 16) ⟨(p,16),by rw[hF,if_neg h],rfl⟩
end
theorem Cv.bs1{M:List Nat}{H:AH}{b:Nat}{x:AB}{v:Vl}(hm:b ∈ M)(hx:H.at b=some x)(hs:x.size=3)(h0:x.get 0= .b v.1)(h1:x.get 1= aq v.2.1)(h2:x.get 2= aq v.2.2):Cv M H (.sl b 0 1 1) (.fs 3 1 (sC [v])):=
 .sl hm hx aa (bL _) aa (λi j hi hj=>by
  obtain rfl:i=0:=aa;rcases(show j=0\/j=1\/j=2 by omega) with rfl|rfl|rfl
  ·exact h0
  ·exact h1
  ·exact h2) (λi j _ _=>kH _ i j)
theorem Cv.bs2{M:List Nat}{H:AH}{b:Nat}{x:AB}{v w:Vl}(hm:b ∈ M)(hx:H.at b=some x)(hs:x.size=6)(h0:x.get 0= .b v.1)(h1:x.get 1= aq v.2.1)(h2:x.get 2= aq v.2.2)(h3:x.get 3= .b w.1)(h4:x.get 4= aq w.2.1)(h5:x.get 5= aq w.2.2):Cv M H (.sl b 0 2 2) (.fs 3 2 (sC [v,w])):=
 .sl hm hx aa (bL _) aa (λi j hi hj=>by
  rcases(show i=0\/i=1 by omega) with rfl|rfl<;>rcases(show j=0\/j=1\/j=2 by omega) with rfl|rfl|rfl
  ·exact h0
  ·exact h1
  ·exact h2
  ·exact h3
  ·exact h4
  ·exact h5) (λi j _ _=>kH _ i j)
section
variable (la:ao) (loc:Int) (cs:am) (pt:List Int) (r:Nat) (ob:Nat->Option OB)
def Gw(op:Int):Prop:=(0<=op/\op<=26)\/(32<=op/\op<=35)
theorem anx:¬(ByteArray.mk #[110]).toList=(ByteArray.mk #[116]).toList:=of_decide_eq_false (by kernel_rfl)
theorem DG{l:List Iv}{q i j ty:Nat}{x:Iv}(hq:q<l.length)(hn:l.length*2<1000000)(hi:i<l.length)(hj:j<2):((fg ty 2 l.length 0 (vC l)).putN (q*2) [aq x.1,aq x.2]).get (i*2+j)=vC (l.set q x) i j:=by
 rw[Ax af hq hn i j hi hj];by_cases e:i=q
 ·subst e;rw[if_pos rfl];rcases uh hj with rfl|rfl
  ·rw[wt,apd,List.getElem?_set,if_pos rfl,if_pos hq];rfl
  ·rw[ws,apd,List.getElem?_set,if_pos rfl,if_pos hq];rfl
 ·have e':¬q=i:=λh=>e h.symm;rw[if_neg e];simp only[vC,apd,List.getElem?_set,if_neg e']
theorem yl(k:Nat)(h:k<36):(kc k).1.length<=2:=(by decide:∀k:Fin 36,(kc (k.val:Int)).1.length<=2) ⟨k,h⟩
theorem D4(hcs:cs.length<=1024)(p:Nat)(hp:p<cs.length)(base:Nat)(hbase:base<100000)(S:WS)(hS:Sm p S)(hst:∀v ∈ S.st,iJ v.2)(hop:Gw (fm cs p))(ha:0<=(cs.getD p (0,0)).2/\(cs.getD p (0,0)).2<=4294967295)
  (hal:fm cs p=3\/fm cs p=4->(cs.getD p (0,0)).2<la.length) (hloc:fm cs p=1\/fm cs p=2->(cs.getD p (0,0)).2<S.loc.length) (hll:S.loc.length<1000):
  PC av fV 89 [.p 0 0,aq p,aq base] (ft ob (wH la loc cs pt r S)) (λv H'=>∃S' b,jm la (fm cs p) (cs.getD p (0,0)).2 p base S= .ok (S',b)/\v=jo b/\H'=ft ob (wH la loc cs pt r S')) (Zk (jm la (fm cs p) (cs.getD p (0,0)).2 p base S)):=by
 refine PC.vw (gX agO ⟨ae,ag⟩ ?_);simp only[fy,wH,kv];have p0:(0:Int)<=(p:Int):=aa;have p1:(p:Int)<(cs.length:Int):=aa;have hel:=zN la loc cs pt r ob p hp;have e0:pI cs p 0= aq (fm cs p):=rfl;have e1:pI cs p 1= .n .u32 (cs.getD p (0,0)).2:=rfl;obtain⟨k,hk36,hk⟩:∃k:Nat,k<36/\fm cs p=k:=⟨(fm cs p).toNat,by unfold Gw at hop;omega,by unfold Gw at hop;omega⟩
 rw[hk] at e0;have hE1:=zP k hk36;rw[<-hk] at hE1;simp only[yk] at hE1;generalize hopv:fm cs p=op at*;generalize harg:(cs.getD p (0,0)).2=arg at*;refine bB (aU p0 (aU p1 (aU e0 e1))) ?_;refine pj [] (fargs:=[aq op]) (by rw[hk];exact ja.same rfl) hE1 ?_ ?_
 ·exact arT
 refine a7 ?_;have hst2:S.st.length<1000:=by have:=hS.st;omega
 have hpop:=vF la loc cs pt r ob p base (kc op).1 (by rw[hk];have:=yl k hk36;omega) hbase S hst2
 refine gB la loc cs pt r ob (args2:=[.p 0 0,aq p,aq base,.s ⟨(kc op).1.toArray⟩]) (L:=[(0,.p 0 0),(1,aq p),(6,.p 3 0),(7,.p 4 0),(9,.s ⟨(kc op).2.toArray⟩)]) (bl2:=[eZ 0 54 [aq op,.n .u32 arg],eZ 0 130 [aq 0,aq 0]]) S [4,3,2,1,0] [] hpop ?_ ?_ ?_ ?_ ae rfl af af (.cons .lq (.cons .lq .nil)) ?_ ?_
 ·exact fK
 ·exact eT
 ·exact asH
 ·exact asC
 rotate_left
 ·rintro c H' ⟨x,hx,rfl⟩;exact⟨x,by unfold jm;rw[hx],rfl⟩
 rintro v H' ⟨l,S1,hpf,rfl,rfl⟩;refine⟨S1,ob,rfl,?_⟩;simp only[wH,kv,List.cons_append,List.nil_append]
 (try simp only[go_sem,simprocAttr])
 iterate 3 (with_reducible refine GE.go fx rfl ?_;try simp only[go_sem,simprocAttr])
 obtain⟨g1,g2,g3⟩:=oD hpf;have h1st:S1.st.length<=32:=by rw[g3];simp only[apL];have:=hS.st;omega
 have h1ht:0<=S1.ht/\S1.ht<=32:=by rw[g3];exact hS.ht
 have h1loc:S1.loc=S.loc:=by rw[g3]
 have hln:l.length=(kc op).1.length:=by rw[g2,aqa];omega
 have hlok:∀v ∈ l,iJ v.2:=λv hv=>hst v (List.mem_of_mem_drop (g2 ▸ hv));clear g2 g3 hE1 hpop;have hErr:∀x,gU la op arg p l S1= .error x->Zk (jm la op arg p base S) (kY x.1 x.2) (fi []):=λx hx=>⟨x,by unfold jm;rw[hpf];exact hx,rfl⟩
 have hn:∀op':Int,(op'≠op)->¬op=op':=λ_ h e=>h e.symm;have fin:∀{e:Tr AV} {H:AH} (ρ M:List Nat) (S2:WS) (b:Bd) (hact:gU la op arg p l S1= .ok (S2,b)) (he:iT (λb2=>ρ.reverse[b2]?) M H e [(6,.p 3 0),(12,.p 4 0)]) (hh:ig (λb2=>ρ.reverse[b2]?) M H ρ ([eZ 0 130 [aq b.1,aq b.2],eZ 0 130 [aq 0,aq 0]]++wH la loc cs pt r S2)) (hob:∀r x,ob r=some x->H.ob r=some x) (hρ:ρ.reverse[0]? =some 0),
   ∃e2 H2,gA 184 fV e H e2 H2/\∃S' b,gU la op arg p l S1= .ok (S',b)/\e2=fu [(6,.p 3 0),(12,.p 4 0)]/\H2=ft ob ([eZ 0 130 [aq b.1,aq b.2],eZ 0 130 [aq 0,aq 0]]++wH la loc cs pt r S'):=λρ M S2 b hact he hh hob hρ=>
  ⟨_,_,gA.mkO ρ M he hh (by simp[wH]) hob (fh hρ),S2,b,hact,rfl,rfl⟩
 refine GE.cutP (λe2 H2=>∃S' b,gU la op arg p l S1= .ok (S',b)/\e2=fu [(6,.p 3 0),(12,.p 4 0)]/\H2=ft ob ([eZ 0 130 [aq b.1,aq b.2],eZ 0 130 [aq 0,aq 0]]++wH la loc cs pt r S')) ?_ ?_;rotate_left
 ·rintro e2 H2 ⟨S2,b,hact,rfl,rfl⟩;simp only[wH,kv,List.cons_append,List.nil_append];refine a7 ?_;exact mj (ob:=ob) [2,1,0] [] (jo b) (wH la loc cs pt r S2) bb (.cv (.rfl rfl)) (by simp[wH]) (λr x h=>by simp only[go_sem,simprocAttr];exact h) (fh rfl) ⟨S2,b,by unfold jm;rw[hpf];exact hact,rfl,rfl⟩
 rcases(show op=0\/op=1\/op=32\/op=26\/op=5\/op=7\/op=6\/op=35\/op=34\/(op=2\/op=3\/op=4)\/(21<=op/\op<=25\/op=33)\/(8<=op/\op<=20) by unfold Gw at hop;omega) with h|h|h|h|h|h|h|h|h|h|h|h
 ·subst h;have hA:gU la 0 arg p l S1=hD (1,0) (gH p [(false,arg,arg)] S1):=rfl;refine bf ?_;refine iR (mA arg ha) ?_;simp only[iv];refine a7 ?_;refine iR (mS (arg,arg)) ?_;simp only[vl];refine a7 ?_;have hq:=lu la loc cs pt r ob p [(false,arg,arg)] ⟨ae,ae⟩ S1 aa aa;refine gB la loc cs pt r ob (args2:=[.p 0 0,aq p,.fs 3 1 (sC [(false,arg,arg)])]) (L:=[(6,.p 3 0),(12,.p 4 0)]) (bl2:=[eZ 0 130 [aq 1,aq 0],eZ 0 130 [aq 0,aq 0]]) S1 [5,3,2,1,0] [6] hq ?_ ?_ ?_ ?_ ae rfl af af (.cons .lq (.cons .lq .nil)) ?_ ?_
  ·exact fK
  ·exact bb
  ·exact asI
  ·exact asC
  ·rintro v H' ⟨S2,hS2,rfl,rfl⟩;have hact:gU la 0 arg p l S1= .ok (S2,(1,0)):=by rw[hA,hS2];rfl
   refine⟨S2,ob,rfl,?_⟩;simp only[wH,kv,List.cons_append,List.nil_append];refine a7 ?_;refine fin [4,3,2,1,0] [] _ _ hact ?_ ?_ ?_ rfl
   ·exact fK
   ·exact bb
   ·exact asC
  ·exact asJ
 ·subst h;have hA:gU la 1 arg p l S1=hD (1,0) (gH p [(false,S1.loc.getD arg.toNat (0,0))] S1):=rfl;have hll2:arg<(S1.loc.length:Int):=by rw[h1loc];exact hloc (.inl rfl)
  repeat first|with_reducible refine GE.g ?_|simp only[ha.1,hll2,wt,ws,aQ,go_sem,simprocAttr]
  refine iR (mS (S1.loc.getD arg.toNat (0,0))) ?_;simp only[vl];refine a7 ?_;have hq:=lu la loc cs pt r ob p [(false,S1.loc.getD arg.toNat (0,0))] ⟨ae,ae⟩ S1 aa aa;refine gB la loc cs pt r ob (args2:=[.p 0 0,aq p,.fs 3 1 (sC [(false,S1.loc.getD arg.toNat (0,0))])]) (L:=[(6,.p 3 0),(12,.p 4 0)]) (bl2:=[eZ 0 130 [aq 1,aq 0],eZ 0 130 [aq 0,aq 0]]) S1 [5,3,2,1,0] [6] hq ?_ ?_ ?_ ?_ ae rfl af af (.cons .lq (.cons .lq .nil)) ?_ ?_
  ·exact fK
  ·exact bb
  ·exact asI
  ·exact asC
  ·rintro v H' ⟨S2,hS2,rfl,rfl⟩;have hact:gU la 1 arg p l S1= .ok (S2,(1,0)):=by rw[hA,hS2];rfl
   refine⟨S2,ob,rfl,?_⟩;simp only[wH,kv,List.cons_append,List.nil_append];refine a7 ?_;refine fin [4,3,2,1,0] [] _ _ hact ?_ ?_ ?_ rfl
   ·exact fK
   ·exact bb
   ·exact asC
  ·exact asJ
 ·subst h;have hA:gU la 32 arg p l S1=hD (1,0) (gH p [(false,0,4294967295)] S1):=rfl;refine bf ?_;refine iR (jc) ?_;simp only[iv];refine a7 ?_;refine iR (mS (0,4294967295)) ?_;simp only[vl];refine a7 ?_;have hq:=lu la loc cs pt r ob p [(false,0,4294967295)] ⟨ae,ae⟩ S1 aa aa;refine gB la loc cs pt r ob (args2:=[.p 0 0,aq p,.fs 3 1 (sC [(false,0,4294967295)])]) (L:=[(6,.p 3 0),(12,.p 4 0)]) (bl2:=[eZ 0 130 [aq 1,aq 0],eZ 0 130 [aq 0,aq 0]]) S1 [5,3,2,1,0] [6] hq ?_ ?_ ?_ ?_ ae rfl af af (.cons .lq (.cons .lq .nil)) ?_ ?_
  ·exact fK
  ·exact bb
  ·exact asI
  ·exact asC
  ·rintro v H' ⟨S2,hS2,rfl,rfl⟩;have hact:gU la 32 arg p l S1= .ok (S2,(1,0)):=by rw[hA,hS2];rfl
   refine⟨S2,ob,rfl,?_⟩;simp only[wH,kv,List.cons_append,List.nil_append];refine a7 ?_;refine fin [4,3,2,1,0] [] _ _ hact ?_ ?_ ?_ rfl
   ·exact fK
   ·exact bb
   ·exact asC
  ·exact asJ
 ·subst h;have hA:gU la 26 arg p l S1=hD (1,0) (gH p [(false,0,1)] S1):=rfl;refine bf ?_;refine iR (mS (0,1)) ?_;simp only[vl];refine a7 ?_;have hq:=lu la loc cs pt r ob p [(false,0,1)] ⟨ae,ae⟩ S1 aa aa;refine gB la loc cs pt r ob (args2:=[.p 0 0,aq p,.fs 3 1 (sC [(false,0,1)])]) (L:=[(6,.p 3 0),(12,.p 4 0)]) (bl2:=[eZ 0 130 [aq 1,aq 0],eZ 0 130 [aq 0,aq 0]]) S1 [5,3,2,1,0] [6] hq ?_ ?_ ?_ ?_ ae rfl af af (.cons .lq (.cons .lq .nil)) ?_ ?_
  ·exact fK
  ·exact bb
  ·exact asI
  ·exact asC
  ·rintro v H' ⟨S2,hS2,rfl,rfl⟩;have hact:gU la 26 arg p l S1= .ok (S2,(1,0)):=by rw[hA,hS2];rfl
   refine⟨S2,ob,rfl,?_⟩;simp only[wH,kv,List.cons_append,List.nil_append];refine a7 ?_;refine fin [4,3,2,1,0] [] _ _ hact ?_ ?_ ?_ rfl
   ·exact fK
   ·exact bb
   ·exact asC
  ·exact asJ
 ·subst h;have hA:gU la 5 arg p l S1=hD (1,0) (gH p [l.getD 0 v0,l.getD 0 v0] S1):=rfl;have hl1:l.length=1:=by rw[hln];rfl
  refine a8 (aU hl1 (aU @Ap (aU @za @wU))) ?_;have hq:=lu la loc cs pt r ob p [l.getD 0 v0,l.getD 0 v0] ⟨ae,ae⟩ S1 aa aa;refine gB la loc cs pt r ob (args2:=[.p 0 0,aq p,.fs 3 2 (sC [l.getD 0 v0,l.getD 0 v0])]) (L:=[(6,.p 3 0),(12,.p 4 0)]) (bl2:=[eZ 0 130 [aq 1,aq 0],eZ 0 130 [aq 0,aq 0]]) S1 [5,3,2,1,0] [6] hq ?_ ?_ ?_ ?_ ae rfl af af (.cons .lq (.cons .lq .nil)) ?_ ?_
  ·exact fK
  ·exact bb
  ·exact asK
  ·exact asC
  ·rintro v H' ⟨S2,hS2,rfl,rfl⟩;have hact:gU la 5 arg p l S1= .ok (S2,(1,0)):=by rw[hA,hS2];rfl
   refine⟨S2,ob,rfl,?_⟩;simp only[wH,kv,List.cons_append,List.nil_append];refine a7 ?_;refine fin [4,3,2,1,0] [] _ _ hact ?_ ?_ ?_ rfl
   ·exact fK
   ·exact bb
   ·exact asC
  ·exact asJ
 ·subst h;have hA:gU la 7 arg p l S1=hD (1,0) (gH p [l.getD 1 v0,l.getD 0 v0] S1):=rfl;have hl1:l.length=2:=by rw[hln];rfl
  refine a8 (aU hl1 (aU @Ap (aU @za @wU))) ?_;have hq:=lu la loc cs pt r ob p [l.getD 1 v0,l.getD 0 v0] ⟨ae,ae⟩ S1 aa aa;refine gB la loc cs pt r ob (args2:=[.p 0 0,aq p,.fs 3 2 (sC [l.getD 1 v0,l.getD 0 v0])]) (L:=[(6,.p 3 0),(12,.p 4 0)]) (bl2:=[eZ 0 130 [aq 1,aq 0],eZ 0 130 [aq 0,aq 0]]) S1 [5,3,2,1,0] [6] hq ?_ ?_ ?_ ?_ ae rfl af af (.cons .lq (.cons .lq .nil)) ?_ ?_
  ·exact fK
  ·exact bb
  ·exact asK
  ·exact asC
  ·rintro v H' ⟨S2,hS2,rfl,rfl⟩;have hact:gU la 7 arg p l S1= .ok (S2,(1,0)):=by rw[hA,hS2];rfl
   refine⟨S2,ob,rfl,?_⟩;simp only[wH,kv,List.cons_append,List.nil_append];refine a7 ?_;refine fin [4,3,2,1,0] [] _ _ hact ?_ ?_ ?_ rfl
   ·exact fK
   ·exact bb
   ·exact asC
  ·exact asJ
 ·subst h;have hA:gU la 6 arg p l S1= .ok (S1,(1,0)):=rfl;refine bf ?_;have hact:gU la 6 arg p l S1= .ok (S1,(1,0)):=hA;refine fin [5,3,2,1,0] [] _ _ hact ?_ ?_ ?_ rfl
  ·exact fK
  ·exact bb
  ·exact asC
 ·subst h;have hA:gU la 35 arg p l S1= .ok (S1,(1,0)):=rfl;refine bf ?_;have hact:gU la 35 arg p l S1= .ok (S1,(1,0)):=hA;refine fin [5,3,2,1,0] [] _ _ hact ?_ ?_ ?_ rfl
  ·exact fK
  ·exact bb
  ·exact asC
 ·subst h;have hA:gU la 34 arg p l S1= .ok (S1,(1,1)):=rfl;refine bf ?_;have hact:gU la 34 arg p l S1= .ok (S1,(1,1)):=hA;refine fin [5,3,2,1,0] [] _ _ hact ?_ ?_ ?_ rfl
  ·exact fK
  ·exact bb
  ·exact asC
 ·rcases h with h|h|h
  ·subst h;have hl1:l.length=1:=by rw[hln];rfl
   have hl2:=hloc (.inr rfl);rw[<-h1loc] at hl2;obtain⟨q,hq⟩:∃q:Nat,arg=q:=⟨arg.toNat,aa⟩;subst hq;have hll3:S1.loc.length<1000:=by rw[h1loc];exact hll
   have hq0:(0:Int)<=(q:Int):=aa;have hqn:q<S1.loc.length:=aa;have hq2:q*2+2<=S1.loc.length*2:=aa;have hact:gU la 2 q p l S1= .ok ({S1 with loc:=S1.loc.set q (l.getD 0 v0).2},(1,0)):=rfl;refine bf ?_;refine iR (F:=[.fs 2 S1.loc.length (vC S1.loc)]) (nX aa (λi j _ _=>gL _ i j)) ?_;refine bA (aU hl1 (aU @za (aU @wU (aU hq0 (aU hl2 hq2))))) ?_;refine fin [5,3,2,1,0] [6] _ _ hact ?_ ?_ ?_ rfl
   ·exact fK
   ·simp only[wH,kv,aph];exact .cr (.j2) (.cr (.j2) (.cr (.k2 (λ_ _ _ _=>rfl)) (.cr (.k2 (λi j _ _=>fk _ i j)) (.cr (.wk (hg:=λi hi=>by rcases xJ hi with rfl|rfl|rfl|rfl|rfl|rfl|rfl|rfl|rfl|rfl|rfl<;>(simp only[go_sem,simprocAttr];first|exact Wv.same rfl|exact Wv.os rfl|exact .cv (.os (x:=(fg 127 2 S1.loc.length 0 (vC S1.loc)).putN (q*2) [aq (l.getD 0 v0).2.1,aq (l.getD 0 v0).2.2]) ae ai (bL _) (λi j hi hj=>DG hqn aa hi hj) (λi j _ _=>gL _ i j))))) .nil))))
   ·exact asC
  ·subst h;have hl1:l.length=1:=by rw[hln];rfl
   have hA:gU la 3 arg p l S1=(match jA la arg p (l.getD 0 v0) with| .error e=> .error e| .ok x=>hD (1,0) (gH p [(false,x)] S1)):=rfl
   refine a8 (aU hl1 (aU @Ap (aU @za @wU))) ?_;refine gB la loc cs pt r ob (args2:=[.p 0 0,aq p,vl (l.getD 0 v0)]) (L:=[(6,.p 3 0),(12,.p 4 0),(118,.p 0 0),(119,aq p)]) (bl2:=[eZ 0 130 [aq 1,aq 0],eZ 0 130 [aq 0,aq 0]]) S1 [5,3,2,1,0] [] (hel (l.getD 0 v0) S1 ha.1 (hal (.inl rfl))) ?_ ?_ ?_ ?_ ae rfl af af (.cons .lq (.cons .lq .nil)) ?_ ?_
   ·exact fK
   ·exact bb
   ·exact arz
   ·exact asC
   ·rintro v H' ⟨y,hy,rfl,rfl⟩;refine⟨S1,ob,rfl,?_⟩;simp only[wH,kv,List.cons_append,List.nil_append,iv];refine a7 ?_;refine iR (mS y) ?_;simp only[vl];refine a7 ?_;have hq:=lu la loc cs pt r ob p [(false,y)] ⟨ae,ae⟩ S1 aa aa;refine gB la loc cs pt r ob (args2:=[.p 0 0,aq p,.fs 3 1 (sC [(false,y)])]) (L:=[(6,.p 3 0),(12,.p 4 0)]) (bl2:=[eZ 0 130 [aq 1,aq 0],eZ 0 130 [aq 0,aq 0]]) S1 [4,3,2,1,0] [5] hq ?_ ?_ ?_ ?_ ae rfl af af (.cons .lq (.cons .lq .nil)) ?_ ?_
    ·exact fK
    ·exact bb
    ·exact asI
    ·exact asC
    ·rintro v H' ⟨S2,hS2,rfl,rfl⟩;have hact:gU la 3 arg p l S1= .ok (S2,(1,0)):=by rw[hA,hy];show hD (1,0) (gH p [(false,y)] S1)=_;rw[hS2];rfl
     refine⟨S2,ob,rfl,?_⟩;simp only[wH,kv,List.cons_append,List.nil_append];refine a7 ?_;refine fin [4,3,2,1,0] [] _ _ hact ?_ ?_ ?_ rfl
     ·exact fK
     ·exact bb
     ·exact asC
    ·rintro c H' ⟨x,hx,rfl⟩;exact hErr x (by rw[hA,hy];show hD (1,0) (gH p [(false,y)] S1)=_;rw[hx];rfl)
   ·rintro c H' ⟨x,hx,rfl⟩;exact hErr x (by rw[hA,hx])
  ·subst h;have hl1:l.length=2:=by rw[hln];rfl
   have hA:gU la 4 arg p l S1=(match jA la arg p (l.getD 0 v0) with| .error e=> .error e| .ok x=> .ok (S1,(1,0))):=rfl
   refine a8 (aU hl1 (aU @Ap (aU @za @wU))) ?_;refine gB la loc cs pt r ob (args2:=[.p 0 0,aq p,vl (l.getD 0 v0)]) (L:=[(6,.p 3 0),(12,.p 4 0)]) (bl2:=[eZ 0 130 [aq 1,aq 0],eZ 0 130 [aq 0,aq 0]]) S1 [5,3,2,1,0] [] (hel (l.getD 0 v0) S1 ha.1 (hal (.inr rfl))) ?_ ?_ ?_ ?_ ae rfl af af (.cons .lq (.cons .lq .nil)) ?_ ?_
   ·exact fK
   ·exact bb
   ·exact arz
   ·exact asC
   ·rintro v H' ⟨y,hy,rfl,rfl⟩;refine⟨S1,ob,rfl,?_⟩;simp only[wH,kv,List.cons_append,List.nil_append,iv];refine a7 ?_;have hact:gU la 4 arg p l S1= .ok (S1,(1,0)):=by rw[hA,hy]
    refine fin [4,3,2,1,0] [] _ _ hact ?_ ?_ ?_ rfl
    ·exact fK
    ·exact bb
    ·exact asC
   ·rintro c H' ⟨x,hx,rfl⟩;exact hErr x (by rw[hA,hx])
 ·have hs2:(kc op).2=[116]:=by rcases(show op=21\/op=22\/op=23\/op=24\/op=25\/op=33 by omega) with rfl|rfl|rfl|rfl|rfl|rfl<;>rfl
  have n0:¬op=0:=aa;have n1:¬op=1:=aa;have n2:¬op=2:=aa;have n3:¬op=3:=aa;have n4:¬op=4:=aa;have n5:¬op=5:=aa;have n7:¬op=7:=aa;have n6:¬op=6:=aa;have n35:¬op=35:=aa;have n34:¬op=34:=aa;have n32:¬op=32:=aa;have n26:¬op=26:=aa;have hA:gU la op arg p l S1=hD (1,0) (gH p [(true,0,0)] S1):=by unfold gU;rw[if_neg n0,if_neg n1,if_neg n2,if_neg n3,if_neg n4,if_neg n5,if_neg n7,if_neg aa,if_neg n34,if_neg n32,if_neg n26,if_pos hs2]
  refine a8 (aU n0 (aU n1 (aU n2 (aU n3 (aU n4 (aU n5 (aU n7 (aU n6 (aU n35 (aU n34 (aU n32 (aU n26 hs2)))))))))))) ?_;have hq:=lu la loc cs pt r ob p [(true,0,0)] ⟨ae,ae⟩ S1 aa aa;refine gB la loc cs pt r ob (args2:=[.p 0 0,aq p,.fs 3 1 (sC [(true,0,0)])]) (L:=[(6,.p 3 0),(12,.p 4 0)]) (bl2:=[eZ 0 130 [aq 1,aq 0],eZ 0 130 [aq 0,aq 0]]) S1 [5,3,2,1,0] [6] hq ?_ ?_ ?_ ?_ ae rfl af af (.cons .lq (.cons .lq .nil)) ?_ ?_
  ·exact fK
  ·exact bb
  ·exact asI
  ·exact asC
  ·rintro v H' ⟨S2,hS2,rfl,rfl⟩;have hact:gU la op arg p l S1= .ok (S2,(1,0)):=by rw[hA,hS2];rfl
   refine⟨S2,ob,rfl,?_⟩;simp only[wH,kv,List.cons_append,List.nil_append];refine a7 ?_;refine fin [4,3,2,1,0] [] _ _ hact ?_ ?_ ?_ rfl
   ·exact fK
   ·exact bb
   ·exact asC
  ·exact asJ
 ·have n0:¬op=0:=aa;have n1:¬op=1:=aa;have n2:¬op=2:=aa;have n3:¬op=3:=aa;have n4:¬op=4:=aa;have n5:¬op=5:=aa;have n7:¬op=7:=aa;have n6:¬op=6:=aa;have n35:¬op=35:=aa;have n34:¬op=34:=aa;have n32:¬op=32:=aa;have n26:¬op=26:=aa;have hs2:(kc op).2=[110]:=by rcases(show op=8\/op=9\/op=10\/op=11\/op=12\/op=13\/op=14\/op=15\/op=16\/op=17\/op=18\/op=19\/op=20 by omega) with rfl|rfl|rfl|rfl|rfl|rfl|rfl|rfl|rfl|rfl|rfl|rfl|rfl<;>rfl
  have hl1:l.length=2:=by rw[hln];rcases(show op=8\/op=9\/op=10\/op=11\/op=12\/op=13\/op=14\/op=15\/op=16\/op=17\/op=18\/op=19\/op=20 by omega) with rfl|rfl|rfl|rfl|rfl|rfl|rfl|rfl|rfl|rfl|rfl|rfl|rfl<;>rfl
  have hA:gU la op arg p l S1=if(fZ op (l.getD 0 v0).2 (l.getD 1 v0).2).2=0 then hD (1,0) (gH p [(false,(fZ op (l.getD 0 v0).2 (l.getD 1 v0).2).1)] S1) else .error (p,(fZ op (l.getD 0 v0).2 (l.getD 1 v0).2).2):=by unfold gU;rw[if_neg n0,if_neg n1,if_neg n2,if_neg n3,if_neg n4,if_neg n5,if_neg n7,if_neg aa,if_neg n34,if_neg n32,if_neg n26,if_neg (by rw[hs2];decide)]
  have hap:=xV op h.1 h.2 (l.getD 0 v0).2 (l.getD 1 v0).2 (jh hlok 0) (jh hlok 1);generalize hz:fZ op (l.getD 0 v0).2 (l.getD 1 v0).2=z at*;refine a8 (aU n0 (aU n1 (aU n2 (aU n3 (aU n4 (aU n5 (aU n7 (aU n6 (aU n35 (aU n34 (aU n32 (aU n26 (aU hs2 @anx))))))))))))) ?_;refine GE.cut (fu [(0,.p 0 0),(1,aq p),(6,.p 3 0),(12,.p 4 0),(13,.p 5 0),(14,aq z.2)]) (ft ob ([eZ 0 127 [aq z.1.1,aq z.1.2],eZ 0 130 [aq 1,aq 0],eZ 0 130 [aq 0,aq 0]]++wH la loc cs pt r S1)) ?_ ?_
  ·refine GE.frkm fx 6 eL ?_
   refine bc (aU hl1 (aU @Ap (aU @za @wU))) ?_
   repeat' with_reducible refine fE ?_ ?_
   all_goals
    refine Dp hap ?_;refine bc @iv.eq_1 ?_
    repeat' with_reducible refine fE ?_ ?_
   any_goals decide
   all_goals
    refine gA.mkO (ob:=ob) [6,5,3,2,1,0] [] ?_ ?_ ?_ ?_ (fh rfl)
    ·exact fK
    ·exact bb
    ·simp[wH]
    ·exact asC
  ·simp only[wH,kv,List.cons_append,List.nil_append];by_cases hz0:z.2=0
   ·rw[if_pos hz0] at hA;have hz1:=eq_true hz0;refine a8 hz1 ?_;refine iR (jd p z.2) ?_;refine a7 ?_;refine iR (mS z.1) ?_;simp only[vl];refine a7 ?_;have hq:=lu la loc cs pt r ob p [(false,z.1)] ⟨ae,ae⟩ S1 aa aa;refine gB la loc cs pt r ob (args2:=[.p 0 0,aq p,.fs 3 1 (sC [(false,z.1)])]) (L:=[(6,.p 3 0),(12,.p 4 0)]) (bl2:=[eZ 0 130 [aq 1,aq 0],eZ 0 130 [aq 0,aq 0]]) S1 [4,3,2,1,0] [6] hq ?_ ?_ ?_ ?_ ae rfl af af (.cons .lq (.cons .lq .nil)) ?_ ?_
    ·exact fK
    ·exact bb
    ·exact asI
    ·exact asC
    ·rintro v H' ⟨S2,hS2,rfl,rfl⟩;have hact:gU la op arg p l S1= .ok (S2,(1,0)):=by rw[hA,hS2];rfl
     refine⟨S2,ob,rfl,?_⟩;simp only[wH,kv,List.cons_append,List.nil_append];refine a7 ?_;refine fin [4,3,2,1,0] [] _ _ hact ?_ ?_ ?_ rfl
     ·exact fK
     ·exact bb
     ·exact asC
    ·exact asJ
   ·rw[if_neg hz0] at hA;refine a8 hz0 ?_;exact fP [] (fargs:=[.b false,aq p,aq z.2]) (ja.same rfl) (jK p z.2) (hErr _ hA)
end
def jg:List (Int×Int)->Int->Option Int
 |[],_=>none
 |x::l,k=>if x.1=k then some x.2 else jg l k
def sg(r:Nat)(ob:Nat->Option OB)(lp:am):Prop:=∃mx:nG,ob r=some (.mp mx)/\mx.own=true/\∀k,mx.get k=(jg lp k).map λn=> .agg [aq k,aq n,.ow]
section
variable (la:ao) (loc:Int) (cs:am) (pt:List Int) (r:Nat)
def ZM(mk:Bd->AV)(x:Option (Except Er (WS×Bd)))(v:AV)(H':AH):Prop:=∃S' z ob',x=some (.ok (S',z))/\v=mk z/\sg r ob' S'.lp/\H'=ft ob' (wH la loc cs pt r S')
def ZN(x:Option (Except Er (WS×Bd)))(c:List PanicEntry)(_:AH):Prop:=∃e:Er,x=some (.error e)/\c=kY e.1 e.2
def vc(n:Nat)(o:Fo):Prop:=∀(a b base lp:Nat) (S:WS) (ob:Nat->Option OB),fM cs pt o a b->b<=cs.length->base<=32->lp<=32->WF n S->Sm a S->sg r ob S.lp->
 PC av fV 55 [.p 0 0,aq a,aq b,aq base,aq lp] (ft ob (wH la loc cs pt r S)) (ZM la loc cs pt r jo (fO cs la o base lp S (0,0))) (ZN (fO cs la o base lp S (0,0)))
theorem C3(n:Nat)(hn:n<1000)(hcs:cs.length<=1024)(hpt:pt.length=cs.length)(hA:pz cs)(x y:Nat)(u v:Fo)(base lp:Nat)(S:WS)(ob:Nat->Option OB)(hU:vc la loc cs pt r n u)(hV:vc la loc cs pt r n v)(hg:fM cs pt (.br 27 x y u v .nil) x y)(hy:y<=cs.length)(hb:base<=32)(hlp:lp<=32)(hW:WF n S)(hS:Sm x S)(hM:sg r ob S.lp):
  PC av fV 86 [.p 0 0,aq x,aq base,aq lp] (ft ob (wH la loc cs pt r S)) (ZM la loc cs pt r (λz=> .tup [jo z,aq ((y-1:Nat))]) (jF cs la x u v base lp S)) (ZN (jF cs la x u v base lp S)):=by
 obtain⟨_,hop,_,⟨m,g1,g2,g3,g4,g5⟩,_⟩:=hg;refine PC.vw (gX aii ⟨ae,ag⟩ ?_);simp only[fy,wH,kv];have x0:(0:Int)<=(x:Int):=aa;have xl:(x:Int)<(pt.length:Int):=aa;have m0:(0:Int)<=(m:Int):=aa;have ml:(m:Int)<(cs.length:Int):=aa;have hpm:iC pt x 0= aq m:=by rw[zG,g1]
 have wx:=au x;refine a7 ?_;refine gB la loc cs pt r ob (args2:=[.p 0 0,aq x,aq base,.s ⟨#[116]⟩]) (L:=[(0,.p 0 0),(1,aq x),(3,aq lp),(8,.p 3 0)]) (bl2:=[eZ 0 130 [aq 0,aq 0]]) S [3,2,1,0] [] (vF la loc cs pt r ob x base [116] ae aa S (by have:=hS.st;omega)) ?_ ?_ ?_ ?_ ae rfl af af (.cons .lq .nil) ?_ ?_
 ·exact fK
 ·exact bb
 ·exact asH
 ·exact asC
 ·rintro v H' ⟨l,S1,hp,rfl,rfl⟩;refine⟨S1,ob,rfl,?_⟩;simp only[wH,kv,List.cons_append,List.nil_append];obtain⟨w1,w2,w3,w4,w5⟩:=iq hp hW;have s1:=kI hp hS;obtain⟨h,hh⟩:∃h,h=S1.st.length:=⟨_,rfl⟩;have hh32:=s1.st;have hM1:sg r ob S1.lp:=by rw[w5];exact hM
  have hu:=hU (x+1) m h lp S1 ob g4 aa aa aa w1 (s1.le aa) hM1;have hC1:jF cs la x u v base lp S=(match fO cs la u h lp S1 (0,0) with
   |none=>none
   |some (.error e)=>some (.error e)
   |some (.ok (S2,bx))=>
    if S2.st.length=h then
     if fm cs m=28 then match fO cs la v h lp {S2 with loc:=S1.loc} (0,0) with
      |none=>none
      |some (.error e)=>some (.error e)
      |some (.ok (S4,by_))=>
       if S4.st.length=h then some (.ok ({S4 with loc:=gj S2.loc S4.loc},gh (fA bx.1 by_.1,fA bx.2 by_.2) (1,0)))
       else some (.error ((v.lastB (m+1):Nat),14))
     else some (.ok ({S2 with loc:=gj S2.loc S1.loc},gh (fA bx.1 0,fA bx.2 0) (1,0)))
    else some (.error ((m:Nat),14))):=by
   unfold jF;rw[hp,g4.lastB,hh];rfl
  refine bB (aU x0 (aU xl (aU hpm wx))) ?_;refine gB la loc cs pt r ob (args2:=[.p 0 0,aq ((x+1:Nat)),aq m,aq h,aq lp]) (L:=[(0,.p 0 0),(3,aq lp),(8,.p 3 0),(10,aq m),(11,aq m),(12,.fs 2 S1.loc.length (vC S1.loc)),(13,aq h)]) (bl2:=[eZ 0 130 [aq 0,aq 0]]) S1 [3,2,1,0] [] (hu) ?_ ?_ ?_ ?_ ae rfl af af (.cons .lq .nil) ?_ ?_
  ·simp only[iT,ig,hh,go_sem,simprocAttr]
   repeat' refine fE ?_ ?_
   all_goals first|exact jQ|skip
  ·exact bb
  ·exact asL
  ·exact asC
  ·rintro v' H' ⟨S2,bx,ob2,hu2,rfl,hM2,rfl⟩;refine⟨S2,ob2,rfl,?_⟩;simp only[wH,kv,List.cons_append,List.nil_append,jo];rw[hu2] at hC1;dsimp only at hC1;have w6:=fR hA u (x+1) m h lp g4 hu2 w1 oU;have s2:=iB u (x+1) m h lp g4 hu2 (s1.le aa);have hlvl:=oK la loc cs pt r ob2 m h S2 (by have:=s2.st;omega)
   refine a7 ?_;refine gB la loc cs pt r ob2 (args2:=[.p 0 0,aq m,aq h]) (L:=[(0,.p 0 0),(3,aq lp),(8,.p 3 0),(10,aq m),(11,aq m),(12,.fs 2 S1.loc.length (vC S1.loc)),(13,aq h),(14,.p 4 0),(15,.p 5 0)]) (bl2:=[eZ 0 130 [aq 0,aq 0],eZ 0 130 [aq bx.1,aq bx.2],eZ 0 130 [aq 0,aq 0]]) S2 [5,4,3,2,1,0] [] (hlvl) ?_ ?_ ?_ ?_ ae rfl af af (.cons .lq (.cons .lq (.cons .lq .nil))) ?_ ?_
   ·exact fK
   ·exact bb
   ·exact asM
   ·exact asC
   ·rintro v' H' ⟨hl,rfl,rfl⟩;refine⟨S2,ob2,rfl,?_⟩;simp only[wH,kv,List.cons_append,List.nil_append];have hl2:S2.st.length=h:=by
     unfold r8 at hl;split at hl
     ·assumption
     ·cases hl
    rw[if_pos hl2] at hC1;have hll:S2.loc.length=S1.loc.length:=by rw[w6.1.wf.loc.1,w1.loc.1]
    have hll2:S2.loc.length<100000:=by rw[w6.1.wf.loc.1];omega
    have em:pI cs m 0= aq (fm cs m):=rfl;by_cases h28:fm cs m=28
    ·rw[if_pos h28] at hC1;rcases g5 with⟨_,e,q1,q2,q3,q4,rfl⟩|⟨q0,_⟩;rotate_left
     ·exact asi
     have hpe:iC pt m 0= aq e:=by rw[zG,q1]
     have mlp:(m:Int)<(pt.length:Int):=aa;have wm:=au m;have w3':WF n {S2 with loc:=S1.loc}:=⟨w1.loc,w6.1.wf.st,w6.1.wf.lv⟩;have s3:Sm (m+1) {S2 with loc:=S1.loc}:=⟨s2.st,s2.ht,apj s2.lv aa⟩;have hv:=hV (m+1) e h lp {S2 with loc:=S1.loc} ob2 q4 aa aa aa w3' s3 hM2;refine bA (aU m0 (aU ml (aU mlp (aU em (aU h28 (aU hpe wm)))))) ?_;refine gB la loc cs pt r ob2 (args2:=[.p 0 0,aq ((m+1:Nat)),aq e,aq h,aq lp]) (L:=[(0,.p 0 0),(3,aq lp),(8,.p 3 0),(11,aq e),(13,aq h),(14,.p 4 0),(15,.p 5 0),(16,.fs 2 S2.loc.length (vC S2.loc))]) (bl2:=[eZ 0 130 [aq 0,aq 0],eZ 0 130 [aq bx.1,aq bx.2],eZ 0 130 [aq 0,aq 0]]) {S2 with loc:=S1.loc} [5,4,3,2,1,0] [] (hv) ?_ ?_ ?_ ?_ ae rfl af af (.cons .lq (.cons .lq (.cons .lq .nil))) ?_ ?_
     ·exact fK
     ·exact bb
     ·exact asN
     ·exact asC
     ·rintro v' H' ⟨S4,bv,ob4,hv2,rfl,hM4,rfl⟩;refine⟨S4,ob4,rfl,?_⟩;simp only[wH,kv,List.cons_append,List.nil_append,jo];rw[hv2] at hC1;dsimp only at hC1;have w7:=fR hA v (m+1) e h lp q4 hv2 w3' oU;have s4:=iB v (m+1) e h lp q4 hv2 s3;have hlve:=oK la loc cs pt r ob4 e h S4 (by have:=s4.st;omega)
      refine a7 ?_;refine gB la loc cs pt r ob4 (args2:=[.p 0 0,aq e,aq h]) (L:=[(0,.p 0 0),(3,aq lp),(8,.p 3 0),(11,aq e),(13,aq h),(14,.p 4 0),(15,.p 5 0),(16,.fs 2 S2.loc.length (vC S2.loc))]) (bl2:=[eZ 0 130 [aq bv.1,aq bv.2],eZ 0 130 [aq bx.1,aq bx.2],eZ 0 130 [aq 0,aq 0]]) S4 [5,4,3,2,1,0] [] (hlve) ?_ ?_ ?_ ?_ ae rfl af af (.cons .lq (.cons .lq (.cons .lq .nil))) ?_ ?_
      ·exact fK
      ·exact bb
      ·exact asM
      ·exact asC
      ·rintro v' H' ⟨hl,rfl,rfl⟩;refine⟨S4,ob4,rfl,?_⟩;simp only[wH,kv,List.cons_append,List.nil_append];have hl4:S4.st.length=h:=by
        unfold r8 at hl;split at hl
        ·assumption
        ·cases hl
       rw[if_pos hl4] at hC1;have hll4:S4.loc.length=S2.loc.length:=by rw[w7.1.wf.loc.1,w6.1.wf.loc.1]
       have hmx:jY (fA bx.1 bv.1,fA bx.2 bv.2):=by have:=w6.2;have:=w7.2;unfold px at*;unfold fA;refine⟨⟨?_,?_⟩,?_,?_⟩<;>split<;>omega
       refine a7 ?_;refine iR (F:=[.fs 2 S2.loc.length (vC S2.loc),.fs 2 S4.loc.length (vC S4.loc)]) (qW S2.loc S4.loc aa hll2) ?_;refine a7 ?_;refine iR (F:=[jo (fA bx.1 bv.1,fA bx.2 bv.2),jo (1,0)]) (oY _ _ hmx qU) ?_;simp only[jo];refine a7 ?_;refine mj (ob:=ob4) [2,1,0] [6] (.tup [jo (gh (fA bx.1 bv.1,fA bx.2 bv.2) (1,0)),aq (e:Nat)]) (wH la loc cs pt r {S4 with loc:=gj S2.loc S4.loc}) ?_ (.cv (.rfl rfl)) (by simp[wH]) (λr x h=>by simp only[go_sem,simprocAttr];exact h) (fh rfl) ⟨_,_,ob4,hC1,rfl,hM4,rfl⟩
       simp only[wH,kv,i7];exact eU
      ·rintro c H' ⟨e',he,rfl⟩;refine⟨e',?_,rfl⟩;rw[hC1];unfold r8 at he;split at he
       ·cases he
       ·rename_i hne;rw[if_neg hne,q4.lastB];cases he;rfl
     ·rintro c H' ⟨e,he,rfl⟩;exact⟨e,by rw[hC1,he],rfl⟩
    ·rw[if_neg h28] at hC1;rcases g5 with⟨q0,_⟩|⟨_,_,rfl⟩
     ·exact absurd q0 h28
     have hmx:jY (fA bx.1 0,fA bx.2 0):=by have:=w6.2;unfold px at this;unfold fA;refine⟨⟨?_,?_⟩,?_,?_⟩<;>split<;>omega
     refine bA (aU m0 (aU ml (aU em h28))) ?_;refine iR (F:=[.fs 2 S2.loc.length (vC S2.loc),.fs 2 S1.loc.length (vC S1.loc)]) (qW S2.loc S1.loc aa hll2) ?_;refine a7 ?_;refine iR (F:=[jo (fA bx.1 0,fA bx.2 0),jo (1,0)]) (oY _ _ hmx qU) ?_;simp only[jo];refine a7 ?_;refine mj (ob:=ob2) [2,1,0] [6] (.tup [jo (gh (fA bx.1 0,fA bx.2 0) (1,0)),aq (m:Nat)]) (wH la loc cs pt r {S2 with loc:=gj S2.loc S1.loc}) ?_ (.cv (.rfl rfl)) (by simp[wH]) (λr x h=>by simp only[go_sem,simprocAttr];exact h) (fh rfl) ⟨_,_,ob2,hC1,rfl,hM2,rfl⟩
     simp only[wH,kv,i7];exact eU
   ·rintro c H' ⟨e,he,rfl⟩;refine⟨e,?_,rfl⟩;rw[hC1];unfold r8 at he;split at he
    ·cases he
    ·rename_i hne;rw[if_neg hne];cases he;rfl
  ·rintro c H' ⟨e,he,rfl⟩;exact⟨e,by rw[hC1,he],rfl⟩
 ·rintro c H' ⟨e,he,rfl⟩;exact⟨e,by unfold jF;rw[he],rfl⟩
end
def ixF(cs:am)(i:Nat):Nat->Nat->Nat->Int
 |_,0,_=> -1
 |p,n+1,k=>if cs.getD p (0,0)=(2,(i:Int)) then(k:Int) else ixF cs i (p+1) n (k+1)
theorem A6{cs:am}{i:Nat}:∀(n p k:Nat),decide (0<=ixF cs i p n k)=stoF cs p n i
 |0,p,k=>rfl
 |n+1,p,k=>by
  unfold ixF stoF;by_cases h:cs.getD p (0,0)=(2,(i:Int))
  ·rw[if_pos h,decide_eq_true h,decide_eq_true aa];rfl
  ·rw[if_neg h,decide_eq_false h,A6 n];rfl
theorem Bh(a b c d:Int):uk 9 (.st [(0,1,.n),(1,1,.n)]) (.agg [aq a,.n .u32 b]) (.agg [aq c,.n .u32 d])=some (decide ((c,d)=(a,b))):=by
 have h:uk 9 (.st [(0,1,.n),(1,1,.n)]) (.agg [aq a,.n .u32 b]) (.agg [aq c,.n .u32 d])=some (a==c&&(b==d&&true)):=rfl;rw[h];congr 1;rw[LY,LY,Bool.and_true];by_cases h1:a=c
 ·by_cases h2:b=d
  ·subst h1;subst h2;simp
  ·rw[decide_eq_false h2,Bool.and_false,decide_eq_false (λe=>h2 (Prod.mk.inj e).2.symm)]
 ·rw[decide_eq_false h1,Bool.false_and,decide_eq_false (λe=>h1 (Prod.mk.inj e).1.symm)]
theorem yY(cs:am)(p n i:Nat)(hn:n<100000)(row:Nat->Nat->AV)(hrow:∀k j,row k j=pI cs (p+k) j):gw av 91 [.fs 2 n row,.agg [aq 2,.n .u32 i]] [.v (aq (ixF cs i p n 0))]:=by
 refine fe fx ajw ⟨ae,ag⟩ ?_;simp only[fy];refine dp ?_;refine GA.loop (I:=λm e H=>∃k:Nat,m=n-k/\k<=n/\ixF cs i p n 0=ixF cs i (p+k) (n-k) k/\e=fu [(0,.fs 2 n row),(3,.p 0 0),(7,aq n),(8,aq k)]/\H=fi [eZ 0 54 [aq 2,.n .u32 i]]) (Wk.mk [0] [] ?_ ?_ ?_) ⟨0,rfl,apf _,rfl,rfl,rfl⟩ ?_
 ·exact fK
 ·exact asa
 ·simp
 rintro m e H ⟨k,rfl,hk,hs,rfl,rfl⟩;have k0:(0:Int)<=(k:Int):=aa;by_cases hkn:k<n
 ·have hki:(k:Int)<(n:Int):=aa;have e0:row k 0= aq (cs.getD (p+k) (0,0)).1:=(hrow k 0).trans rfl;have e1:row k 1= .n .u32 (cs.getD (p+k) (0,0)).2:=(hrow k 1).trans rfl;have wk:=au k;rw[show n-k=(n-(k+1))+1 by omega,ixF] at hs
  by_cases hq:cs.getD (p+k) (0,0)=(2,(i:Int))
  ·have hd:decide (((cs.getD (p+k) (0,0)).1,(cs.getD (p+k) (0,0)).2)=((2:Int),(i:Int)))=true:=decide_eq_true (by rw[hq])
   refine dD (aU k0 (aU hki (aU e0 (aU e1 (aU @Bh hd))))) ?_;exact eY (by rw[hs,if_pos hq]) rfl
  ·have hd:decide (((cs.getD (p+k) (0,0)).1,(cs.getD (p+k) (0,0)).2)=((2:Int),(i:Int)))=false:=decide_eq_false (λe=>hq e);refine dD (aU k0 (aU hki (aU e0 (aU e1 (aU @Bh (aU hd wk)))))) ?_;refine⟨_,_,_,?_,Wk.mk [0] [] ?_ ?_ ?_,k+1,rfl,aa,by rw[hs,if_neg hq];rfl,rfl,rfl⟩
   ·omega
   ·exact fK
   ·exact asa
   ·simp
 ·have hki:¬(k:Int)<(n:Int):=aa;obtain rfl:k=n:=aa;refine dq hki ?_;exact eY (by rw[hs,apt];rfl) rfl
theorem BC(cs:am)(p n i:Nat)(hn:n<100000)(row:Nat->Nat->AV)(hrow:∀k j,row k j=pI cs (p+k) j):gw av 60 [.fs 2 n row,.agg [aq 2,.n .u32 i]] [.v (.b (stoF cs p n i))]:=by
 refine fe fx ajD ⟨ae,ag⟩ ?_;simp only[fy];refine dp ?_;refine gf (yY cs p n i hn row hrow) ?_;refine dp ?_;exact eY (by rw[<-A6 n p 0]) rfl
theorem K0(x:Nat)(most:Int)(l:List Iv):gw av 57 [aq x,aq most,.fs 2 l.length (vC l)] [.v (.fs 2 l.length (vC l)),.v (aq most)]:=by
 refine fe fx acC ⟨ae,ag⟩ ?_;simp only[fy];refine dp ?_;exact jx rfl rfl rfl rfl
theorem KZ(la:ao)(loc:Int)(cs:am)(hcs:cs.length<=1024)(x m:Nat)(hxm:x<=m)(hm:m<=cs.length)(pass:Int)(hd lo:List Iv)(hl:hd.length=lo.length)(hn:hd.length<1000):gw av 58 [aq x,aq m,aq pass,.fs 2 hd.length (vC hd),.fs 2 lo.length (vC lo),.fp 3 (Gv la loc cs) 0] [.o 127 2 hd.length 0 (vC (iL (stoF cs x (m-x)) pass 0 hd lo))]:=by
 refine fe fx ajS ⟨ae,ag⟩ ?_;simp only[fy];obtain⟨nw,hnw⟩:∃nw,nw=iL (stoF cs x (m-x)) pass 0 hd lo:=⟨_,rfl⟩;have hget:∀i,i<hd.length->nw.getD i (0,0)=if pass<3 then kX (hd.getD i (0,0)) (kQ (hd.getD i (0,0)) (lo.getD i (0,0))) else if stoF cs x (m-x) i=true then(0,4294967295) else hd.getD i (0,0):=λi hi=>by
  rw[hnw,lX _ _ _ _ _ _ hi,apz]
 rw[<-hnw];clear hnw;have x0:(0:Int)<=(x:Int):=aa;have x1:(x:Int)<=(m:Int):=aa;have x2:(m:Int)<=(cs.length:Int):=aa;have hp2:Gv la loc cs 2= .fs 2 cs.length (pI cs):=rfl;refine dp ?_;refine gf (F:=[.fs 2 hd.length (vC hd)]) (nX aa (λi j _ _=>gL hd i j)) ?_;refine dp ?_;refine GA.loop (I:=λmm e H=>∃k:Nat,mm=hd.length-k/\k<=hd.length/\e=fu [(0,aq x),(1,aq m),(2,aq pass),(3,.fs 2 hd.length (vC hd)),(4,.fs 2 lo.length (vC lo)),(5,.fp 3 (Gv la loc cs) 0),(12,.os 0 hd.length),(18,aq hd.length),(19,aq k)]/\H=fi [fg 127 2 hd.length 0 (λi j=>if i<k then vC nw i j else vC hd i j)]) (Wk.mk [0] [] ?_ ?_ ?_) ⟨0,rfl,aa,rfl,rfl⟩ ?_
 ·exact fK
 ·exact .cr (.same ai rfl ag (λi j h hj=>rfl) (λi j _ _=>oy hd i j)) .nil
 ·simp
 rintro mm e H ⟨k,rfl,hk,rfl,rfl⟩;have h0:(0:Int)<=(k:Int):=aa;by_cases hkn:k<hd.length;rotate_left
 ·have hki:¬(k:Int)<hd.length:=aa;obtain rfl:k=hd.length:=aa;refine dq hki ?_;exact⟨[_],rfl,.inr ⟨0,rfl,ae,_,ai,rfl,rfl,ag,rfl,bL _,bL _,λi j hi hj=>(fI i j hj).trans (if_pos hi),λi j _ _=>gL _ i j⟩,rfl,trivial⟩
 have hki:(k:Int)<hd.length:=aa;have hkj:(k:Int)<lo.length:=aa;have hk1:k*2+2<=hd.length*2:=aa;have wk:=au k;have wu:IntKind.u32.wrap (k:Int)=(k:Int):=sG aa;have gk:=hget k hkn;have put:∀(a b:Int),nw.getD k (0,0)=(a,b)->∀i j,i<hd.length->j<2->(if i=k then[AV.n .i64 a,AV.n .i64 b][j]?.getD .u else(λi j=>if i<k then vC nw i j else vC hd i j) i j)=(if i<k+1 then vC nw i j else vC hd i j):=λa b hab i j h hj=>by
  by_cases e:i=k
  ·subst e;rw[if_pos rfl,if_pos aa];rcases uh hj with rfl|rfl
   ·rw[wt,hab];rfl
   ·rw[ws,hab];rfl
  ·rw[if_neg e];dsimp only;by_cases h9:i<k
   ·rw[if_pos h9,if_pos aa]
   ·rw[if_neg h9,if_neg aa]
 have keep:nw.getD k (0,0)=hd.getD k (0,0)->∀i j,i<hd.length->j<2->(λi j=>if i<k then vC nw i j else vC hd i j:Nat->Nat->AV) i j=(if i<k+1 then vC nw i j else vC hd i j):=λhab i j h hj=>by
  dsimp only;by_cases h9:i<k
  ·rw[if_pos h9,if_pos aa]
  ·rw[if_neg h9];by_cases e:i=k
   ·subst e;rw[if_pos aa];rcases uh hj with rfl|rfl
    ·rw[wt,wt,hab]
    ·rw[ws,ws,hab]
   ·rw[if_neg aa]
 refine dD (aU h0 (aU hki (aU hkj (aU hp2 (aU x0 (aU x1 (aU x2 wu))))))) ?_;refine gf (F:=[.fs 2 (m-x) (λi=>pI cs (x+i)),.agg [aq 2,.n .u32 k]]) (BC cs x (m-x) k aa _ (λ_ _=>rfl)) ?_;by_cases hp:pass<3
 ·rw[if_pos hp] at gk;refine dD (aU h0 (aU hki (aU hkj (aU hp (aU @wt @ws))))) ?_;refine gf (F:=[iv (hd.getD k (0,0)),iv (lo.getD k (0,0))]) (tt _ _) ?_;simp only[iv];refine dp ?_;refine gf (F:=[iv (hd.getD k (0,0)),iv (kQ (hd.getD k (0,0)) (lo.getD k (0,0)))]) (xU _ _) ?_;simp only[iv];refine dE (aU h0 (aU hki (aU hkn (aU hk1 wk)))) ?_;refine⟨_,_,_,?_,Wk.mk [0] [] ?_ ?_ ?_,k+1,rfl,aa,rfl,rfl⟩
  ·omega
  ·exact fK
  ·exact eV
  ·simp
 ·rw[if_neg hp] at gk;cases hs:stoF cs x (m-x) k
  ·rw[hs] at gk;refine dq (aU hp wk) ?_;refine⟨_,_,_,?_,Wk.mk [0] [] ?_ ?_ ?_,k+1,rfl,aa,rfl,rfl⟩
   ·omega
   ·exact fK
   ·exact .cr (.same ai rfl ag (keep gk) (λi j _ _=>by split<;>exact oy _ _ _)) .nil
   ·simp
  ·rw[hs] at gk;refine dq hp ?_;refine gf jc ?_;simp only[iv];refine dE (aU h0 (aU hki (aU hkn (aU hk1 wk)))) ?_;refine⟨_,_,_,?_,Wk.mk [0] [] ?_ ?_ ?_,k+1,rfl,aa,rfl,rfl⟩
   ·omega
   ·exact fK
   ·exact eV
   ·simp
theorem sB{P:Program}{f:FuncId}{args:List AV}{x:AV}(hx:x.pu 3=true)(h:yI P f args λv H=>∃M,Cv M H v x):gw P f args [.v x]:=by
 refine⟨h.1,λφ w args' hφ ha=>(h.2 φ w args' hφ ha).mono λe w' hq=>?_⟩;cases e with
 |panicked c=>exact hq.elim
 |outgrown=>exact hq.elim
 |returned u=>
  obtain⟨v,Hc,σ',⟨M,hcv⟩,hv,hH,hb,hz⟩:=hq;obtain⟨σ2,q1,q2,q3,q4,q5,q6,q7⟩:=hH.marks M;have hu:=hcv.ok hH q1 q2 q7 hv;exact⟨x,gF Hc M,σ2,⟨[x],rfl,⟨rfl,hx⟩,True.intro⟩,hu.mono σ2.bare_le,q6,hb,λc hc=>(q4.eq c hc).trans (hz c hc)⟩
theorem yq(l:List Iv)(hn:l.length<1000000):gw av 59 [.fs 2 l.length (vC l)] [.v .ow]:=by
 have h:=nX (n:=l.length) (row:=vC l) hn (λi j _ _=>gL l i j);refine sB rfl ⟨h.1,λφ w args' hφ ha=>(h.2 φ w args' hφ ha).mono λe w' hq=>?_⟩;cases e with
 |panicked c=>exact hq.elim
 |outgrown=>exact hq.elim
 |returned u=>
  obtain⟨v,Hc,σ',⟨l1,rfl,hr⟩,q⟩:=hq;refine⟨_,Hc,σ',⟨[],?_⟩,q⟩
  match l1,hr with
  |[v],hr=>
   rcases hr.1 with⟨rfl,_⟩|⟨b,rfl,_⟩<;>exact .ow rfl
theorem lV:AV.ow.cells=[.ow]:=rfl
theorem pP:AV.ow.one=true:=rfl
theorem kC:∀(l:am) (p n k:Int),jg (iI l p n) k=if k=p then some n else jg l k
 |[],p,n,k=>by
  simp only[iI,jg];by_cases h:k=p
  ·rw[if_pos h,if_pos h.symm]
  ·rw[if_neg h,if_neg (λe=>h e.symm)]
 |x::l,p,n,k=>by
  simp only[iI];by_cases hx:x.1=p
  ·rw[if_pos hx];simp only[jg];by_cases h:k=p
   ·rw[if_pos h,if_pos h.symm]
   ·rw[if_neg h,if_neg (λe=>h e.symm),if_neg (λe=>h (e.symm.trans hx))]
  ·rw[if_neg hx];simp only[jg];by_cases h:x.1=k
   ·rw[if_pos h,if_pos h,if_neg (λe=>hx (h.trans e))]
   ·rw[if_neg h,if_neg h,kC l p n k]
theorem sg.put{r:Nat}{ob:Nat->Option OB}{lp:am}{mx:nG}(h1:ob r=some (.mp mx))(h2:mx.own=true)(h3:∀k,mx.get k=(jg lp k).map λn=> .agg [aq k,aq n,.ow])(x mo:Int):sg r (uC (Mh ob) r (.mp (mx.put x (.agg [aq x,aq mo,.ow])))) (iI lp x mo):=by
 refine⟨_,if_pos rfl,h2,λk=>?_⟩;show(if k=x then some _ else mx.get k)=_
 rw[kC];by_cases h:k=x
 ·rw[if_pos h,if_pos h,h];rfl
 ·rw[if_neg h,if_neg h,h3]
section
variable (la:ao) (loc:Int) (cs:am) (pt:List Int) (r:Nat)
def wkO(S:WS):List AV:=
 [.fs 2 la.length (pA la),aq loc,.fs 2 cs.length (pI cs),.fs 1 pt.length (iC pt),.f 57 [] [],.f 58 [] [.fp 3 (Gv la loc cs) 0],.fs 2 S.loc.length (vC S.loc),.os 1 S.st.length,aq S.ht,.ow,.cv (.map (some r))]
theorem ud(n:Nat)(hn:n<1000)(hcs:cs.length<=1024)(hpt:pt.length=cs.length)(hA:pz cs)(x y:Nat)(u v:Fo)(base:Nat)(S:WS)(ob:Nat->Option OB)(hU:vc la loc cs pt r n u)(hg:fM cs pt (.br 29 x y u v .nil) x y)(hy:y<=cs.length)(hb:base<=32)(hW:WF n S)(hS:Sm x S)(hM:sg r ob S.lp):
  PC av fV 87 [.p 0 0,aq x,aq base] (ft ob (wH la loc cs pt r S)) (ZM la loc cs pt r (λz=> .tup [jo z,aq ((y-1:Nat))]) (ng cs la x u base S)) (ZN (ng cs la x u base S)):=by
 obtain⟨_,hop,_,⟨m,g1,⟨g2,g31⟩,g3,g4,g5⟩,_⟩:=hg;have h31:=g31 rfl;rcases g5 with⟨q0,_⟩|⟨_,_,rfl⟩
 ·rw[h31] at q0;cases q0
 refine PC.vw (gX ahl ⟨ae,ag⟩ ?_);simp only[fy,wH,kv];have x0:(0:Int)<=(x:Int):=aa;have xl:(x:Int)<(pt.length:Int):=aa;have hpm:iC pt x 0= aq m:=by rw[zG,g1]
 have wx:=au x;refine a7 ?_;refine gB la loc cs pt r ob (args2:=[.p 0 0,aq x,aq base,.s ⟨#[110]⟩]) (L:=[(0,.p 0 0),(1,aq x),(6,.p 3 0)]) (bl2:=[eZ 0 130 [aq 0,aq 0]]) S [3,2,1,0] [] (vF la loc cs pt r ob x base [110] ae aa S (by have:=hS.st;omega)) ?_ ?_ ?_ ?_ ae rfl af af (.cons .lq .nil) ?_ ?_
 ·exact fK
 ·exact bb
 ·exact asH
 ·exact asC
 ·rintro v H' ⟨l,S1,hp,rfl,rfl⟩;refine⟨S1,ob,rfl,?_⟩;simp only[wH,kv,List.cons_append,List.nil_append];obtain⟨w1,w2,w3,w4,w5⟩:=iq hp hW;have s1:=kI hp hS;obtain⟨h,hh⟩:∃h,h=S1.st.length:=⟨_,rfl⟩;have hh32:=s1.st;have hl1:l.length=1:=by
   obtain⟨q1,q2,_⟩:=oD hp;rw[q2,aqa];simp only[List.length_cons,List.length_nil] at q1 ⊢;omega
  have hmo2:iJ (l.getD 0 v0).2:=jh w2 0;obtain⟨mo,hmo⟩:∃mo,mo=(l.getD 0 v0).2.2:=⟨_,rfl⟩;rw[<-hh] at hh32;have e2:sC l 0 2= aq mo:=by rw[wU,hmo]
  have hC1:ng cs la x u base S=(if mo<=65536 then(match l6 (λS'=>fO cs la u h h S' (0,0)) m h (stoF cs x (m-x)) 6 1 S1.loc S1 with
    |none=>none
    |some (.error e)=>some (.error e)
    |some (.ok (head,S2,bx))=>some (.ok ({S2 with loc:=S2.lv.foldl gj head,lv:=S1.lv,lp:=iI S2.lp x mo},gh (jt bx mo) (1,0))))
   else some (.error (x,18))):=by
   unfold ng;rw[hp,g4.lastB,hh,hmo];rfl
  by_cases hle:mo<=65536;rotate_left
  ·rw[if_neg hle] at hC1;refine a8 (aU hl1 (aU e2 hle)) ?_;exact fP [] (fargs:=[.b false,aq x,aq 18]) (ja.same rfl) (jK x 18) ⟨(x,18),hC1,rfl⟩
  rw[if_pos hle] at hC1;have hB:n8 cs n (x+1) m (λS'=>fO cs la u h h S' (0,0)):=λS3 S4 b4 h3 h5=>fR hA u (x+1) m _ _ g4 h3 h5 oU;obtain⟨R,hR⟩:∃R,l6 (λS'=>fO cs la u h h S' (0,0)) m h (stoF cs x (m-x)) 6 1 S1.loc S1=some R:=
   o7 hB (λS' hS'=>ik hA u (x+1) m h h S' (0,0) g4 hS' oU) aa g4.le (bL _) 6 1 S1.loc S1 w1 w1.loc (λh4=>aa) aa aa
  have hR0:=hR;rw[hR] at hC1;have hln:S1.loc.length=n:=w1.loc.1;refine a8 (aU hl1 (aU e2 hle)) ?_;refine iR (jd x 18) ?_;refine a7 ?_;refine iR (K0 x mo S1.loc) ?_;refine bB (aU x0 (aU xl hpm)) ?_;refine GE.loop (I:=λf e H=>∃(pass:Int) (head:List Iv) (Sx:WS) (b0:Bd) (obx:Nat->Option OB),(f:Int)+pass=7/\1<=pass/\wl n head/\WF n Sx/\(Sx.st.length<=32/\0<=Sx.ht/\Sx.ht<=32)/\l6 (λS'=>fO cs la u h h S' (0,0)) m h (stoF cs x (m-x)) f pass head Sx=some R/\sg r obx Sx.lp/\e=fu [(0,.p 0 0),(1,aq x),(6,.p 3 0),(8,aq mo),(9,.fs 2 head.length (vC head)),(10,aq m),(11,aq h),(12,.os 2 S1.lv.length),(13,.p 4 0),(14,aq pass)]/\H=ft obx [eZ 0 130 [aq b0.1,aq b0.2],eZ 0 130 [aq 0,aq 0],fg 46 1 S1.lv.length 0 (pS S1.lv),fg 221 3 Sx.st.length 0 (sC Sx.st),eZ 0 124 (wkO la loc cs pt r Sx)]) (m:=6) (gA.mkO [4,3,2,1,0] [] ?_ ?_ ?_ ?_ (fh rfl)) ⟨1,S1.loc,S1,(0,0),ob,rfl,ag,w1.loc,w1,⟨s1.st,s1.ht⟩,hR,by rw[w5];exact hM,rfl,rfl⟩ ?_
  ·simp only[iT,ig,hh,go_sem,simprocAttr]
   repeat' refine fE ?_ ?_
   all_goals first|exact jQ|skip
  ·exact eW
  ·simp
  ·exact asC
  rintro f e H ⟨pass,head,Sx,b0,obx,hfp,hp1,hhd,hWx,hSx,hs,hMx,rfl,rfl⟩;cases f with
  |zero=>cases hs
  |succ f=>
  rw[l6] at hs;have wb:WF n {Sx with loc:=head,lv:=[]}:=⟨hhd,hWx.st,λl hl=>by cases hl⟩
  have sb:Sm (x+1) {Sx with loc:=head,lv:=[]}:=⟨hSx.1,hSx.2,apf _⟩;have hu:=hU (x+1) m h h {Sx with loc:=head,lv:=[]} obx g4 aa aa aa wb sb hMx;simp only[wkO]
  (try simp only[go_sem,simprocAttr])
  iterate 3 (with_reducible refine GE.go fx rfl ?_;try simp only[go_sem,simprocAttr])
  refine GE.cut (fu [(0,.p 0 0),(1,aq x),(6,.p 4 0),(8,aq mo),(9,.fs 2 head.length (vC head)),(10,aq m),(11,aq h),(12,.os 3 S1.lv.length),(13,.p 5 0),(14,aq pass)]) (ft obx ([eZ 0 130 [aq b0.1,aq b0.2],eZ 0 130 [aq 0,aq 0],fg 46 1 S1.lv.length 0 (pS S1.lv)]++wH la loc cs pt r {Sx with loc:=head,lv:=[]})) ?_ ?_
  ·refine a7 ?_;refine(gA.nilc 0 9 1 46 (x:=?x) ?hx ?hi ag ag ?hlv ?hv ?hn).trans (gA.mkO (ob:=obx) [4,3,2,5,1,0] [] ?_ ?_ ?_ ?_ (fh rfl))
   case hx=>simp only[go_sem,simprocAttr]<;>rfl
   case hi=>show 9<11;decide
   case hlv=>rfl
   case hv=>simp only[go_sem,simprocAttr]
   case hn=>simp only[go_sem,simprocAttr]<;>decide
   ·exact fK
   ·exact .cr (.j2) (.cr (.j2) (.cr (.k2 (λ_ _ _ _=>rfl)) (.cr (.rows (x:=_) ai af af af (apf _) (bL _) ag (λi j h=>absurd h (apg _)) (λi j h=>absurd h (apg _))) (.cr (.k2 (λi j _ _=>fk _ i j)) (.cr .wk .nil)))))
   ·simp[wH]
   ·exact asC
  simp only[wH,kv,List.cons_append,List.nil_append];refine a9 wx ?_;refine gB la loc cs pt r obx (args2:=[.p 0 0,aq ((x+1:Nat)),aq m,aq h,aq h]) (L:=[(0,.p 0 0),(1,aq x),(6,.p 4 0),(8,aq mo),(9,.fs 2 head.length (vC head)),(10,aq m),(11,aq h),(12,.os 3 S1.lv.length),(13,.p 5 0),(14,aq pass)]) (bl2:=[eZ 0 130 [aq b0.1,aq b0.2],eZ 0 130 [aq 0,aq 0],fg 46 1 S1.lv.length 0 (pS S1.lv)]) {Sx with loc:=head,lv:=[]} [5,4,3,2,1,0] [] (hu) ?_ ?_ ?_ ?_ ae rfl af af (.cons .lq (.cons .lq (.cons (.row ag (λi j _ _=>rfl)) .nil))) ?_ ?_
  ·exact fK
  ·exact bb
  ·exact asN
  ·exact asC
  ·rintro v' H' ⟨S2,bx,ob2,hu2,rfl,hM2,rfl⟩;refine⟨S2,ob2,rfl,?_⟩;simp only[wH,kv,List.cons_append,List.nil_append,jo];rw[hu2] at hs;dsimp only at hs;have w6:=hB _ _ _ hu2 wb;have s2:=iB u (x+1) m h h g4 hu2 sb;have hlvl:=oK la loc cs pt r ob2 m h S2 (by have:=s2.st;omega)
   refine a7 ?_;refine gB la loc cs pt r ob2 (args2:=[.p 0 0,aq m,aq h]) (L:=[(0,.p 0 0),(1,aq x),(6,.p 4 0),(8,aq mo),(9,.fs 2 head.length (vC head)),(10,aq m),(11,aq h),(12,.os 3 S1.lv.length),(13,.p 5 0),(14,aq pass)]) (bl2:=[eZ 0 130 [aq bx.1,aq bx.2],eZ 0 130 [aq 0,aq 0],fg 46 1 S1.lv.length 0 (pS S1.lv)]) S2 [5,4,3,2,1,0] [] (hlvl) ?_ ?_ ?_ ?_ ae rfl af af (.cons .lq (.cons .lq (.cons (.row ag (λi j _ _=>rfl)) .nil))) ?_ ?_
   ·exact fK
   ·exact bb
   ·exact asM
   ·exact asC
   ·rintro v' H' ⟨hl,rfl,rfl⟩;refine⟨S2,ob2,rfl,?_⟩;simp only[wH,kv,List.cons_append,List.nil_append];have hl2:S2.st.length=h:=by
     unfold r8 at hl;split at hl
     ·assumption
     ·cases hl
    rw[if_pos hl2] at hs;have hS2n:S2.loc.length=n:=w6.1.wf.loc.1;have hhn:head.length=n:=hhd.1;refine a7 ?_;refine iR (F:=[.fs 2 S2.loc.length (vC S2.loc),.fs 2 head.length (vC head)]) (wI S2.loc head aa aa) ?_;obtain⟨mx,hmx,hown,hget⟩:=hM2;by_cases hw:ib S2.loc head=true
    ·rw[if_pos hw] at hs;obtain rfl:=apl hs;dsimp only at hC1;refine a9 hw ?_;refine Dp (F:=[.fs 2 head.length (vC head)]) (yq head aa) ?_;refine a9 (aU hmx (aU hown (aU @lV @pP))) ?_;obtain⟨obm,hobm⟩:∃obm,obm=(uC (Mh ob2) r (.mp (mx.put x (.agg [aq x,aq mo,.ow])))):=⟨_,rfl⟩;refine GE.loop (I:=λmm e H=>∃(k:Nat) (acc:List Iv),mm=S2.lv.length-k/\k<=S2.lv.length/\acc=(S2.lv.take k).foldl gj head/\e=fu [(0,.p 0 0),(6,.p 4 0),(8,aq mo),(10,aq m),(12,.os 3 S1.lv.length),(13,.p 5 0),(117,.os 2 S2.lv.length),(118,aq S2.lv.length),(119,aq k)]/\H=ft obm ([eZ 0 130 [aq bx.1,aq bx.2],eZ 0 130 [aq 0,aq 0],fg 46 1 S1.lv.length 0 (pS S1.lv)]++wH la loc cs pt r {S2 with loc:=acc})) (m:=S2.lv.length) (gA.mkO (ob:=obm) [5,4,3,2,1,0] [] ?_ ?_ ?_ ?_ (fh rfl)) ⟨0,head,rfl,apf _,rfl,rfl,rfl⟩ ?_
     ·exact fK
     ·exact bb
     ·simp[wH]
     ·intro r x h;refine ba ?_;rw[hobm] at h;exact h
     rintro mm e H ⟨k,acc,rfl,hk,hacc,rfl,rfl⟩;simp only[wH,kv,List.cons_append,List.nil_append];have k0:(0:Int)<=(k:Int):=aa;have hlv:=s2.lv;have haccn:acc.length=n:=by rw[hacc];exact(ns _ _ hhd).1
     by_cases hkn:k<S2.lv.length
     ·have hki:(k:Int)<S2.lv.length:=aa;have hk1:k+1<=S2.lv.length:=hkn;have wk:=au k;have hgk:(fg 46 1 S2.lv.length 0 (pS S2.lv)).get k= .fs 2 (S2.lv.getD k []).length (vC (S2.lv.getD k [])):=by
       have:=fI (ty:=46) (esz:=1) (n:=S2.lv.length) (z:=0) (row:=pS S2.lv) k 0 ag;rw[apu,Nat.add_zero] at this;exact this
      have hlk:(S2.lv.getD k []).length=n:=by
       rw[apd,apk hkn];exact(w6.1.wf.lv _ (ap2 hkn)).1
      repeat first|with_reducible refine GE.g ?_|simp only[k0,hki,hkn,hk1,hgk,apu,apw,aQ,go_sem,simprocAttr]
      refine iR (F:=[.fs 2 acc.length (vC acc),.fs 2 (S2.lv.getD k []).length (vC (S2.lv.getD k []))]) (qW acc (S2.lv.getD k []) aa aa) ?_;refine a9 wk ?_;refine⟨_,_,_,?_,gA.mkO (ob:=obm) (bl:=[eZ 0 130 [aq bx.1,aq bx.2],eZ 0 130 [aq 0,aq 0],fg 46 1 S1.lv.length 0 (pS S1.lv)]++wH la loc cs pt r {S2 with loc:=gj acc (S2.lv.getD k [])}) [5,4,3,2,1,0] [6] ?_ ?_ ?_ ?_ (fh rfl),k+1,_,rfl,aa,?_,rfl,rfl⟩
      ·omega
      ·exact fK
      ·simp only[wH,kv,i7];exact .cr (.j2) (.cr (.j2) (.cr (.k2 (λ_ _ _ _=>rfl)) (.cr (.k2 (λ_ _ _ _=>rfl)) (.cr (.k2 (λi j _ _=>fk _ i j)) (.cr (.wk (hg:=λi hi=>by rcases xJ hi with rfl|rfl|rfl|rfl|rfl|rfl|rfl|rfl|rfl|rfl|rfl<;>(simp only[go_sem,simprocAttr];first|exact Wv.same rfl|exact Wv.os rfl|exact .cv (.ownb (ty:=127) (z:=0) ai (λi j _ _=>gL _ i j) ae)))) .nil)))))
      ·simp[wH]
      ·exact asC
      ·exact asR
     ·have hki:¬(k:Int)<S2.lv.length:=aa;have hall:acc=S2.lv.foldl gj head:=by rw[hacc,List.take_of_length_le aa]
      refine a8 hki ?_;refine iR (F:=[jo bx,aq mo]) (yX bx mo w6.2 ⟨by rw[hmo];have:=hmo2.1;have:=hmo2.2.1;omega,hle⟩) ?_
      simp only[jo];refine a7 ?_;refine iR (F:=[jo (jt bx mo),jo (1,0)]) (oY _ _ (yx w6.2 (by rw[hmo];have:=hmo2.1;have:=hmo2.2.1;omega)) qU) ?_
      simp only[jo];refine a7 ?_;rw[<-hall] at hC1;exact mj (ob:=obm) [3,1,0] [] (.tup [jo (gh (jt bx mo) (1,0)),aq (m:Nat)]) (wH la loc cs pt r {S2 with loc:=acc,lv:=S1.lv,lp:=iI S2.lp x mo}) bb (.cv (.rfl rfl)) (by simp[wH]) (λr x h=>by simp only[go_sem,simprocAttr];exact h) (fh rfl) ⟨_,_,obm,hC1,rfl,by rw[hobm];exact sg.put hmx hown hget x mo,rfl⟩
    ·rw[if_neg hw] at hs;have hw':ib S2.loc head=false:=by simpa using hw
     refine a9 hw' ?_;refine iR (F:=[aq x,aq m,aq pass,.fs 2 head.length (vC head),.fs 2 S2.loc.length (vC S2.loc),.fp 3 (Gv la loc cs) 0]) (KZ la loc cs hcs x m aa aa pass head S2.loc aa aa) ?_;have wp:IntKind.i64.wrap (pass+1)=pass+1:=ff aa;refine a9 wp ?_;refine⟨f,_,_,apG f,gA.mkO (ob:=ob2) (bl:=[eZ 0 130 [aq bx.1,aq bx.2],eZ 0 130 [aq 0,aq 0],fg 46 1 S1.lv.length 0 (pS S1.lv),fg 221 3 S2.st.length 0 (sC S2.st),eZ 0 124 (wkO la loc cs pt r S2)]) [5,4,3,1,0] [6] ?_ ?_ ?_ ?_ (fh rfl),pass+1,iL (stoF cs x (m-x)) pass 0 head S2.loc,S2,bx,ob2,aa,aa,lY hhd _ _ _ _,w6.1.wf,⟨s2.st,s2.ht⟩,hs,⟨mx,hmx,hown,hget⟩,rfl,rfl⟩
     ·simp only[iT,ig,nZ,go_sem,simprocAttr]
      repeat' refine fE ?_ ?_
      all_goals first|exact jQ|skip
      exact eX
     ·exact eW
     ·simp
     ·exact asC
   ·rintro c H' ⟨e,he,rfl⟩;unfold r8 at he;split at he
    ·cases he
    ·rename_i hne;rw[if_neg hne] at hs;cases he;obtain rfl:=apl hs;exact⟨_,hC1,rfl⟩
  ·rintro c H' ⟨e,he,rfl⟩;rw[he] at hs;obtain rfl:=apl hs;exact⟨e,hC1,rfl⟩
 ·rintro c H' ⟨e,he,rfl⟩;exact⟨e,by unfold ng;rw[he],rfl⟩
end
end Go.Proofs.YtdpkgnmmikebdaaGreat