/- A part of the proof of CostGrows: VfI VfJ VfK VfL VfN VfO VfP. No condition. -/
import Derived.Test.YtdpkgnmmikebdaaGreatGf28
import Derived.Test.YtdpkgnmmikebdaaGreatGf29
import Derived.Test.YtdpkgnmmikebdaaGreatGf24
import Derived.Test.YtdpkgnmmikebdaaGreatGf26
set_option linter.unusedSimpArgs false
set_option linter.unusedVariables false
set_option linter.constructorNameAsVariable false
set_option maxRecDepth 100000
set_option maxHeartbeats 4000000
namespace Go.Proofs.YtdpkgnmmikebdaaGreat
open Go.RowKit
def vC(l:List Iv)(i j:Nat):AV:=if j=0 then .n .i64 (l.getD i (0,0)).1 else .n .i64 (l.getD i (0,0)).2
theorem Bp(l:List Iv)(i:Nat):vC l i 0= .n .i64 (l.getD i (0,0)).1:=rfl
theorem Bo(l:List Iv)(i:Nat):vC l i 1= .n .i64 (l.getD i (0,0)).2:=rfl
theorem du(l:List Iv)(i j:Nat):(vC l i j).cell=true:=by unfold vC;split<;>rfl
theorem l5(l:List Iv)(i j:Nat):(vC l i j).pu 3=true:=by unfold vC;split<;>rfl
theorem yA{j:Nat}(h:j<2):j=0\/j=1:=by omega
theorem kv(x y:List Iv)(hxy:x.length<=y.length)(hn:x.length<100000):bM Tryz.prog 120 [.fs 2 x.length (vC x),.fs 2 y.length (vC y)] [.o 127 2 x.length 0 (vC (bL x y))]:=by
 refine ag aD QU ⟨by simp,by decide⟩ ?_
 simp only[aE]
 repeat first|with_reducible refine aq ?_|simp only[go_sem,simprocAttr]
 refine bS ([.fs 2 x.length (vC x)]) (gz (by omega) (λi j _ _=>du x i j)) ?_
 repeat first|with_reducible refine aq ?_|simp only[go_sem,simprocAttr]
 refine GA.loop (I:=λm e H=>∃k:Nat,m=x.length-k/\k<=x.length/\e=az [(0,.fs 2 x.length (vC x)),(1,.fs 2 y.length (vC y)),(5,.os 0 x.length),(10,.n .i64 x.length),(11,.n .i64 k)]/\H=ah [ai 127 2 x.length 0 (λi j=>if i<k then vC (bL x y) i j else vC x i j)]) (Wk.mk [0] [] ?_ ?_ ?_) ⟨0,rfl,by omega,rfl,rfl⟩ ?_
 ·exact a8
 ·exact .cr (.same (by simp only[go_sem,simprocAttr]<;>rfl) rfl (by decide) (λi j h hj=>rfl) (λi j _ _=>l5 x i j)) .nil
 ·simp
 rintro m e H ⟨k,rfl,hk,rfl,rfl⟩
 have h0:(0:Int)<=(k:Int):=by omega
 have hrp:∀i j,((λi j=>if i<k then vC (bL x y) i j else vC x i j:Nat->Nat->AV) i j).pu 3=true:=λi j=>by dsimp only;split<;>exact l5 _ _ _
 by_cases hkn:k<x.length
 ·have hki:(k:Int)<x.length:=by omega
  have hkj:(k:Int)<y.length:=by omega
  have hk1:k*2+2<=x.length*2:=by omega
  have wk:IntKind.i64.wrap ((k:Int)+1)=((k+1:Nat):Int):=(aj (by omega)).trans (by omega)
  repeat first|with_reducible refine aq ?_|simp only[h0,hki,hkj,Bp,Bo,decide_true,Int.toNat_natCast,go_sem,simprocAttr]
  refine bS ([iv (x.getD k (0,0)),iv (y.getD k (0,0))]) (mG _ _) ?_
  simp only[iv]
  repeat first|with_reducible refine aq ?_|simp only[h0,hki,hkn,hk1,wk,Int.toNat_natCast,go_sem,simprocAttr]
  refine⟨_,_,_,?_,Wk.mk [0] [] ?_ ?_ ?_,k+1,rfl,by omega,rfl,rfl⟩
  ·omega
  ·exact a8
  ·refine .cr (.put (q:=k) (by simp only[go_sem,simprocAttr]<;>rfl) (by simp) rfl hkn rfl (by decide) (by omega) (λi j h hj=>?_) (λi j _ _=>by split<;>exact l5 _ _ _)) .nil
   by_cases e:i=k
   ·subst e
    rw[if_pos rfl,if_pos (by omega)]
    rcases yA hj with rfl|rfl
    ·rw[Bp,iW x y i hkn];rfl
    ·rw[Bo,iW x y i hkn];rfl
   ·rw[if_neg e]
    by_cases h9:i<k
    ·rw[if_pos h9,if_pos (by omega)]
    ·rw[if_neg h9,if_neg (by omega)]
  ·simp
 ·have hki:¬(k:Int)<x.length:=by omega
  obtain rfl:k=x.length:=by omega
  repeat first|with_reducible refine aq ?_|simp only[hki,decide_false,go_sem,simprocAttr]
  exact⟨[_],rfl,.inr ⟨0,rfl,by simp,_,by simp only[go_sem,simprocAttr]<;>rfl,rfl,rfl,by decide,rfl,Nat.le_refl _,Nat.le_refl _,λi j hi hj=>(aJ i j hj).trans (if_pos hi),λi j _ _=>du _ i j⟩,rfl,trivial⟩
theorem kX:∀(x y:List Iv),x.length≠y.length->b7 x y=false
 |[],[],h=>absurd rfl h
 |[],_::_,_=>rfl
 |_::_,[],_=>rfl
 |a::x,b::y,h=>by simp only[b7,kX x y (by simpa using h),Bool.and_false]
theorem oV{x y:List Iv}{k:Nat}(hx:k<x.length)(hy:k<y.length):b7 (x.drop k) (y.drop k)=(dp (x.getD k (0,0)) (y.getD k (0,0))&&b7 (x.drop (k+1)) (y.drop (k+1))):=by
 rw[cE (d:=(0,0)) hx,cE (d:=(0,0)) hy,b7]
theorem Bm(x y:List Iv)(hn:x.length<100000)(hm:y.length<100000):bM Tryz.prog 171 [.fs 2 x.length (vC x),.fs 2 y.length (vC y),.f 172 [] []] [.v (.b (b7 x y))]:=by
 refine ag aD Qg ⟨by simp,by decide⟩ ?_
 simp only[aE]
 by_cases hl:x.length=y.length
 rotate_left
 ·have hl':¬(x.length:Int)=y.length:=by omega
  repeat first|with_reducible refine aq ?_|simp only[hl',ne_eq,not_false_eq_true,decide_true,decide_false,Bool.not_false,go_sem,simprocAttr]
  exact aa (by rw[kX x y hl]) rfl
 have hl':(x.length:Int)=y.length:=by omega
 repeat first|with_reducible refine aq ?_|simp only[hl',ne_eq,not_true_eq_false,decide_true,decide_false,Bool.not_true,go_sem,simprocAttr]
 refine GA.loop (I:=λm e H=>∃k:Nat,m=x.length-k/\k<=x.length/\b7 x y=b7 (x.drop k) (y.drop k)/\e=az [(1,.fs 2 y.length (vC y)),(2,.f 172 [] []),(15,.fs 2 x.length (vC x)),(16,.n .i64 y.length),(17,.n .i64 k)]/\H=ah []) (Wk.mk [] [] ?_ ?_ ?_) ⟨0,rfl,by omega,rfl,rfl,rfl⟩ ?_
 ·exact a8
 ·trivial
 ·decide
 rintro m e H ⟨k,rfl,hk,hs,rfl,rfl⟩
 have h0:(0:Int)<=(k:Int):=by omega
 by_cases hkn:k<x.length
 ·have hki:(k:Int)<x.length:=by omega
  have hkj:(k:Int)<y.length:=by omega
  have wk:IntKind.i64.wrap ((k:Int)+1)=((k+1:Nat):Int):=(aj (by omega)).trans (by omega)
  rw[oV hkn (by omega)] at hs
  repeat first|with_reducible refine aq ?_|simp only[h0,hki,hkj,Bp,Bo,decide_true,Int.toNat_natCast,go_sem,simprocAttr]
  refine bS ([iv (x.getD k (0,0)),iv (y.getD k (0,0))]) (pD _ _) ?_
  cases hw:dp (x.getD k (0,0)) (y.getD k (0,0))
  ·repeat first|with_reducible refine aq ?_|simp only[Bool.not_false,go_sem,simprocAttr]
   exact aa (by rw[hs,hw];rfl) rfl
  ·repeat first|with_reducible refine aq ?_|simp only[wk,Bool.not_true,go_sem,simprocAttr]
   refine⟨_,_,_,?_,Wk.mk [] [] ?_ ?_ ?_,k+1,rfl,by omega,by rw[hs,hw];rfl,rfl,rfl⟩
   ·omega
   ·exact a8
   ·trivial
   ·decide
 ·have hki:¬(k:Int)<y.length:=by omega
  repeat first|with_reducible refine aq ?_|simp only[hki,decide_false,go_sem,simprocAttr]
  exact aa (by rw[hs,List.drop_eq_nil_of_le (by omega),List.drop_eq_nil_of_le (by omega)];rfl) rfl
theorem qn(x y:List Iv)(hn:x.length<100000)(hm:y.length<100000):bM Tryz.prog 121 [.fs 2 x.length (vC x),.fs 2 y.length (vC y)] [.v (.b (b7 x y))]:=by
 refine ag aD Qk ⟨by simp,by decide⟩ ?_
 simp only[aE]
 repeat first|with_reducible refine aq ?_|simp only[go_sem,simprocAttr]
 refine bS ([.fs 2 x.length (vC x),.fs 2 y.length (vC y),.f 172 [] []]) (Bm x y hn hm) ?_
 repeat first|with_reducible refine aq ?_|simp only[go_sem,simprocAttr]
 exact aa rfl rfl
/-! ### what is demanded-/
def et(at_ e:Int):List PanicEntry:=[{v:= .iface 118 (.agg #[.int .i64 at_,.int .i64 e]),recovered:=false}]
theorem xy(a n:Int)(w:World):
  Calls Tryz.prog 64 #[.int .i64 a,.int .i64 n] w λe w'=>e= .panicked (et a n)/\Below w.heap.size w w':=by
 go_enter Tryz.func64,Tryz.ntmps64
 go_wp2
 exact(⟨rfl,rfl,Below.refl _ _⟩:_/\_/\_)
theorem Ik{σ:Sg}{k k':IntKind}{a n:Int}{args':Array Value}(h:aX σ [.n k a,.n k' n] args'.toList):args'= #[.int k a,.int k' n]:=by
 obtain⟨l⟩:=args'
 obtain⟨h1,h2⟩:=h
 match l,h1 with
 |[x,y],_=>
  have e0:=h2 0 _ rfl
  have e1:=h2 1 _ rfl
  simp only[List.getD_cons_zero,List.getD_cons_succ] at e0 e1
  cases e0;cases e1
  rfl
theorem xw:nI Tryz.prog 64:=⟨_,Tryz.func64,by kernel_rfl,rfl⟩
theorem uX(a n:Int):KA Tryz.prog 64 [.n .i64 a,.n .i64 n] (et a n):=by
 refine⟨xw,λφ w args' hφ ha=>?_⟩
 obtain rfl:=Ik ha
 exact xy a n w
theorem cw(a n:Int):bM Tryz.prog 33 [.b true,.n .i64 a,.n .i64 n] []:=by
 refine ag aD C6 ⟨by simp,by decide⟩ ?_
 simp only[aE]
 repeat first|with_reducible refine aq ?_|simp only[go_sem,simprocAttr]
 exact⟨[],rfl,trivial⟩
theorem cV(a n:Int):KA Tryz.prog 33 [.b false,.n .i64 a,.n .i64 n] (et a n):=by
 refine xZ (cI C6 ⟨by simp,by decide⟩ ?_)
 simp only[aE]
 repeat first|with_reducible refine GE.g ?_|simp only[go_sem,simprocAttr]
 exact aI [] (fargs:=[.n .i64 a,.n .i64 n]) (ck.same rfl) (uX a n) rfl
def sC(l:List Vl)(i j:Nat):AV:=if j=0 then .b (l.getD i v0).1 else if j=1 then .n .i64 (l.getD i v0).2.1 else .n .i64 (l.getD i v0).2.2
theorem Ku(l:List Vl)(i:Nat):sC l i 0= .b (l.getD i v0).1:=rfl
theorem IJ(l:List Vl)(i:Nat):sC l i 1= .n .i64 (l.getD i v0).2.1:=rfl
theorem Df(l:List Vl)(i:Nat):sC l i 2= .n .i64 (l.getD i v0).2.2:=rfl
theorem fj(l:List Vl)(i j:Nat):(sC l i j).cell=true:=by unfold sC;(repeat' split)<;>rfl
theorem aG(l:List Vl)(i j:Nat):(sC l i j).pu 3=true:=by unfold sC;(repeat' split)<;>rfl
theorem VM(l:List Vl)(i j:Nat):(sC l i j).sc 3=true:=by unfold sC;(repeat' split)<;>rfl
theorem VN(l:List Vl)(p:Nat->Bool)(i j:Nat):(sC l i j).nm p 3=true:=by unfold sC;(repeat' split)<;>rfl
theorem BB(l:List Vl)(q i j:Nat):sC (l.drop q) i j=sC l (q+i) j:=by simp only[sC,List.getD_eq_getElem?_getD,List.getElem?_drop]
theorem BA(l:List Vl)(q i j:Nat)(h:i<q):sC (l.take q) i j=sC l i j:=by simp only[sC,List.getD_eq_getElem?_getD,List.getElem?_take,if_pos h]
def vH(l:List (List Iv))(i _j:Nat):AV:= .fs 2 (l.getD i []).length (vC (l.getD i []))
def AL(la:List (Bool×Int))(loc:Int)(cs:List (Int×Int))(j:Nat):AV:=if j=0 then .fs 2 la.length (pA la) else if j=1 then .n .i64 loc else .fs 2 cs.length (pI cs)
def dL(la:List (Bool×Int))(loc:Int)(cs:List (Int×Int))(pt:List Int)(r:Nat)(S:WS):List AV:=
 [.fs 2 la.length (pA la),.n .i64 loc,.fs 2 cs.length (pI cs),.fs 1 pt.length (iC pt),.f 57 [] [],.f 58 [] [.fp 3 (AL la loc cs) 0],.fs 2 S.loc.length (vC S.loc),.os 1 S.st.length,.n .i64 S.ht,.os 2 S.lv.length,.cv (.map (some r))]
def wH(la:List (Bool×Int))(loc:Int)(cs:List (Int×Int))(pt:List Int)(r:Nat)(S:WS):List AB:=
 [ai 46 1 S.lv.length 0 (vH S.lv),ai 221 3 S.st.length 0 (sC S.st),ae 0 124 (dL la loc cs pt r S)]
theorem qT{i:Nat}(h:i<11):i=0\/i=1\/i=2\/i=3\/i=4\/i=5\/i=6\/i=7\/i=8\/i=9\/i=10:=by omega
theorem dh.wk{r:Nat->Option Nat}{M:List Nat}{H:AH}{b ty:Nat}{l:List AV}{x:AB}(hx:H.at b=some x:=by simp only[go_sem,simprocAttr]<;>rfl)(h1:x.ty=ty:=by rfl)(h2:x.esz=0:=by rfl)(h3:x.opn=false:=by rfl)(h4:x.size=l.length:=by rfl)(h5:x.fzn=0:=by rfl)(hM:M.contains b=false:=by rfl)(hl:l.length=11:=by rfl)
  (hg:∀i,i<11->Wv r M H (x.get i) (l[i]?.getD .u):=by intro i hi;rcases(show i=0\/i=1\/i=2\/i=3\/i=4\/i=5\/i=6\/i=7\/i=8\/i=9\/i=10 from qT hi) with rfl|rfl|rfl|rfl|rfl|rfl|rfl|rfl|rfl|rfl|rfl<;>(simp only[go_sem,simprocAttr];first|exact Wv.same rfl|exact Wv.os rfl)):dh r M H b (ae 0 ty l):=
 .lstj hx h1 h2 h3 h4 h5 hM (by omega) (λi hi=>hg i (by omega))
def Il{α:Type}(r:Except Er α)(c:List PanicEntry)(_:AH):Prop:=∃x,r= .error x/\c=et x.1 x.2
section
variable (la:List (Bool×Int)) (loc:Int) (cs:List (Int×Int)) (pt:List Int) (r:Nat) (ob:Nat->Option OB)
def lD(p:Int)(h:Nat)(S:WS):Except Er Unit:=if S.st.length=h then .ok () else .error (p,14)
theorem ir(p:Int)(h:Nat)(S:WS)(hS:S.st.length<100000):PC Tryz.prog bG 56 [.p 0 0,.n .i64 p,.n .i64 h] (aw ob (wH la loc cs pt r S)) (λv H'=>lD p h S= .ok ()/\v= .tup []/\H'=aw ob (wH la loc cs pt r S)) (Il (lD p h S)):=by
 refine PC.vw (cI Q0 ⟨by simp,by decide⟩ ?_)
 simp only[aE,wH,dL]
 by_cases e:S.st.length=h
 ·have e':(S.st.length:Int)=h:=by omega
  repeat first|with_reducible refine GE.g ?_|simp only[e',decide_true,go_sem,simprocAttr]
  refine dl ([.b true,.n .i64 p,.n .i64 14]) (cw p 14) ?_
  repeat first|with_reducible refine GE.g ?_|simp only[go_sem,simprocAttr]
  exact xc (ob:=ob) [2,1,0] [] (.tup []) _ (.cr (.k2 (λ_ _ _ _=>rfl)) (.cr (.k2 (λi j _ _=>aG _ i j)) (.cr .wk .nil))) (.cv (.rfl rfl)) (by simp) (λr x h=>by simp only[go_sem,simprocAttr];exact h) (aA rfl) ⟨if_pos e,rfl,rfl⟩
 ·have e':¬(S.st.length:Int)=h:=by omega
  repeat first|with_reducible refine GE.g ?_|simp only[e',decide_false,go_sem,simprocAttr]
  exact aI [] (fargs:=[.b false,.n .i64 p,.n .i64 14]) (ck.same rfl) (cV p 14) ⟨(p,14),if_neg e,rfl⟩
/-! ### push-/
theorem dh.appfn{ro:Nat->Option Nat}{M:List Nat}{H:AH}{b ty esz n k z o:Nat}{row row1 row2:Nat->Nat->AV}(hx:H.at b=some ((ai ty esz n z row).app o (.fn (k*esz) λi=>row1 (i / esz) (i%esz))))(ho:o=n*esz)(hM:M.contains b=false)(h0:0<esz)(hn:(n+k)*esz<2^40)
  (h1:∀i j,i<n->j<esz->row2 i j=row i j) (h2:∀i j,i<k->j<esz->row2 (n+i) j=row1 i j) (hc:∀i j,i<n+k->j<esz->(row2 i j).pu 3=true):dh ro M H b (ai ty esz (n+k) z row2):=by
 subst ho
 refine dh.rows hx (AB.app_rest _ _ _).2.1 (AB.app_rest _ _ _).1 (AB.app_rest _ _ _).2.2.1 ?_ ?_ h0 (λi j hi hj=>?_) hc
 ·rw[AB.app_size];simp only[dZ.len,Nat.add_mul];exact Nat.le_refl _
 ·rw[if_neg (by simpa using hM),(AB.app_rest _ _ _).2.2.2.2];exact Nat.le_refl _
 ·rw[nj hj hi hn]
  by_cases h:n<=i
  ·rw[if_pos h,<-h2 (i-n) j (by omega) hj,show n+(i-n)=i by omega]
  ·rw[if_neg h,aJ i j hj,h1 i j (by omega) hj]
theorem eF(p:Int)(l:List Vl)(hl:0<l.length/\l.length<1000)(S:WS)(hS:S.st.length<1000)(hht:0<=S.ht/\S.ht<1000000):PC Tryz.prog bG 124 [.p 0 0,.n .i64 p,.fs 3 l.length (sC l)] (aw ob (wH la loc cs pt r S)) (λv H'=>∃S',bU p l S= .ok S'/\v= .tup []/\H'=aw ob (wH la loc cs pt r S')) (Il (bU p l S)):=by
 refine PC.vw (cI PB ⟨by simp,by decide⟩ ?_)
 simp only[aE,wH,dL]
 have hap:((S.st.length+l.length)*3<1099511627776/\(S.st.length+l.length)*24<=140737488355328)/\S.st.length+l.length<=9223372036854775807:=⟨⟨by omega,by omega⟩,by omega⟩
 have hlen:(S.st++l).length=S.st.length+l.length:=List.length_append
 by_cases e:S.st.length+l.length<=32
 ·have e':((S.st.length+l.length:Nat):Int)<=32:=by omega
  repeat first|with_reducible refine GE.g ?_|simp only[hap,e',decide_true,go_sem,simprocAttr]
  refine dl ([.b true,.n .i64 p,.n .i64 14]) (cw p 14) ?_
  repeat first|with_reducible refine GE.g ?_|simp only[go_sem,simprocAttr]
  refine xc (ob:=ob) [2,3,0] [] (.tup []) (wH la loc cs pt r {S with st:=S.st++l,ht:=aQ S.ht ((S.st++l).length:Nat)}) ?_ (.cv (.rfl rfl)) (by simp[wH]) (λr x h=>by simp only[go_sem,simprocAttr];exact h) (aA rfl) ⟨_,if_pos (by omega),rfl,rfl⟩
  simp only[wH,dL,hlen]
  refine .cr (.k2 (λ_ _ _ _=>rfl)) (.cr (.appfn (row1:=sC l) (by simp only[go_sem,simprocAttr]<;>rfl) rfl rfl (by decide) (by omega) (λi j hi hj=>?_) (λi j hi hj=>?_) (λi j _ _=>aG _ i j)) (.cr .wk .nil))
  ·simp only[sC,List.getD_eq_getElem?_getD,List.getElem?_append_left hi]
  ·simp only[sC,List.getD_eq_getElem?_getD,List.getElem?_append_right (Nat.le_add_right _ _),Nat.add_sub_cancel_left]
 ·have e':¬((S.st.length+l.length:Nat):Int)<=32:=by omega
  repeat first|with_reducible refine GE.g ?_|simp only[hap,e',decide_false,go_sem,simprocAttr]
  exact aI [] (fargs:=[.b false,.n .i64 p,.n .i64 14]) (ck.same rfl) (cV p 14) ⟨(p,14),if_neg (by omega),rfl⟩
/-! ### pop-/
theorem mQ:nK 9 .b (.b true) (.b true)=some true:=id rfl
theorem mR:nK 9 .b (.b true) (.b false)=some false:=id rfl
theorem mS:nK 9 .b (.b false) (.b true)=some false:=id rfl
theorem mT:nK 9 .b (.b false) (.b false)=some true:=id rfl
theorem vr{l:List Vl}{ty:List UInt8}{j:Nat}(h1:j<l.length)(h2:j<ty.length):jQ (l.drop j) (ty.drop j)=(Wf (ty.getD j 0) (l.getD j v0)&&jQ (l.drop (j+1)) (ty.drop (j+1))):=by
 rw[cE (d:=v0) h1,cE (d:=0) h2,jQ]
theorem Kj{ty:List UInt8}{j:Nat}(h:j<ty.length):(ByteArray.mk ty.toArray)[j]? =some (ty.getD j 0):=by
 rw[List.getD_eq_getElem?_getD,List.getElem?_eq_getElem h]
 have hs:j<(ByteArray.mk ty.toArray).size:=by simpa [ByteArray.size] using h
 rw[getElem?_pos (ByteArray.mk ty.toArray) j hs]
 rfl
theorem pg(p:Int)(base:Nat)(ty:List UInt8)(hty:ty.length<100)(hbase:base<100000)(S:WS)(hS:S.st.length<1000):PC Tryz.prog bG 88 [.p 0 0,.n .i64 p,.n .i64 base,.s ⟨ty.toArray⟩] (aw ob (wH la loc cs pt r S)) (λv H'=>∃l S',fe p base ty S= .ok (l,S')/\v= .fs 3 l.length (sC l)/\H'=aw ob (wH la loc cs pt r S')) (Il (fe p base ty S)):=by
 refine PC.vw (cI Rf ⟨by simp,by decide⟩ ?_)
 simp only[aE,wH,dL]
 have hts:(ByteArray.mk ty.toArray).size=ty.length:=by simp[ByteArray.size]
 have w:IntKind.i64.wrap ((S.st.length:Int)-ty.length)=(S.st.length:Int)-ty.length:=aj (by omega)
 by_cases h1:S.st.length<base+ty.length
 ·have h1':¬(base:Int)<=(S.st.length:Int)-ty.length:=by omega
  repeat first|with_reducible refine GE.g ?_|simp only[hts,w,h1',ge_iff_le,decide_false,go_sem,simprocAttr]
  exact aI [] (fargs:=[.b false,.n .i64 p,.n .i64 14]) (ck.same rfl) (cV p 14) ⟨(p,14),by unfold fe;rw[if_pos h1],rfl⟩
 obtain⟨q,hq⟩:∃q,q=S.st.length-ty.length:=⟨_,rfl⟩
 have hqi:(S.st.length:Int)-ty.length=q:=by omega
 have h1':(base:Int)<=(q:Int):=by omega
 have wq:IntKind.i64.wrap (q:Int)=q:=aj (by omega)
 obtain⟨tl,htl⟩:∃tl,tl=S.st.drop q:=⟨_,rfl⟩
 have hk:tl.length=ty.length:=by rw[htl,List.length_drop];omega
 have hpop:fe p base ty S=if jQ tl ty=true then .ok (tl,{S with st:=S.st.take q}) else .error (p,13):=by
  unfold fe
  rw[if_neg h1,<-hq,<-htl]
 have hrow:∀i j,sC tl i j=sC S.st (q+i) j:=λi j=>by rw[htl,BB]
 repeat first|with_reducible refine GE.g ?_|simp only[hts,hqi,wq,h1',ge_iff_le,decide_true,go_sem,simprocAttr]
 refine dl ([.b true,.n .i64 p,.n .i64 14]) (cw p 14) ?_
 (try simp only[go_sem,simprocAttr])
 iterate 1 (with_reducible refine GE.go aD rfl ?_;try simp only[go_sem,simprocAttr])
 refine GE.cut (az [(0,.p 0 0),(1,.n .i64 p),(3,.s ⟨ty.toArray⟩),(9,.n .i64 q),(10,.fs 3 tl.length (sC tl))]) (aw ob (wH la loc cs pt r S)) ?_ ?_
 ·have hWk:∀{H:AH} {e:Tr AV},eo (λb2=>[2,1,0].reverse[b2]?) [3] H e [(0,.p 0 0),(1,.n .i64 p),(3,.s ⟨ty.toArray⟩),(9,.n .i64 q),(10,.fs 3 tl.length (sC tl))]->cQ (λb2=>[2,1,0].reverse[b2]?) [3] H [2,1,0] (wH la loc cs pt r S)->(∀r x,ob r=some x->H.ob r=some x)->bX 72 bG e H (az [(0,.p 0 0),(1,.n .i64 p),(3,.s ⟨ty.toArray⟩),(9,.n .i64 q),(10,.fs 3 tl.length (sC tl))]) (aw ob (wH la loc cs pt r S)):=λhe hh hob=>bX.mkO [2,1,0] [3] he hh (by simp[wH]) hob (aA rfl)
  have hcl:bM Tryz.prog 123 [.fs 3 tl.length (sC tl)] [.o 221 3 tl.length 0 (sC tl)]:=tk (by omega) (λi j _ _=>fj tl i j)
  have hsc:∀r ∈ [RT.o 221 3 tl.length 0 (sC tl)],gR (λa=>a.sc 3=true) r:=λr hr=>by
   cases List.mem_singleton.1 hr
   exact λi j _ _=>VM tl i j
  have hq0:(0:Int)<=(q:Int):=by omega
  have hqn:(q:Int)<=(S.st.length:Int):=by omega
  rcases(show q=0\/(0<q/\q<S.st.length)\/(0<q/\q=S.st.length) by omega) with c|c|c
  ·have c0:((q:Int)=0)=True:=eq_true (by omega)
   have c1:S.st.length=tl.length:=by omega
   have c2:(0:Int)<=(S.st.length:Int):=by omega
   repeat first|with_reducible refine GE.g ?_|simp only[c0,c2,Int.le_refl,go_sem,simprocAttr]
   refine i4 [1] (fargs:=[.fs 3 tl.length (sC tl)]) ?_ hcl ?_ hsc ?_
   ·exact⟨by rw[<-c1];exact .os (x:=ai 221 3 S.st.length 0 (sC S.st)) (by simp) (by simp only[go_sem,simprocAttr]<;>rfl) (Nat.le_refl _) (λi j hi hj=>(aJ i j hj).trans (by rw[hrow,c,Nat.zero_add])) (λi j _ _=>fj tl i j),trivial⟩
   ·simp only[go_sem,simprocAttr]
   repeat first|with_reducible refine GE.g ?_|simp only[go_sem,simprocAttr]
   refine hWk ?_ ?_ ?_
   ·simp only[eo,cQ,go_sem,simprocAttr]
    repeat' refine aY ?_ ?_
    all_goals first|exact i8|skip
    exact .cv (.ownb (by simp only[go_sem,simprocAttr]<;>rfl) (λi j _ _=>fj tl i j) (by simp))
   ·exact .cr (.k2 (λ_ _ _ _=>rfl)) (.cr (.k2 (λi j _ _=>aG _ i j)) (.cr .wk .nil))
   ·intro r x h
    simp only[go_sem,simprocAttr]
    exact h
  ·have c0:¬(q:Int)=0:=by omega
   have c1:(0:Int)<(q:Int):=by omega
   have c2:(q:Int)<(S.st.length:Int):=by omega
   have c3:S.st.length-q=tl.length:=by omega
   repeat first|with_reducible refine GE.g ?_|simp only[c0,c1,c2,c3,hqn,Int.le_refl,go_sem,simprocAttr]
   refine i4 [1] (fargs:=[.fs 3 tl.length (sC tl)]) ?_ hcl ?_ hsc ?_
   ·exact⟨.sl (x:=ai 221 3 S.st.length 0 (sC S.st)) (by simp) (by simp only[go_sem,simprocAttr]<;>rfl) (by show q*3+tl.length*3<=S.st.length*3;omega) (Nat.le_refl _) (by show 0<S.st.length*3;omega) (λi j hi hj=>by rw[show q*3+i*3+j=(q+i)*3+j by omega,aJ _ _ hj,hrow]) (λi j _ _=>fj tl i j),trivial⟩
   ·simp only[go_sem,simprocAttr]
   repeat first|with_reducible refine GE.g ?_|simp only[go_sem,simprocAttr]
   refine hWk ?_ ?_ ?_
   ·simp only[eo,cQ,go_sem,simprocAttr]
    repeat' refine aY ?_ ?_
    all_goals first|exact i8|skip
    exact .cv (.ownb (by simp only[go_sem,simprocAttr]<;>rfl) (λi j _ _=>fj tl i j) (by simp))
   ·exact .cr (.k2 (λ_ _ _ _=>rfl)) (.cr (.k2 (λi j _ _=>aG _ i j)) (.cr .wk .nil))
   ·intro r x h
    simp only[go_sem,simprocAttr]
    exact h
  ·have c0:¬(q:Int)=0:=by omega
   have c1:(0:Int)<(q:Int):=by omega
   have c2:¬(q:Int)<(S.st.length:Int):=by omega
   have c3:((q:Int)=(S.st.length:Int))=True:=eq_true (by omega)
   have c4:tl.length=0:=by omega
   have hz:∀H,ck [1] H [.fs 3 0 (λ_ _=> .u)] [.fs 3 tl.length (sC tl)]:=λH=>by rw[c4];exact⟨.fs (λi j hi=>absurd hi (Nat.not_lt_zero _)),trivial⟩
   repeat first|with_reducible refine GE.g ?_|simp only[c0,c1,c2,c3,hqn,Int.le_refl,go_sem,simprocAttr]
   refine i4 [1] (fargs:=[.fs 3 tl.length (sC tl)]) ?_ hcl ?_ hsc ?_
   ·exact⟨(hz _).1,trivial⟩
   ·simp only[go_sem,simprocAttr]
   repeat first|with_reducible refine GE.g ?_|simp only[go_sem,simprocAttr]
   refine hWk ?_ ?_ ?_
   ·simp only[eo,cQ,go_sem,simprocAttr]
    repeat' refine aY ?_ ?_
    all_goals first|exact i8|skip
    exact .cv (.ownb (by simp only[go_sem,simprocAttr]<;>rfl) (λi j _ _=>fj tl i j) (by simp))
   ·exact .cr (.k2 (λ_ _ _ _=>rfl)) (.cr (.k2 (λi j _ _=>aG _ i j)) (.cr .wk .nil))
   ·intro r x h
    simp only[go_sem,simprocAttr]
    exact h
 simp only[wH,dL]
 repeat first|with_reducible refine GE.g ?_|simp only[go_sem,simprocAttr]
 refine GE.loop (I:=λm e H=>∃j:Nat,m=tl.length-j/\j<=tl.length/\jQ tl ty=jQ (tl.drop j) (ty.drop j)/\e=az [(0,.p 0 0),(1,.n .i64 p),(3,.s ⟨ty.toArray⟩),(9,.n .i64 q),(10,.fs 3 tl.length (sC tl)),(33,.fs 3 tl.length (sC tl)),(34,.n .i64 tl.length),(35,.n .i64 j)]/\H=aw ob (wH la loc cs pt r S)) (bX.mkO [2,1,0] [] ?_ ?_ (by simp[wH]) ?_ (aA rfl)) ⟨0,rfl,Nat.zero_le _,rfl,rfl,rfl⟩ ?_
 ·exact a8
 ·exact .cr (.k2 (λ_ _ _ _=>rfl)) (.cr (.k2 (λi j _ _=>aG _ i j)) (.cr .wk .nil))
 ·intro r x h
  simp only[go_sem,simprocAttr]
  exact h
 rintro m e H ⟨j,rfl,hj,hs,rfl,rfl⟩
 simp only[wH,dL]
 have hj0:(0:Int)<=(j:Int):=by omega
 have hq0:(0:Int)<=(q:Int):=by omega
 have hqn:(q:Int)<=(S.st.length:Int):=by omega
 have hbk:∀{H:AH} {e:Tr AV} (j':Nat) (a:AV),a= .n .i64 (j':Nat)->eo (λb2=>[2,1,0].reverse[b2]?) [] H e [(0,.p 0 0),(1,.n .i64 p),(3,.s ⟨ty.toArray⟩),(9,.n .i64 q),(10,.fs 3 tl.length (sC tl)),(33,.fs 3 tl.length (sC tl)),(34,.n .i64 tl.length),(35,a)]->cQ (λb2=>[2,1,0].reverse[b2]?) [] H [2,1,0] (wH la loc cs pt r S)->(∀r x,ob r=some x->H.ob r=some x)->j<tl.length->j'=j+1->jQ tl ty=jQ (tl.drop j') (ty.drop j')->
  ∃m' e2 H2,m'<tl.length-j/\bX 72 bG e H e2 H2/\∃j:Nat,m'=tl.length-j/\j<=tl.length/\jQ tl ty=jQ (tl.drop j) (ty.drop j)/\e2=az [(0,.p 0 0),(1,.n .i64 p),(3,.s ⟨ty.toArray⟩),(9,.n .i64 q),(10,.fs 3 tl.length (sC tl)),(33,.fs 3 tl.length (sC tl)),(34,.n .i64 tl.length),(35,.n .i64 j)]/\H2=aw ob (wH la loc cs pt r S):=λj' a ha he hh hob hjt hj1 hs'=>by
  subst ha;subst hj1
  exact⟨_,_,_,by omega,bX.mkO [2,1,0] [] he hh (by simp[wH]) hob (aA rfl),j+1,rfl,by omega,hs',rfl,rfl⟩
 by_cases hjt:j<tl.length
 rotate_left
 ·have hjt':¬(j:Int)<(tl.length:Int):=by omega
  have hok:jQ tl ty=true:=by
   rw[hs,List.drop_eq_nil_of_le (by omega)]
   rfl
  have hmin:min q S.st.length=q:=by omega
  repeat first|with_reducible refine GE.g ?_|simp only[hjt',hq0,hqn,Int.le_refl,decide_false,go_sem,simprocAttr]
  refine xc (ob:=ob) [2,1,0] [] (.fs 3 tl.length (sC tl)) (wH la loc cs pt r {S with st:=S.st.take q}) ?_ (.cv (.rfl rfl)) (by simp[wH]) (λr x h=>by simp only[go_sem,simprocAttr];exact h) (aA rfl) ⟨tl,_,by rw[hpop,if_pos hok],rfl,rfl⟩
  simp only[wH,dL,List.length_take,hmin]
  exact .cr (.k2 (λ_ _ _ _=>rfl)) (.cr (.pop (row:=sC S.st) (n:=S.st.length) (by simp only[go_sem,simprocAttr]) rfl (by decide) (by omega) (λi j hi hj=>(BA S.st q i j hi).symm) (λi j _ _=>aG _ i j)) (.cr .wk .nil))
 have hjt':(j:Int)<(tl.length:Int):=by omega
 have wj:IntKind.i64.wrap ((j:Int)+1)=((j+1:Nat):Int):=(aj (by omega)).trans (by omega)
 have hby:=Kj (ty:=ty) (j:=j) (by omega)
 rw[vr hjt (by omega)] at hs
 have hE0:Wf (ty.getD j 0) (tl.getD j v0)=false->Il (fe p base ty S) (et p 13) (ah []):=λh=>⟨(p,13),by rw[hpop,if_neg (by rw[hs,h];simp)],rfl⟩
 generalize hc:ty.getD j 0=c at*
 generalize hv:tl.getD j v0=v at*
 have e0:sC tl j 0= .b v.1:=by rw[Ku,hv]
 have e1:sC tl j 1= .n .i64 v.2.1:=by rw[IJ,hv]
 have e2:sC tl j 2= .n .i64 v.2.2:=by rw[Df,hv]
 obtain⟨tr,iv0⟩:=v
 by_cases c1:c=110
 ·subst c1
  cases tr
  ·repeat first|with_reducible refine GE.g ?_|simp only[hj0,hjt',hby,e0,e1,e2,Int.toNat_natCast,mQ,mR,mS,mT,decide_true,decide_false,go_sem,simprocAttr]
   refine dl ([.b true,.n .i64 p,.n .i64 13]) (cw p 13) ?_
   repeat first|with_reducible refine GE.g ?_|simp only[wj,go_sem,simprocAttr]
   refine hbk (j+1) _ rfl ?_ ?_ ?_ hjt rfl (by rw[hs];rfl)
   ·exact a8
   ·exact .cr (.k2 (λ_ _ _ _=>rfl)) (.cr (.k2 (λi j _ _=>aG _ i j)) (.cr .wk .nil))
   ·intro r x h
    simp only[go_sem,simprocAttr]
    exact h
  ·repeat first|with_reducible refine GE.g ?_|simp only[hj0,hjt',hby,e0,e1,e2,Int.toNat_natCast,mQ,mR,mS,mT,decide_true,decide_false,go_sem,simprocAttr]
   exact aI [] (fargs:=[.b false,.n .i64 p,.n .i64 13]) (ck.same rfl) (cV p 13) (hE0 rfl)
 by_cases c2:c=116
 ·subst c2
  cases tr
  ·repeat first|with_reducible refine GE.g ?_|simp only[hj0,hjt',hby,e0,e1,e2,Int.toNat_natCast,mQ,mR,mS,mT,decide_true,decide_false,go_sem,simprocAttr]
   exact aI [] (fargs:=[.b false,.n .i64 p,.n .i64 13]) (ck.same rfl) (cV p 13) (hE0 rfl)
  ·repeat first|with_reducible refine GE.g ?_|simp only[hj0,hjt',hby,e0,e1,e2,Int.toNat_natCast,mQ,mR,mS,mT,decide_true,decide_false,go_sem,simprocAttr]
   refine dl ([.b true,.n .i64 p,.n .i64 13]) (cw p 13) ?_
   repeat first|with_reducible refine GE.g ?_|simp only[wj,go_sem,simprocAttr]
   refine hbk (j+1) _ rfl ?_ ?_ ?_ hjt rfl (by rw[hs];rfl)
   ·exact a8
   ·exact .cr (.k2 (λ_ _ _ _=>rfl)) (.cr (.k2 (λi j _ _=>aG _ i j)) (.cr .wk .nil))
   ·intro r x h
    simp only[go_sem,simprocAttr]
    exact h
 have n1:¬(c.toNat:Int)=110:=λh=>c1 (UInt8.toNat_inj.1 (show c.toNat=110 by omega))
 have n2:¬(c.toNat:Int)=116:=λh=>c2 (UInt8.toNat_inj.1 (show c.toNat=116 by omega))
 have hok:Wf c (tr,iv0)=true:=by
  unfold Wf
  rw[if_neg c1,if_neg c2]
 repeat first|with_reducible refine GE.g ?_|simp only[hj0,hjt',hby,e0,e1,e2,Int.toNat_natCast,mQ,mR,mS,mT,decide_true,decide_false,n1,n2,go_sem,simprocAttr]
 refine dl ([.b true,.n .i64 p,.n .i64 13]) (cw p 13) ?_
 repeat first|with_reducible refine GE.g ?_|simp only[wj,go_sem,simprocAttr]
 refine hbk (j+1) _ rfl ?_ ?_ ?_ hjt rfl (by rw[hs,hok];rfl)
 ·exact a8
 ·exact .cr (.k2 (λ_ _ _ _=>rfl)) (.cr (.k2 (λi j _ _=>aG _ i j)) (.cr .wk .nil))
 ·intro r x h
  simp only[go_sem,simprocAttr]
  exact h
end
end Go.Proofs.YtdpkgnmmikebdaaGreat
namespace Go.Proofs.YtdpkgnmmikebdaaGreat
open Go.RowKit
section
variable (la:List (Bool×Int)) (loc:Int) (cs:List (Int×Int)) (pt:List Int) (r:Nat) (ob:Nat->Option OB)
theorem bf{n:Nat}{g:FuncId}{args args2:List AV}{e:Tr AV}{H:AH}{L:List (Nat×AV)}{bl2:List AB}{Q':AV->AH->Prop}{E':List PanicEntry->AH->Prop}{Q:AV->Tr AV->AH->Prop}{E:List PanicEntry->AH->Prop}(S:WS)(ρ M:List Nat)
  (h:PC Tryz.prog bG g args2 (aw ob (wH la loc cs pt r S)) Q' E')
  (he:eo (λb2=>ρ.reverse[b2]?) M H e L) (hh:cQ (λb2=>ρ.reverse[b2]?) M H ρ (bl2++wH la loc cs pt r S)) (hv:C0 (λb2=>ρ.reverse[b2]?) M H args args2) (hob:∀r x,ob r=some x->H.ob r=some x)
  (hl:bl2.length<1000) (hρ:ρ.reverse[0]? =some 0) (ha:args2.all (AV.nm (λb=>decide (b<3)) 3)=true) (hL:(L.all λp=>decide (p.1<1000000)&&p.2.nm (λb=>bG b||decide (3<=b)) 3)=true) (h2:BN (λb=>bG b||decide (3<=b)) bl2)
  (hQ:∀v H',Q' v H'->∃(S':WS) (ob':Nat->Option OB),H'=aw ob' (wH la loc cs pt r S')/\Q v (az L) (aw ob' (bl2++wH la loc cs pt r S')))
  (hE:∀c H',E' c H'->E c (ah [])):dn Tryz.prog n bG g args e H Q E:=by
 have hlen:(bl2++wH la loc cs pt r S).length<1000000:=by rw[List.length_append];simp only[wH,List.length_cons,List.length_nil];omega
 refine th ρ M he hh hv hob hlen (aA hρ) ?_
 have hfr:dn Tryz.prog n (λb=>bG b||decide (3<=b)) g args2 (az L) (aw ob (bl2++wH la loc cs pt r S)) Q E:=
  mY (bl1:=wH la loc cs pt r S) (e2:=az L) h hlen (λx hx=>by simp only[wH,List.mem_cons,List.not_mem_nil,or_false] at hx;rcases hx with rfl|rfl|rfl<;>rfl) (λb hb=>by have:=of_decide_eq_true hb;show b<3;omega)
   (λb x hb hx=>iw (bl:=wH la loc cs pt r S) (by simp[wH]) (by rfl) b x hb (by rw[rN] at hx;exact hx)) ha
   (λb x _ hx=>(BN.cons (.row (by decide) (λi j _ _=>rfl)) (.cons (.row (by decide) (λi j _ _=>VN _ _ i j)) (.cons (.lst (by simp[dL]) (by rfl)) .nil)):BN (λb=>decide (b<3)) (wH la loc cs pt r S)) x (j8 _ b x (by simp[wH]) hx))
   (λb x hb hx=>h2 x (iZ bl2 _ b x hlen hb hx)) ⟨λt v hv=>hv,uM.nm hL⟩
   (λv H' q=>by
    obtain⟨S',ob',rfl,q2⟩:=hQ v H' q
    exact⟨ob',_,rfl,rfl,q2⟩) hE
 refine⟨hfr.1,λB σ a w args' hEn hH ha'=>(hfr.2 B σ a w args' hEn hH ha').mono λen w' hp=>?_⟩
 cases en with
 |returned u=>
  obtain⟨v,e',H',σ',r0,r1,r2,r3,r4⟩:=hp
  exact⟨v,e',H',σ',r0,r1,r2,r3,r4.sub (λb hb=>by rw[hb];rfl)⟩
 |panicked c=>exact hp
 |outgrown=>exact hp.elim
theorem td(p:Nat)(hp:p<cs.length)(v:Vl)(S:WS)(ha:0<=(cs.getD p (0,0)).2)(hal:(cs.getD p (0,0)).2<la.length):PC Tryz.prog bG 126 [.p 0 0,.n .i64 p,vl v] (aw ob (wH la loc cs pt r S)) (λu H'=>∃x,dJ la (cs.getD p (0,0)).2 p v= .ok x/\u=iv x/\H'=aw ob (wH la loc cs pt r S)) (Il (dJ la (cs.getD p (0,0)).2 p v)):=by
 refine PC.vw (cI Px ⟨by simp,by decide⟩ ?_)
 simp only[aE,wH,dL,vl]
 have p0:(0:Int)<=(p:Int):=by omega
 have p1:(p:Int)<(cs.length:Int):=by omega
 generalize hx:la.getD (cs.getD p (0,0)).2.toNat (false,0)=x
 have e0:pA la (cs.getD p (0,0)).2.toNat 0= .b x.1:=by rw[AN,hx]
 have e1:pA la (cs.getD p (0,0)).2.toNat 1= .n .i64 x.2:=by rw[AM,hx]
 have hF:dJ la (cs.getD p (0,0)).2 p v=if v.2.2<x.2 then .ok (if x.1=true then(0,4294967295) else(0,255)) else .error ((p:Int),16):=by unfold dJ;rw[hx]
 obtain⟨xb,xn⟩:=x
 dsimp only at hF e0 e1
 by_cases h:v.2.2<xn
 ·repeat first|with_reducible refine GE.g ?_|simp only[p0,p1,ha,hal,pj,e0,e1,h,Int.toNat_natCast,decide_true,go_sem,simprocAttr]
  refine dl ([.b true,.n .i64 p,.n .i64 16]) (cw p 16) ?_
  cases xb
  ·repeat first|with_reducible refine GE.g ?_|simp only[go_sem,simprocAttr]
   refine xc (ob:=ob) [2,1,0] [] (iv (0,255)) (wH la loc cs pt r S) ?_ (.cv (.rfl rfl)) (by simp[wH]) (λr x h=>by simp only[go_sem,simprocAttr];exact h) (aA rfl) ⟨_,by rw[hF,if_pos h];rfl,rfl,rfl⟩
   exact .cr (.k2 (λ_ _ _ _=>rfl)) (.cr (.k2 (λi j _ _=>aG _ i j)) (.cr .wk .nil))
  ·repeat first|with_reducible refine GE.g ?_|simp only[go_sem,simprocAttr]
   refine dl ([]) cm ?_
   simp only[iv]
   repeat first|with_reducible refine GE.g ?_|simp only[go_sem,simprocAttr]
   refine xc (ob:=ob) [2,1,0] [] (iv (0,4294967295)) (wH la loc cs pt r S) ?_ (.cv (.rfl rfl)) (by simp[wH]) (λr x h=>by simp only[go_sem,simprocAttr];exact h) (aA rfl) ⟨_,by rw[hF,if_pos h];rfl,rfl,rfl⟩
   exact .cr (.k2 (λ_ _ _ _=>rfl)) (.cr (.k2 (λi j _ _=>aG _ i j)) (.cr .wk .nil))
 ·repeat first|with_reducible refine GE.g ?_|simp only[p0,p1,ha,hal,pj,e0,e1,h,Int.toNat_natCast,decide_false,go_sem,simprocAttr]
  exact aI [] (fargs:=[.b false,.n .i64 p,.n .i64 16]) (ck.same rfl) (cV p 16) ⟨(p,16),by rw[hF,if_neg h],rfl⟩
end
end Go.Proofs.YtdpkgnmmikebdaaGreat
namespace Go.Proofs.YtdpkgnmmikebdaaGreat
open Go.RowKit
theorem Cv.bs1{M:List Nat}{H:AH}{b:Nat}{x:AB}{v:Vl}(hm:b ∈ M)(hx:H.at b=some x)(hs:x.size=3)(h0:x.get 0= .b v.1)(h1:x.get 1= .n .i64 v.2.1)(h2:x.get 2= .n .i64 v.2.2):Cv M H (.sl b 0 1 1) (.fs 3 1 (sC [v])):=
 .sl hm hx (by omega) (Nat.le_refl _) (by omega) (λi j hi hj=>by
  obtain rfl:i=0:=by omega
  rcases(show j=0\/j=1\/j=2 by omega) with rfl|rfl|rfl
  ·exact h0
  ·exact h1
  ·exact h2) (λi j _ _=>fj _ i j)
theorem Cv.bs2{M:List Nat}{H:AH}{b:Nat}{x:AB}{v w:Vl}(hm:b ∈ M)(hx:H.at b=some x)(hs:x.size=6)(h0:x.get 0= .b v.1)(h1:x.get 1= .n .i64 v.2.1)(h2:x.get 2= .n .i64 v.2.2)(h3:x.get 3= .b w.1)(h4:x.get 4= .n .i64 w.2.1)(h5:x.get 5= .n .i64 w.2.2):Cv M H (.sl b 0 2 2) (.fs 3 2 (sC [v,w])):=
 .sl hm hx (by omega) (Nat.le_refl _) (by omega) (λi j hi hj=>by
  rcases(show i=0\/i=1 by omega) with rfl|rfl<;>rcases(show j=0\/j=1\/j=2 by omega) with rfl|rfl|rfl
  ·exact h0
  ·exact h1
  ·exact h2
  ·exact h3
  ·exact h4
  ·exact h5) (λi j _ _=>fj _ i j)
section
variable (la:List (Bool×Int)) (loc:Int) (cs:List (Int×Int)) (pt:List Int) (r:Nat) (ob:Nat->Option OB)
def VT(op:Int):Prop:=(0<=op/\op<=26)\/(32<=op/\op<=35)
theorem ZY:¬(ByteArray.mk #[110]).toList=(ByteArray.mk #[116]).toList:=of_decide_eq_false (by kernel_rfl)
theorem Iq{l:List Iv}{q i j ty:Nat}{x:Iv}(hq:q<l.length)(hn:l.length*2<1000000)(hi:i<l.length)(hj:j<2):((ai ty 2 l.length 0 (vC l)).putN (q*2) [.n .i64 x.1,.n .i64 x.2]).get (i*2+j)=vC (l.set q x) i j:=by
 rw[t0 (by rfl) hq hn i j hi hj]
 by_cases e:i=q
 ·subst e
  rw[if_pos rfl]
  rcases yA hj with rfl|rfl
  ·rw[Bp,List.getD_eq_getElem?_getD,List.getElem?_set,if_pos rfl,if_pos hq];rfl
  ·rw[Bo,List.getD_eq_getElem?_getD,List.getElem?_set,if_pos rfl,if_pos hq];rfl
 ·have e':¬q=i:=λh=>e h.symm
  rw[if_neg e]
  simp only[vC,List.getD_eq_getElem?_getD,List.getElem?_set,if_neg e']
theorem zW(k:Nat)(h:k<36):(fg k).1.length<=2:=(by decide:∀k:Fin 36,(fg (k.val:Int)).1.length<=2) ⟨k,h⟩
theorem xV(hcs:cs.length<=1024)(p:Nat)(hp:p<cs.length)(base:Nat)(hbase:base<100000)(S:WS)(hS:Sm p S)(hst:∀v ∈ S.st,cN v.2)(hop:VT (am cs p))(ha:0<=(cs.getD p (0,0)).2/\(cs.getD p (0,0)).2<=4294967295)
  (hal:am cs p=3\/am cs p=4->(cs.getD p (0,0)).2<la.length) (hloc:am cs p=1\/am cs p=2->(cs.getD p (0,0)).2<S.loc.length) (hll:S.loc.length<1000):
  PC Tryz.prog bG 89 [.p 0 0,.n .i64 p,.n .i64 base] (aw ob (wH la loc cs pt r S)) (λv H'=>∃S' b,dR la (am cs p) (cs.getD p (0,0)).2 p base S= .ok (S',b)/\v=gQ b/\H'=aw ob (wH la loc cs pt r S')) (Il (dR la (am cs p) (cs.getD p (0,0)).2 p base S)):=by
 refine PC.vw (cI PW ⟨by simp,by decide⟩ ?_)
 simp only[aE,wH,dL]
 have p0:(0:Int)<=(p:Int):=by omega
 have p1:(p:Int)<(cs.length:Int):=by omega
 have hel:=td la loc cs pt r ob p hp
 have e0:pI cs p 0= .n .i64 (am cs p):=rfl
 have e1:pI cs p 1= .n .u32 (cs.getD p (0,0)).2:=rfl
 obtain⟨k,hk36,hk⟩:∃k:Nat,k<36/\am cs p=k:=⟨(am cs p).toNat,by unfold VT at hop;omega,by unfold VT at hop;omega⟩
 rw[hk] at e0
 have hE1:=tf k hk36
 rw[<-hk] at hE1
 simp only[CE] at hE1
 generalize hopv:am cs p=op at*
 generalize harg:(cs.getD p (0,0)).2=arg at*
 repeat first|with_reducible refine GE.g ?_|simp only[p0,p1,e0,e1,Int.toNat_natCast,go_sem,simprocAttr]
 refine kN [] (fargs:=[.n .i64 op]) (by rw[hk];exact ck.same rfl) hE1 ?_ ?_
 ·simp only[go_sem,simprocAttr]
 repeat first|with_reducible refine GE.g ?_|simp only[go_sem,simprocAttr]
 have hst2:S.st.length<1000:=by have:=hS.st;omega
 have hpop:=pg la loc cs pt r ob p base (fg op).1 (by rw[hk];have:=zW k hk36;omega) hbase S hst2
 refine bf la loc cs pt r ob (args2:=[.p 0 0,.n .i64 p,.n .i64 base,.s ⟨(fg op).1.toArray⟩]) (L:=[(0,.p 0 0),(1,.n .i64 p),(6,.p 3 0),(7,.p 4 0),(9,.s ⟨(fg op).2.toArray⟩)]) (bl2:=[ae 0 54 [.n .i64 op,.n .u32 arg],ae 0 130 [.n .i64 0,.n .i64 0]]) S [4,3,2,1,0] [] hpop ?_ ?_ ?_ ?_ (by simp) rfl (by rfl) (by rfl) (.cons .lq (.cons .lq .nil)) ?_ ?_
 ·exact a8
 ·exact .cr (.lstj (x:=_) (by simp only[go_sem,simprocAttr]<;>rfl) (by rfl) (by rfl) (by rfl) (by rfl) (by rfl) (by rfl) (by simp) (λi hi=>by rcases Z8 hi with rfl|rfl<;>(simp only[go_sem,simprocAttr,hk];exact Wv.same rfl))) (.cr (.j2) (.cr (.k2 (λ_ _ _ _=>rfl)) (.cr (.k2 (λi j _ _=>aG _ i j)) (.cr .wk .nil))))
 ·exact⟨Wv.p rfl,Wv.n rfl,Wv.n rfl,Wv.same rfl,trivial⟩
 ·intro r x h
  simp only[go_sem,simprocAttr]
  exact h
 rotate_left
 ·rintro c H' ⟨x,hx,rfl⟩
  exact⟨x,by unfold dR;rw[hx],rfl⟩
 rintro v H' ⟨l,S1,hpf,rfl,rfl⟩
 refine⟨S1,ob,rfl,?_⟩
 simp only[wH,dL,List.cons_append,List.nil_append]
 (try simp only[go_sem,simprocAttr])
 iterate 3 (with_reducible refine GE.go aD rfl ?_;try simp only[go_sem,simprocAttr])
 obtain⟨g1,g2,g3⟩:=my hpf
 have h1st:S1.st.length<=32:=by rw[g3];simp only[List.length_take];have:=hS.st;omega
 have h1ht:0<=S1.ht/\S1.ht<=32:=by rw[g3];exact hS.ht
 have h1loc:S1.loc=S.loc:=by rw[g3]
 have hln:l.length=(fg op).1.length:=by rw[g2,List.length_drop];omega
 have hlok:∀v ∈ l,cN v.2:=λv hv=>hst v (List.mem_of_mem_drop (g2 ▸ hv))
 clear g2 g3 hE1 hpop
 have hErr:∀x,b6 la op arg p l S1= .error x->Il (dR la op arg p base S) (et x.1 x.2) (ah []):=λx hx=>⟨x,by unfold dR;rw[hpf];exact hx,rfl⟩
 have hn:∀op':Int,(op'≠op)->¬op=op':=λ_ h e=>h e.symm
 have fin:∀{e:Tr AV} {H:AH} (ρ M:List Nat) (S2:WS) (b:Bd) (hact:b6 la op arg p l S1= .ok (S2,b)) (he:eo (λb2=>ρ.reverse[b2]?) M H e [(6,.p 3 0),(12,.p 4 0)]) (hh:cQ (λb2=>ρ.reverse[b2]?) M H ρ ([ae 0 130 [.n .i64 b.1,.n .i64 b.2],ae 0 130 [.n .i64 0,.n .i64 0]]++wH la loc cs pt r S2)) (hob:∀r x,ob r=some x->H.ob r=some x) (hρ:ρ.reverse[0]? =some 0),
   ∃e2 H2,bX 184 bG e H e2 H2/\∃S' b,b6 la op arg p l S1= .ok (S',b)/\e2=az [(6,.p 3 0),(12,.p 4 0)]/\H2=aw ob ([ae 0 130 [.n .i64 b.1,.n .i64 b.2],ae 0 130 [.n .i64 0,.n .i64 0]]++wH la loc cs pt r S'):=λρ M S2 b hact he hh hob hρ=>
  ⟨_,_,bX.mkO ρ M he hh (by simp[wH]) hob (aA hρ),S2,b,hact,rfl,rfl⟩
 refine GE.cutP (λe2 H2=>∃S' b,b6 la op arg p l S1= .ok (S',b)/\e2=az [(6,.p 3 0),(12,.p 4 0)]/\H2=aw ob ([ae 0 130 [.n .i64 b.1,.n .i64 b.2],ae 0 130 [.n .i64 0,.n .i64 0]]++wH la loc cs pt r S')) ?_ ?_
 rotate_left
 ·rintro e2 H2 ⟨S2,b,hact,rfl,rfl⟩
  simp only[wH,dL,List.cons_append,List.nil_append]
  repeat first|with_reducible refine GE.g ?_|simp only[go_sem,simprocAttr]
  exact xc (ob:=ob) [2,1,0] [] (gQ b) (wH la loc cs pt r S2) (.cr (.k2 (λ_ _ _ _=>rfl)) (.cr (.k2 (λi j _ _=>aG _ i j)) (.cr .wk .nil))) (.cv (.rfl rfl)) (by simp[wH]) (λr x h=>by simp only[go_sem,simprocAttr];exact h) (aA rfl) ⟨S2,b,by unfold dR;rw[hpf];exact hact,rfl,rfl⟩
 rcases(show op=0\/op=1\/op=32\/op=26\/op=5\/op=7\/op=6\/op=35\/op=34\/(op=2\/op=3\/op=4)\/(21<=op/\op<=25\/op=33)\/(8<=op/\op<=20) by unfold VT at hop;omega) with h|h|h|h|h|h|h|h|h|h|h|h
 ·subst h
  have hA:b6 la 0 arg p l S1=cq (1,0) (bU p [(false,arg,arg)] S1):=rfl
  repeat first|with_reducible refine GE.g ?_|simp only[decide_true,decide_false,go_sem,simprocAttr]
  refine dl ([.n .u32 arg]) (ft arg ha) ?_
  simp only[iv]
  repeat first|with_reducible refine GE.g ?_|simp only[go_sem,simprocAttr]
  refine dl ([iv (arg,arg)]) (fH (arg,arg)) ?_
  simp only[vl]
  repeat first|with_reducible refine GE.g ?_|simp only[go_sem,simprocAttr]
  have hq:=eF la loc cs pt r ob p [(false,arg,arg)] ⟨by simp,by simp⟩ S1 (by omega) (by omega)
  refine bf la loc cs pt r ob (args2:=[.p 0 0,.n .i64 p,.fs 3 1 (sC [(false,arg,arg)])]) (L:=[(6,.p 3 0),(12,.p 4 0)]) (bl2:=[ae 0 130 [.n .i64 1,.n .i64 0],ae 0 130 [.n .i64 0,.n .i64 0]]) S1 [5,3,2,1,0] [6] hq ?_ ?_ ?_ ?_ (by simp) rfl (by rfl) (by rfl) (.cons .lq (.cons .lq .nil)) ?_ ?_
  ·exact a8
  ·exact .cr (.j2) (.cr (.j2) (.cr (.k2 (λ_ _ _ _=>rfl)) (.cr (.k2 (λi j _ _=>aG _ i j)) (.cr .wk .nil))))
  ·exact⟨Wv.p rfl,Wv.n rfl,.cv (.bs1 (x:=_) (by simp) (by simp only[go_sem,simprocAttr]<;>rfl) (by rfl) (by simp only[go_sem,simprocAttr]) (by simp only[go_sem,simprocAttr]) (by simp only[go_sem,simprocAttr])),trivial⟩
  ·intro r x h
   simp only[go_sem,simprocAttr]
   exact h
  ·rintro v H' ⟨S2,hS2,rfl,rfl⟩
   have hact:b6 la 0 arg p l S1= .ok (S2,(1,0)):=by rw[hA,hS2];rfl
   refine⟨S2,ob,rfl,?_⟩
   simp only[wH,dL,List.cons_append,List.nil_append]
   repeat first|with_reducible refine GE.g ?_|simp only[go_sem,simprocAttr]
   refine fin [4,3,2,1,0] [] _ _ hact ?_ ?_ ?_ rfl
   ·exact a8
   ·exact .cr (.j2) (.cr (.j2) (.cr (.k2 (λ_ _ _ _=>rfl)) (.cr (.k2 (λi j _ _=>aG _ i j)) (.cr .wk .nil))))
   ·intro r x h
    simp only[go_sem,simprocAttr]
    exact h
  ·rintro c H' ⟨x,hx,rfl⟩
   exact hErr x (by rw[hA,hx];rfl)
 ·subst h
  have hA:b6 la 1 arg p l S1=cq (1,0) (bU p [(false,S1.loc.getD arg.toNat (0,0))] S1):=rfl
  have hll2:arg<(S1.loc.length:Int):=by rw[h1loc];exact hloc (.inl rfl)
  repeat first|with_reducible refine GE.g ?_|simp only[decide_true,decide_false,ha.1,hll2,Bp,Bo,go_sem,simprocAttr]
  refine dl ([iv (S1.loc.getD arg.toNat (0,0))]) (fH (S1.loc.getD arg.toNat (0,0))) ?_
  simp only[vl]
  repeat first|with_reducible refine GE.g ?_|simp only[go_sem,simprocAttr]
  have hq:=eF la loc cs pt r ob p [(false,S1.loc.getD arg.toNat (0,0))] ⟨by simp,by simp⟩ S1 (by omega) (by omega)
  refine bf la loc cs pt r ob (args2:=[.p 0 0,.n .i64 p,.fs 3 1 (sC [(false,S1.loc.getD arg.toNat (0,0))])]) (L:=[(6,.p 3 0),(12,.p 4 0)]) (bl2:=[ae 0 130 [.n .i64 1,.n .i64 0],ae 0 130 [.n .i64 0,.n .i64 0]]) S1 [5,3,2,1,0] [6] hq ?_ ?_ ?_ ?_ (by simp) rfl (by rfl) (by rfl) (.cons .lq (.cons .lq .nil)) ?_ ?_
  ·exact a8
  ·exact .cr (.j2) (.cr (.j2) (.cr (.k2 (λ_ _ _ _=>rfl)) (.cr (.k2 (λi j _ _=>aG _ i j)) (.cr .wk .nil))))
  ·exact⟨Wv.p rfl,Wv.n rfl,.cv (.bs1 (x:=_) (by simp) (by simp only[go_sem,simprocAttr]<;>rfl) (by rfl) (by simp only[go_sem,simprocAttr]) (by simp only[go_sem,simprocAttr]) (by simp only[go_sem,simprocAttr])),trivial⟩
  ·intro r x h
   simp only[go_sem,simprocAttr]
   exact h
  ·rintro v H' ⟨S2,hS2,rfl,rfl⟩
   have hact:b6 la 1 arg p l S1= .ok (S2,(1,0)):=by rw[hA,hS2];rfl
   refine⟨S2,ob,rfl,?_⟩
   simp only[wH,dL,List.cons_append,List.nil_append]
   repeat first|with_reducible refine GE.g ?_|simp only[go_sem,simprocAttr]
   refine fin [4,3,2,1,0] [] _ _ hact ?_ ?_ ?_ rfl
   ·exact a8
   ·exact .cr (.j2) (.cr (.j2) (.cr (.k2 (λ_ _ _ _=>rfl)) (.cr (.k2 (λi j _ _=>aG _ i j)) (.cr .wk .nil))))
   ·intro r x h
    simp only[go_sem,simprocAttr]
    exact h
  ·rintro c H' ⟨x,hx,rfl⟩
   exact hErr x (by rw[hA,hx];rfl)
 ·subst h
  have hA:b6 la 32 arg p l S1=cq (1,0) (bU p [(false,0,4294967295)] S1):=rfl
  repeat first|with_reducible refine GE.g ?_|simp only[decide_true,decide_false,go_sem,simprocAttr]
  refine dl ([]) (cm) ?_
  simp only[iv]
  repeat first|with_reducible refine GE.g ?_|simp only[go_sem,simprocAttr]
  refine dl ([iv (0,4294967295)]) (fH (0,4294967295)) ?_
  simp only[vl]
  repeat first|with_reducible refine GE.g ?_|simp only[go_sem,simprocAttr]
  have hq:=eF la loc cs pt r ob p [(false,0,4294967295)] ⟨by simp,by simp⟩ S1 (by omega) (by omega)
  refine bf la loc cs pt r ob (args2:=[.p 0 0,.n .i64 p,.fs 3 1 (sC [(false,0,4294967295)])]) (L:=[(6,.p 3 0),(12,.p 4 0)]) (bl2:=[ae 0 130 [.n .i64 1,.n .i64 0],ae 0 130 [.n .i64 0,.n .i64 0]]) S1 [5,3,2,1,0] [6] hq ?_ ?_ ?_ ?_ (by simp) rfl (by rfl) (by rfl) (.cons .lq (.cons .lq .nil)) ?_ ?_
  ·exact a8
  ·exact .cr (.j2) (.cr (.j2) (.cr (.k2 (λ_ _ _ _=>rfl)) (.cr (.k2 (λi j _ _=>aG _ i j)) (.cr .wk .nil))))
  ·exact⟨Wv.p rfl,Wv.n rfl,.cv (.bs1 (x:=_) (by simp) (by simp only[go_sem,simprocAttr]<;>rfl) (by rfl) (by simp only[go_sem,simprocAttr]) (by simp only[go_sem,simprocAttr]) (by simp only[go_sem,simprocAttr])),trivial⟩
  ·intro r x h
   simp only[go_sem,simprocAttr]
   exact h
  ·rintro v H' ⟨S2,hS2,rfl,rfl⟩
   have hact:b6 la 32 arg p l S1= .ok (S2,(1,0)):=by rw[hA,hS2];rfl
   refine⟨S2,ob,rfl,?_⟩
   simp only[wH,dL,List.cons_append,List.nil_append]
   repeat first|with_reducible refine GE.g ?_|simp only[go_sem,simprocAttr]
   refine fin [4,3,2,1,0] [] _ _ hact ?_ ?_ ?_ rfl
   ·exact a8
   ·exact .cr (.j2) (.cr (.j2) (.cr (.k2 (λ_ _ _ _=>rfl)) (.cr (.k2 (λi j _ _=>aG _ i j)) (.cr .wk .nil))))
   ·intro r x h
    simp only[go_sem,simprocAttr]
    exact h
  ·rintro c H' ⟨x,hx,rfl⟩
   exact hErr x (by rw[hA,hx];rfl)
 ·subst h
  have hA:b6 la 26 arg p l S1=cq (1,0) (bU p [(false,0,1)] S1):=rfl
  repeat first|with_reducible refine GE.g ?_|simp only[decide_true,decide_false,go_sem,simprocAttr]
  refine dl ([iv (0,1)]) (fH (0,1)) ?_
  simp only[vl]
  repeat first|with_reducible refine GE.g ?_|simp only[go_sem,simprocAttr]
  have hq:=eF la loc cs pt r ob p [(false,0,1)] ⟨by simp,by simp⟩ S1 (by omega) (by omega)
  refine bf la loc cs pt r ob (args2:=[.p 0 0,.n .i64 p,.fs 3 1 (sC [(false,0,1)])]) (L:=[(6,.p 3 0),(12,.p 4 0)]) (bl2:=[ae 0 130 [.n .i64 1,.n .i64 0],ae 0 130 [.n .i64 0,.n .i64 0]]) S1 [5,3,2,1,0] [6] hq ?_ ?_ ?_ ?_ (by simp) rfl (by rfl) (by rfl) (.cons .lq (.cons .lq .nil)) ?_ ?_
  ·exact a8
  ·exact .cr (.j2) (.cr (.j2) (.cr (.k2 (λ_ _ _ _=>rfl)) (.cr (.k2 (λi j _ _=>aG _ i j)) (.cr .wk .nil))))
  ·exact⟨Wv.p rfl,Wv.n rfl,.cv (.bs1 (x:=_) (by simp) (by simp only[go_sem,simprocAttr]<;>rfl) (by rfl) (by simp only[go_sem,simprocAttr]) (by simp only[go_sem,simprocAttr]) (by simp only[go_sem,simprocAttr])),trivial⟩
  ·intro r x h
   simp only[go_sem,simprocAttr]
   exact h
  ·rintro v H' ⟨S2,hS2,rfl,rfl⟩
   have hact:b6 la 26 arg p l S1= .ok (S2,(1,0)):=by rw[hA,hS2];rfl
   refine⟨S2,ob,rfl,?_⟩
   simp only[wH,dL,List.cons_append,List.nil_append]
   repeat first|with_reducible refine GE.g ?_|simp only[go_sem,simprocAttr]
   refine fin [4,3,2,1,0] [] _ _ hact ?_ ?_ ?_ rfl
   ·exact a8
   ·exact .cr (.j2) (.cr (.j2) (.cr (.k2 (λ_ _ _ _=>rfl)) (.cr (.k2 (λi j _ _=>aG _ i j)) (.cr .wk .nil))))
   ·intro r x h
    simp only[go_sem,simprocAttr]
    exact h
  ·rintro c H' ⟨x,hx,rfl⟩
   exact hErr x (by rw[hA,hx];rfl)
 ·subst h
  have hA:b6 la 5 arg p l S1=cq (1,0) (bU p [l.getD 0 v0,l.getD 0 v0] S1):=rfl
  have hl1:l.length=1:=by rw[hln];rfl
  repeat first|with_reducible refine GE.g ?_|simp only[decide_true,decide_false,hl1,Ku,IJ,Df,go_sem,simprocAttr]
  have hq:=eF la loc cs pt r ob p [l.getD 0 v0,l.getD 0 v0] ⟨by simp,by simp⟩ S1 (by omega) (by omega)
  refine bf la loc cs pt r ob (args2:=[.p 0 0,.n .i64 p,.fs 3 2 (sC [l.getD 0 v0,l.getD 0 v0])]) (L:=[(6,.p 3 0),(12,.p 4 0)]) (bl2:=[ae 0 130 [.n .i64 1,.n .i64 0],ae 0 130 [.n .i64 0,.n .i64 0]]) S1 [5,3,2,1,0] [6] hq ?_ ?_ ?_ ?_ (by simp) rfl (by rfl) (by rfl) (.cons .lq (.cons .lq .nil)) ?_ ?_
  ·exact a8
  ·exact .cr (.j2) (.cr (.j2) (.cr (.k2 (λ_ _ _ _=>rfl)) (.cr (.k2 (λi j _ _=>aG _ i j)) (.cr .wk .nil))))
  ·exact⟨Wv.p rfl,Wv.n rfl,.cv (.bs2 (x:=_) (by simp) (by simp only[go_sem,simprocAttr]<;>rfl) (by rfl) (by simp only[go_sem,simprocAttr]) (by simp only[go_sem,simprocAttr]) (by simp only[go_sem,simprocAttr]) (by simp only[go_sem,simprocAttr]) (by simp only[go_sem,simprocAttr]) (by simp only[go_sem,simprocAttr])),trivial⟩
  ·intro r x h
   simp only[go_sem,simprocAttr]
   exact h
  ·rintro v H' ⟨S2,hS2,rfl,rfl⟩
   have hact:b6 la 5 arg p l S1= .ok (S2,(1,0)):=by rw[hA,hS2];rfl
   refine⟨S2,ob,rfl,?_⟩
   simp only[wH,dL,List.cons_append,List.nil_append]
   repeat first|with_reducible refine GE.g ?_|simp only[go_sem,simprocAttr]
   refine fin [4,3,2,1,0] [] _ _ hact ?_ ?_ ?_ rfl
   ·exact a8
   ·exact .cr (.j2) (.cr (.j2) (.cr (.k2 (λ_ _ _ _=>rfl)) (.cr (.k2 (λi j _ _=>aG _ i j)) (.cr .wk .nil))))
   ·intro r x h
    simp only[go_sem,simprocAttr]
    exact h
  ·rintro c H' ⟨x,hx,rfl⟩
   exact hErr x (by rw[hA,hx];rfl)
 ·subst h
  have hA:b6 la 7 arg p l S1=cq (1,0) (bU p [l.getD 1 v0,l.getD 0 v0] S1):=rfl
  have hl1:l.length=2:=by rw[hln];rfl
  repeat first|with_reducible refine GE.g ?_|simp only[decide_true,decide_false,hl1,Ku,IJ,Df,go_sem,simprocAttr]
  have hq:=eF la loc cs pt r ob p [l.getD 1 v0,l.getD 0 v0] ⟨by simp,by simp⟩ S1 (by omega) (by omega)
  refine bf la loc cs pt r ob (args2:=[.p 0 0,.n .i64 p,.fs 3 2 (sC [l.getD 1 v0,l.getD 0 v0])]) (L:=[(6,.p 3 0),(12,.p 4 0)]) (bl2:=[ae 0 130 [.n .i64 1,.n .i64 0],ae 0 130 [.n .i64 0,.n .i64 0]]) S1 [5,3,2,1,0] [6] hq ?_ ?_ ?_ ?_ (by simp) rfl (by rfl) (by rfl) (.cons .lq (.cons .lq .nil)) ?_ ?_
  ·exact a8
  ·exact .cr (.j2) (.cr (.j2) (.cr (.k2 (λ_ _ _ _=>rfl)) (.cr (.k2 (λi j _ _=>aG _ i j)) (.cr .wk .nil))))
  ·exact⟨Wv.p rfl,Wv.n rfl,.cv (.bs2 (x:=_) (by simp) (by simp only[go_sem,simprocAttr]<;>rfl) (by rfl) (by simp only[go_sem,simprocAttr]) (by simp only[go_sem,simprocAttr]) (by simp only[go_sem,simprocAttr]) (by simp only[go_sem,simprocAttr]) (by simp only[go_sem,simprocAttr]) (by simp only[go_sem,simprocAttr])),trivial⟩
  ·intro r x h
   simp only[go_sem,simprocAttr]
   exact h
  ·rintro v H' ⟨S2,hS2,rfl,rfl⟩
   have hact:b6 la 7 arg p l S1= .ok (S2,(1,0)):=by rw[hA,hS2];rfl
   refine⟨S2,ob,rfl,?_⟩
   simp only[wH,dL,List.cons_append,List.nil_append]
   repeat first|with_reducible refine GE.g ?_|simp only[go_sem,simprocAttr]
   refine fin [4,3,2,1,0] [] _ _ hact ?_ ?_ ?_ rfl
   ·exact a8
   ·exact .cr (.j2) (.cr (.j2) (.cr (.k2 (λ_ _ _ _=>rfl)) (.cr (.k2 (λi j _ _=>aG _ i j)) (.cr .wk .nil))))
   ·intro r x h
    simp only[go_sem,simprocAttr]
    exact h
  ·rintro c H' ⟨x,hx,rfl⟩
   exact hErr x (by rw[hA,hx];rfl)
 ·subst h
  have hA:b6 la 6 arg p l S1= .ok (S1,(1,0)):=rfl
  repeat first|with_reducible refine GE.g ?_|simp only[decide_true,decide_false,go_sem,simprocAttr]
  have hact:b6 la 6 arg p l S1= .ok (S1,(1,0)):=hA
  refine fin [5,3,2,1,0] [] _ _ hact ?_ ?_ ?_ rfl
  ·exact a8
  ·exact .cr (.j2) (.cr (.j2) (.cr (.k2 (λ_ _ _ _=>rfl)) (.cr (.k2 (λi j _ _=>aG _ i j)) (.cr .wk .nil))))
  ·intro r x h
   simp only[go_sem,simprocAttr]
   exact h
 ·subst h
  have hA:b6 la 35 arg p l S1= .ok (S1,(1,0)):=rfl
  repeat first|with_reducible refine GE.g ?_|simp only[decide_true,decide_false,go_sem,simprocAttr]
  have hact:b6 la 35 arg p l S1= .ok (S1,(1,0)):=hA
  refine fin [5,3,2,1,0] [] _ _ hact ?_ ?_ ?_ rfl
  ·exact a8
  ·exact .cr (.j2) (.cr (.j2) (.cr (.k2 (λ_ _ _ _=>rfl)) (.cr (.k2 (λi j _ _=>aG _ i j)) (.cr .wk .nil))))
  ·intro r x h
   simp only[go_sem,simprocAttr]
   exact h
 ·subst h
  have hA:b6 la 34 arg p l S1= .ok (S1,(1,1)):=rfl
  repeat first|with_reducible refine GE.g ?_|simp only[decide_true,decide_false,go_sem,simprocAttr]
  have hact:b6 la 34 arg p l S1= .ok (S1,(1,1)):=hA
  refine fin [5,3,2,1,0] [] _ _ hact ?_ ?_ ?_ rfl
  ·exact a8
  ·exact .cr (.j2) (.cr (.j2) (.cr (.k2 (λ_ _ _ _=>rfl)) (.cr (.k2 (λi j _ _=>aG _ i j)) (.cr .wk .nil))))
  ·intro r x h
   simp only[go_sem,simprocAttr]
   exact h
 ·rcases h with h|h|h
  ·subst h
   have hl1:l.length=1:=by rw[hln];rfl
   have hl2:=hloc (.inr rfl)
   rw[<-h1loc] at hl2
   obtain⟨q,hq⟩:∃q:Nat,arg=q:=⟨arg.toNat,by omega⟩
   subst hq
   have hll3:S1.loc.length<1000:=by rw[h1loc];exact hll
   have hq0:(0:Int)<=(q:Int):=by omega
   have hqn:q<S1.loc.length:=by omega
   have hq2:q*2+2<=S1.loc.length*2:=by omega
   have hact:b6 la 2 q p l S1= .ok ({S1 with loc:=S1.loc.set q (l.getD 0 v0).2},(1,0)):=rfl
   repeat first|with_reducible refine GE.g ?_|simp only[decide_true,decide_false,go_sem,simprocAttr]
   refine dl ([.fs 2 S1.loc.length (vC S1.loc)]) (gz (by omega) (λi j _ _=>du _ i j)) ?_
   repeat first|with_reducible refine GE.g ?_|simp only[decide_true,decide_false,hl1,IJ,Df,hq0,hl2,hq2,Int.toNat_natCast,go_sem,simprocAttr]
   refine fin [5,3,2,1,0] [6] _ _ hact ?_ ?_ ?_ rfl
   ·exact a8
   ·simp only[wH,dL,List.length_set]
    exact .cr (.j2) (.cr (.j2) (.cr (.k2 (λ_ _ _ _=>rfl)) (.cr (.k2 (λi j _ _=>aG _ i j)) (.cr (.wk (hg:=λi hi=>by rcases qT hi with rfl|rfl|rfl|rfl|rfl|rfl|rfl|rfl|rfl|rfl|rfl<;>(simp only[go_sem,simprocAttr];first|exact Wv.same rfl|exact Wv.os rfl|exact .cv (.os (x:=(ai 127 2 S1.loc.length 0 (vC S1.loc)).putN (q*2) [.n .i64 (l.getD 0 v0).2.1,.n .i64 (l.getD 0 v0).2.2]) (by simp) (by simp only[go_sem,simprocAttr]<;>rfl) (Nat.le_refl _) (λi j hi hj=>Iq hqn (by omega) hi hj) (λi j _ _=>du _ i j))))) .nil))))
   ·intro r x h
    simp only[go_sem,simprocAttr]
    exact h
  ·subst h
   have hl1:l.length=1:=by rw[hln];rfl
   have hA:b6 la 3 arg p l S1=(match dJ la arg p (l.getD 0 v0) with| .error e=> .error e| .ok x=>cq (1,0) (bU p [(false,x)] S1)):=rfl
   repeat first|with_reducible refine GE.g ?_|simp only[decide_true,decide_false,hl1,Ku,IJ,Df,go_sem,simprocAttr]
   refine bf la loc cs pt r ob (args2:=[.p 0 0,.n .i64 p,vl (l.getD 0 v0)]) (L:=[(6,.p 3 0),(12,.p 4 0),(118,.p 0 0),(119,.n .i64 p)]) (bl2:=[ae 0 130 [.n .i64 1,.n .i64 0],ae 0 130 [.n .i64 0,.n .i64 0]]) S1 [5,3,2,1,0] [] (hel (l.getD 0 v0) S1 ha.1 (hal (.inl rfl))) ?_ ?_ ?_ ?_ (by simp) rfl (by rfl) (by rfl) (.cons .lq (.cons .lq .nil)) ?_ ?_
   ·exact a8
   ·exact .cr (.j2) (.cr (.j2) (.cr (.k2 (λ_ _ _ _=>rfl)) (.cr (.k2 (λi j _ _=>aG _ i j)) (.cr .wk .nil))))
   ·exact⟨Wv.p rfl,Wv.n rfl,Wv.same rfl,trivial⟩
   ·intro r x h
    simp only[go_sem,simprocAttr]
    exact h
   ·rintro v H' ⟨y,hy,rfl,rfl⟩
    refine⟨S1,ob,rfl,?_⟩
    simp only[wH,dL,List.cons_append,List.nil_append,iv]
    repeat first|with_reducible refine GE.g ?_|simp only[go_sem,simprocAttr]
    refine dl ([iv y]) (fH y) ?_
    simp only[vl]
    repeat first|with_reducible refine GE.g ?_|simp only[go_sem,simprocAttr]
    have hq:=eF la loc cs pt r ob p [(false,y)] ⟨by simp,by simp⟩ S1 (by omega) (by omega)
    refine bf la loc cs pt r ob (args2:=[.p 0 0,.n .i64 p,.fs 3 1 (sC [(false,y)])]) (L:=[(6,.p 3 0),(12,.p 4 0)]) (bl2:=[ae 0 130 [.n .i64 1,.n .i64 0],ae 0 130 [.n .i64 0,.n .i64 0]]) S1 [4,3,2,1,0] [5] hq ?_ ?_ ?_ ?_ (by simp) rfl (by rfl) (by rfl) (.cons .lq (.cons .lq .nil)) ?_ ?_
    ·exact a8
    ·exact .cr (.j2) (.cr (.j2) (.cr (.k2 (λ_ _ _ _=>rfl)) (.cr (.k2 (λi j _ _=>aG _ i j)) (.cr .wk .nil))))
    ·exact⟨Wv.p rfl,Wv.n rfl,.cv (.bs1 (x:=_) (by simp) (by simp only[go_sem,simprocAttr]<;>rfl) (by rfl) (by simp only[go_sem,simprocAttr]) (by simp only[go_sem,simprocAttr]) (by simp only[go_sem,simprocAttr])),trivial⟩
    ·intro r x h
     simp only[go_sem,simprocAttr]
     exact h
    ·rintro v H' ⟨S2,hS2,rfl,rfl⟩
     have hact:b6 la 3 arg p l S1= .ok (S2,(1,0)):=by rw[hA,hy];show cq (1,0) (bU p [(false,y)] S1)=_;rw[hS2];rfl
     refine⟨S2,ob,rfl,?_⟩
     simp only[wH,dL,List.cons_append,List.nil_append]
     repeat first|with_reducible refine GE.g ?_|simp only[go_sem,simprocAttr]
     refine fin [4,3,2,1,0] [] _ _ hact ?_ ?_ ?_ rfl
     ·exact a8
     ·exact .cr (.j2) (.cr (.j2) (.cr (.k2 (λ_ _ _ _=>rfl)) (.cr (.k2 (λi j _ _=>aG _ i j)) (.cr .wk .nil))))
     ·intro r x h
      simp only[go_sem,simprocAttr]
      exact h
    ·rintro c H' ⟨x,hx,rfl⟩
     exact hErr x (by rw[hA,hy];show cq (1,0) (bU p [(false,y)] S1)=_;rw[hx];rfl)
   ·rintro c H' ⟨x,hx,rfl⟩
    exact hErr x (by rw[hA,hx])
  ·subst h
   have hl1:l.length=2:=by rw[hln];rfl
   have hA:b6 la 4 arg p l S1=(match dJ la arg p (l.getD 0 v0) with| .error e=> .error e| .ok x=> .ok (S1,(1,0))):=rfl
   repeat first|with_reducible refine GE.g ?_|simp only[decide_true,decide_false,hl1,Ku,IJ,Df,go_sem,simprocAttr]
   refine bf la loc cs pt r ob (args2:=[.p 0 0,.n .i64 p,vl (l.getD 0 v0)]) (L:=[(6,.p 3 0),(12,.p 4 0)]) (bl2:=[ae 0 130 [.n .i64 1,.n .i64 0],ae 0 130 [.n .i64 0,.n .i64 0]]) S1 [5,3,2,1,0] [] (hel (l.getD 0 v0) S1 ha.1 (hal (.inr rfl))) ?_ ?_ ?_ ?_ (by simp) rfl (by rfl) (by rfl) (.cons .lq (.cons .lq .nil)) ?_ ?_
   ·exact a8
   ·exact .cr (.j2) (.cr (.j2) (.cr (.k2 (λ_ _ _ _=>rfl)) (.cr (.k2 (λi j _ _=>aG _ i j)) (.cr .wk .nil))))
   ·exact⟨Wv.p rfl,Wv.n rfl,Wv.same rfl,trivial⟩
   ·intro r x h
    simp only[go_sem,simprocAttr]
    exact h
   ·rintro v H' ⟨y,hy,rfl,rfl⟩
    refine⟨S1,ob,rfl,?_⟩
    simp only[wH,dL,List.cons_append,List.nil_append,iv]
    repeat first|with_reducible refine GE.g ?_|simp only[go_sem,simprocAttr]
    have hact:b6 la 4 arg p l S1= .ok (S1,(1,0)):=by rw[hA,hy]
    refine fin [4,3,2,1,0] [] _ _ hact ?_ ?_ ?_ rfl
    ·exact a8
    ·exact .cr (.j2) (.cr (.j2) (.cr (.k2 (λ_ _ _ _=>rfl)) (.cr (.k2 (λi j _ _=>aG _ i j)) (.cr .wk .nil))))
    ·intro r x h
     simp only[go_sem,simprocAttr]
     exact h
   ·rintro c H' ⟨x,hx,rfl⟩
    exact hErr x (by rw[hA,hx])
 ·have hs2:(fg op).2=[116]:=by rcases(show op=21\/op=22\/op=23\/op=24\/op=25\/op=33 by omega) with rfl|rfl|rfl|rfl|rfl|rfl<;>rfl
  have n0:¬op=0:=by omega
  have n1:¬op=1:=by omega
  have n2:¬op=2:=by omega
  have n3:¬op=3:=by omega
  have n4:¬op=4:=by omega
  have n5:¬op=5:=by omega
  have n7:¬op=7:=by omega
  have n6:¬op=6:=by omega
  have n35:¬op=35:=by omega
  have n34:¬op=34:=by omega
  have n32:¬op=32:=by omega
  have n26:¬op=26:=by omega
  have hA:b6 la op arg p l S1=cq (1,0) (bU p [(true,0,0)] S1):=by unfold b6;rw[if_neg n0,if_neg n1,if_neg n2,if_neg n3,if_neg n4,if_neg n5,if_neg n7,if_neg (by omega),if_neg n34,if_neg n32,if_neg n26,if_pos hs2]
  repeat first|with_reducible refine GE.g ?_|simp only[decide_true,decide_false,n0,n1,n2,n3,n4,n5,n7,n6,n35,n34,n32,n26,hs2,go_sem,simprocAttr]
  have hq:=eF la loc cs pt r ob p [(true,0,0)] ⟨by simp,by simp⟩ S1 (by omega) (by omega)
  refine bf la loc cs pt r ob (args2:=[.p 0 0,.n .i64 p,.fs 3 1 (sC [(true,0,0)])]) (L:=[(6,.p 3 0),(12,.p 4 0)]) (bl2:=[ae 0 130 [.n .i64 1,.n .i64 0],ae 0 130 [.n .i64 0,.n .i64 0]]) S1 [5,3,2,1,0] [6] hq ?_ ?_ ?_ ?_ (by simp) rfl (by rfl) (by rfl) (.cons .lq (.cons .lq .nil)) ?_ ?_
  ·exact a8
  ·exact .cr (.j2) (.cr (.j2) (.cr (.k2 (λ_ _ _ _=>rfl)) (.cr (.k2 (λi j _ _=>aG _ i j)) (.cr .wk .nil))))
  ·exact⟨Wv.p rfl,Wv.n rfl,.cv (.bs1 (x:=_) (by simp) (by simp only[go_sem,simprocAttr]<;>rfl) (by rfl) (by simp only[go_sem,simprocAttr]) (by simp only[go_sem,simprocAttr]) (by simp only[go_sem,simprocAttr])),trivial⟩
  ·intro r x h
   simp only[go_sem,simprocAttr]
   exact h
  ·rintro v H' ⟨S2,hS2,rfl,rfl⟩
   have hact:b6 la op arg p l S1= .ok (S2,(1,0)):=by rw[hA,hS2];rfl
   refine⟨S2,ob,rfl,?_⟩
   simp only[wH,dL,List.cons_append,List.nil_append]
   repeat first|with_reducible refine GE.g ?_|simp only[go_sem,simprocAttr]
   refine fin [4,3,2,1,0] [] _ _ hact ?_ ?_ ?_ rfl
   ·exact a8
   ·exact .cr (.j2) (.cr (.j2) (.cr (.k2 (λ_ _ _ _=>rfl)) (.cr (.k2 (λi j _ _=>aG _ i j)) (.cr .wk .nil))))
   ·intro r x h
    simp only[go_sem,simprocAttr]
    exact h
  ·rintro c H' ⟨x,hx,rfl⟩
   exact hErr x (by rw[hA,hx];rfl)
 ·have n0:¬op=0:=by omega
  have n1:¬op=1:=by omega
  have n2:¬op=2:=by omega
  have n3:¬op=3:=by omega
  have n4:¬op=4:=by omega
  have n5:¬op=5:=by omega
  have n7:¬op=7:=by omega
  have n6:¬op=6:=by omega
  have n35:¬op=35:=by omega
  have n34:¬op=34:=by omega
  have n32:¬op=32:=by omega
  have n26:¬op=26:=by omega
  have hs2:(fg op).2=[110]:=by rcases(show op=8\/op=9\/op=10\/op=11\/op=12\/op=13\/op=14\/op=15\/op=16\/op=17\/op=18\/op=19\/op=20 by omega) with rfl|rfl|rfl|rfl|rfl|rfl|rfl|rfl|rfl|rfl|rfl|rfl|rfl<;>rfl
  have hl1:l.length=2:=by rw[hln];rcases(show op=8\/op=9\/op=10\/op=11\/op=12\/op=13\/op=14\/op=15\/op=16\/op=17\/op=18\/op=19\/op=20 by omega) with rfl|rfl|rfl|rfl|rfl|rfl|rfl|rfl|rfl|rfl|rfl|rfl|rfl<;>rfl
  have hA:b6 la op arg p l S1=if(bi op (l.getD 0 v0).2 (l.getD 1 v0).2).2=0 then cq (1,0) (bU p [(false,(bi op (l.getD 0 v0).2 (l.getD 1 v0).2).1)] S1) else .error (p,(bi op (l.getD 0 v0).2 (l.getD 1 v0).2).2):=by unfold b6;rw[if_neg n0,if_neg n1,if_neg n2,if_neg n3,if_neg n4,if_neg n5,if_neg n7,if_neg (by omega),if_neg n34,if_neg n32,if_neg n26,if_neg (by rw[hs2];decide)]
  have hap:=ri op h.1 h.2 (l.getD 0 v0).2 (l.getD 1 v0).2 (dB hlok 0) (dB hlok 1)
  generalize hz:bi op (l.getD 0 v0).2 (l.getD 1 v0).2=z at*
  repeat first|with_reducible refine GE.g ?_|simp only[decide_true,decide_false,n0,n1,n2,n3,n4,n5,n7,n6,n35,n34,n32,n26,hs2,ZY,go_sem,simprocAttr]
  refine GE.cut (az [(0,.p 0 0),(1,.n .i64 p),(6,.p 3 0),(12,.p 4 0),(13,.p 5 0),(14,.n .i64 z.2)]) (aw ob ([ae 0 127 [.n .i64 z.1.1,.n .i64 z.1.2],ae 0 130 [.n .i64 1,.n .i64 0],ae 0 130 [.n .i64 0,.n .i64 0]]++wH la loc cs pt r S1)) ?_ ?_
  ·refine GE.frkm aD 6 (by simp only[bH,go_sem,simprocAttr]) ?_
   simp only[hl1,Ku,IJ,Df,go_sem,simprocAttr]
   repeat' with_reducible refine aY ?_ ?_
   all_goals
    refine KB ([.n .i64 op,iv (l.getD 0 v0).2,iv (l.getD 1 v0).2]) hap ?_
    simp only[iv,go_sem,simprocAttr]
    repeat' with_reducible refine aY ?_ ?_
   any_goals decide
   all_goals
    refine bX.mkO (ob:=ob) [6,5,3,2,1,0] [] ?_ ?_ ?_ ?_ (aA rfl)
    ·exact a8
    ·exact .cr (.j2) (.cr (.j2) (.cr (.j2) (.cr (.k2 (λ_ _ _ _=>rfl)) (.cr (.k2 (λi j _ _=>aG _ i j)) (.cr .wk .nil)))))
    ·simp[wH]
    ·intro r x h
     simp only[go_sem,simprocAttr]
     exact h
  ·simp only[wH,dL,List.cons_append,List.nil_append]
   by_cases hz0:z.2=0
   ·rw[if_pos hz0] at hA
    have hz1:=eq_true hz0
    repeat first|with_reducible refine GE.g ?_|simp only[hz1,decide_true,decide_false,go_sem,simprocAttr]
    refine dl ([.b true,.n .i64 p,.n .i64 z.2]) (cw p z.2) ?_
    repeat first|with_reducible refine GE.g ?_|simp only[go_sem,simprocAttr]
    refine dl ([iv z.1]) (fH z.1) ?_
    simp only[vl]
    repeat first|with_reducible refine GE.g ?_|simp only[go_sem,simprocAttr]
    have hq:=eF la loc cs pt r ob p [(false,z.1)] ⟨by simp,by simp⟩ S1 (by omega) (by omega)
    refine bf la loc cs pt r ob (args2:=[.p 0 0,.n .i64 p,.fs 3 1 (sC [(false,z.1)])]) (L:=[(6,.p 3 0),(12,.p 4 0)]) (bl2:=[ae 0 130 [.n .i64 1,.n .i64 0],ae 0 130 [.n .i64 0,.n .i64 0]]) S1 [4,3,2,1,0] [6] hq ?_ ?_ ?_ ?_ (by simp) rfl (by rfl) (by rfl) (.cons .lq (.cons .lq .nil)) ?_ ?_
    ·exact a8
    ·exact .cr (.j2) (.cr (.j2) (.cr (.k2 (λ_ _ _ _=>rfl)) (.cr (.k2 (λi j _ _=>aG _ i j)) (.cr .wk .nil))))
    ·exact⟨Wv.p rfl,Wv.n rfl,.cv (.bs1 (x:=_) (by simp) (by simp only[go_sem,simprocAttr]<;>rfl) (by rfl) (by simp only[go_sem,simprocAttr]) (by simp only[go_sem,simprocAttr]) (by simp only[go_sem,simprocAttr])),trivial⟩
    ·intro r x h
     simp only[go_sem,simprocAttr]
     exact h
    ·rintro v H' ⟨S2,hS2,rfl,rfl⟩
     have hact:b6 la op arg p l S1= .ok (S2,(1,0)):=by rw[hA,hS2];rfl
     refine⟨S2,ob,rfl,?_⟩
     simp only[wH,dL,List.cons_append,List.nil_append]
     repeat first|with_reducible refine GE.g ?_|simp only[go_sem,simprocAttr]
     refine fin [4,3,2,1,0] [] _ _ hact ?_ ?_ ?_ rfl
     ·exact a8
     ·exact .cr (.j2) (.cr (.j2) (.cr (.k2 (λ_ _ _ _=>rfl)) (.cr (.k2 (λi j _ _=>aG _ i j)) (.cr .wk .nil))))
     ·intro r x h
      simp only[go_sem,simprocAttr]
      exact h
    ·rintro c H' ⟨x,hx,rfl⟩
     exact hErr x (by rw[hA,hx];rfl)
   ·rw[if_neg hz0] at hA
    repeat first|with_reducible refine GE.g ?_|simp only[hz0,decide_true,decide_false,go_sem,simprocAttr]
    exact aI [] (fargs:=[.b false,.n .i64 p,.n .i64 z.2]) (ck.same rfl) (cV p z.2) (hErr _ hA)
end
end Go.Proofs.YtdpkgnmmikebdaaGreat
namespace Go.Proofs.YtdpkgnmmikebdaaGreat
open Go.RowKit
def dI:List (Int×Int)->Int->Option Int
 |[],_=>none
 |x::l,k=>if x.1=k then some x.2 else dI l k
def lK(r:Nat)(ob:Nat->Option OB)(lp:List (Int×Int)):Prop:=∃mx:ga,ob r=some (.mp mx)/\mx.own=true/\∀k,mx.get k=(dI lp k).map λn=> .agg [.n .i64 k,.n .i64 n,.ow]
section
variable (la:List (Bool×Int)) (loc:Int) (cs:List (Int×Int)) (pt:List Int) (r:Nat)
def I1(mk:Bd->AV)(x:Option (Except Er (WS×Bd)))(v:AV)(H':AH):Prop:=∃S' z ob',x=some (.ok (S',z))/\v=mk z/\lK r ob' S'.lp/\H'=aw ob' (wH la loc cs pt r S')
def I2(x:Option (Except Er (WS×Bd)))(c:List PanicEntry)(_:AH):Prop:=∃e:Er,x=some (.error e)/\c=et e.1 e.2
def oS(n:Nat)(o:Fo):Prop:=∀(a b base lp:Nat) (S:WS) (ob:Nat->Option OB),aN cs pt o a b->b<=cs.length->base<=32->lp<=32->WF n S->Sm a S->lK r ob S.lp->
 PC Tryz.prog bG 55 [.p 0 0,.n .i64 a,.n .i64 b,.n .i64 base,.n .i64 lp] (aw ob (wH la loc cs pt r S)) (I1 la loc cs pt r gQ (aR cs la o base lp S (0,0))) (I2 (aR cs la o base lp S (0,0)))
theorem wN(n:Nat)(hn:n<1000)(hcs:cs.length<=1024)(hpt:pt.length=cs.length)(hA:kU cs)(x y:Nat)(u v:Fo)(base lp:Nat)(S:WS)(ob:Nat->Option OB)(hU:oS la loc cs pt r n u)(hV:oS la loc cs pt r n v)(hg:aN cs pt (.br 27 x y u v .nil) x y)(hy:y<=cs.length)(hb:base<=32)(hlp:lp<=32)(hW:WF n S)(hS:Sm x S)(hM:lK r ob S.lp):
  PC Tryz.prog bG 86 [.p 0 0,.n .i64 x,.n .i64 base,.n .i64 lp] (aw ob (wH la loc cs pt r S)) (I1 la loc cs pt r (λz=> .tup [gQ z,.n .i64 ((y-1:Nat))]) (eM cs la x u v base lp S)) (I2 (eM cs la x u v base lp S)):=by
 obtain⟨_,hop,_,⟨m,g1,g2,g3,g4,g5⟩,_⟩:=hg
 refine PC.vw (cI Rr ⟨by simp,by decide⟩ ?_)
 simp only[aE,wH,dL]
 have x0:(0:Int)<=(x:Int):=by omega
 have xl:(x:Int)<(pt.length:Int):=by omega
 have m0:(0:Int)<=(m:Int):=by omega
 have ml:(m:Int)<(cs.length:Int):=by omega
 have hpm:iC pt x 0= .n .i64 m:=by rw[Wp,g1]
 have wx:IntKind.i64.wrap ((x:Int)+1)=((x+1:Nat):Int):=(aj (by omega)).trans (by omega)
 repeat first|with_reducible refine GE.g ?_|simp only[go_sem,simprocAttr]
 refine bf la loc cs pt r ob (args2:=[.p 0 0,.n .i64 x,.n .i64 base,.s ⟨#[116]⟩]) (L:=[(0,.p 0 0),(1,.n .i64 x),(3,.n .i64 lp),(8,.p 3 0)]) (bl2:=[ae 0 130 [.n .i64 0,.n .i64 0]]) S [3,2,1,0] [] (pg la loc cs pt r ob x base [116] (by simp) (by omega) S (by have:=hS.st;omega)) ?_ ?_ ?_ ?_ (by simp) rfl (by rfl) (by rfl) (.cons .lq .nil) ?_ ?_
 ·exact a8
 ·exact .cr (.j2) (.cr (.k2 (λ_ _ _ _=>rfl)) (.cr (.k2 (λi j _ _=>aG _ i j)) (.cr .wk .nil)))
 ·exact⟨Wv.p rfl,Wv.n rfl,Wv.n rfl,Wv.same rfl,trivial⟩
 ·intro r x h
  simp only[go_sem,simprocAttr]
  exact h
 ·rintro v H' ⟨l,S1,hp,rfl,rfl⟩
  refine⟨S1,ob,rfl,?_⟩
  simp only[wH,dL,List.cons_append,List.nil_append]
  obtain⟨w1,w2,w3,w4,w5⟩:=b8 hp hW
  have s1:=gn hp hS
  obtain⟨h,hh⟩:∃h,h=S1.st.length:=⟨_,rfl⟩
  have hh32:=s1.st
  have hM1:lK r ob S1.lp:=by rw[w5];exact hM
  have hu:=hU (x+1) m h lp S1 ob g4 (by omega) (by omega) (by omega) w1 (s1.le (by omega)) hM1
  have hC1:eM cs la x u v base lp S=(match aR cs la u h lp S1 (0,0) with
   |none=>none
   |some (.error e)=>some (.error e)
   |some (.ok (S2,bx))=>
    if S2.st.length=h then
     if am cs m=28 then match aR cs la v h lp {S2 with loc:=S1.loc} (0,0) with
      |none=>none
      |some (.error e)=>some (.error e)
      |some (.ok (S4,by_))=>
       if S4.st.length=h then some (.ok ({S4 with loc:=bL S2.loc S4.loc},bw (aQ bx.1 by_.1,aQ bx.2 by_.2) (1,0)))
       else some (.error ((v.lastB (m+1):Nat),14))
     else some (.ok ({S2 with loc:=bL S2.loc S1.loc},bw (aQ bx.1 0,aQ bx.2 0) (1,0)))
    else some (.error ((m:Nat),14))):=by
   unfold eM
   rw[hp,g4.lastB,hh]
   rfl
  repeat first|with_reducible refine GE.g ?_|simp only[x0,xl,hpm,Int.toNat_natCast,wx,go_sem,simprocAttr]
  refine bf la loc cs pt r ob (args2:=[.p 0 0,.n .i64 ((x+1:Nat)),.n .i64 m,.n .i64 h,.n .i64 lp]) (L:=[(0,.p 0 0),(3,.n .i64 lp),(8,.p 3 0),(10,.n .i64 m),(11,.n .i64 m),(12,.fs 2 S1.loc.length (vC S1.loc)),(13,.n .i64 h)]) (bl2:=[ae 0 130 [.n .i64 0,.n .i64 0]]) S1 [3,2,1,0] [] (hu) ?_ ?_ ?_ ?_ (by simp) rfl (by rfl) (by rfl) (.cons .lq .nil) ?_ ?_
  ·simp only[eo,cQ,hh,go_sem,simprocAttr]
   repeat' refine aY ?_ ?_
   all_goals first|exact i8|skip
  ·exact .cr (.j2) (.cr (.k2 (λ_ _ _ _=>rfl)) (.cr (.k2 (λi j _ _=>aG _ i j)) (.cr .wk .nil)))
  ·exact⟨Wv.p rfl,Wv.n rfl,Wv.n rfl,Wv.n (by rw[hh]),Wv.n rfl,trivial⟩
  ·intro r x h
   simp only[go_sem,simprocAttr]
   exact h
  ·rintro v' H' ⟨S2,bx,ob2,hu2,rfl,hM2,rfl⟩
   refine⟨S2,ob2,rfl,?_⟩
   simp only[wH,dL,List.cons_append,List.nil_append,gQ]
   rw[hu2] at hC1
   dsimp only at hC1
   have w6:=aP hA u (x+1) m h lp g4 hu2 w1 jB
   have s2:=ch u (x+1) m h lp g4 hu2 (s1.le (by omega))
   have hlvl:=ir la loc cs pt r ob2 m h S2 (by have:=s2.st;omega)
   repeat first|with_reducible refine GE.g ?_|simp only[go_sem,simprocAttr]
   refine bf la loc cs pt r ob2 (args2:=[.p 0 0,.n .i64 m,.n .i64 h]) (L:=[(0,.p 0 0),(3,.n .i64 lp),(8,.p 3 0),(10,.n .i64 m),(11,.n .i64 m),(12,.fs 2 S1.loc.length (vC S1.loc)),(13,.n .i64 h),(14,.p 4 0),(15,.p 5 0)]) (bl2:=[ae 0 130 [.n .i64 0,.n .i64 0],ae 0 130 [.n .i64 bx.1,.n .i64 bx.2],ae 0 130 [.n .i64 0,.n .i64 0]]) S2 [5,4,3,2,1,0] [] (hlvl) ?_ ?_ ?_ ?_ (by simp) rfl (by rfl) (by rfl) (.cons .lq (.cons .lq (.cons .lq .nil))) ?_ ?_
   ·exact a8
   ·exact .cr (.j2) (.cr (.j2) (.cr (.j2) (.cr (.k2 (λ_ _ _ _=>rfl)) (.cr (.k2 (λi j _ _=>aG _ i j)) (.cr .wk .nil)))))
   ·exact⟨Wv.p rfl,Wv.n rfl,Wv.n rfl,trivial⟩
   ·intro r x h
    simp only[go_sem,simprocAttr]
    exact h
   ·rintro v' H' ⟨hl,rfl,rfl⟩
    refine⟨S2,ob2,rfl,?_⟩
    simp only[wH,dL,List.cons_append,List.nil_append]
    have hl2:S2.st.length=h:=by
     unfold lD at hl
     split at hl
     ·assumption
     ·cases hl
    rw[if_pos hl2] at hC1
    have hll:S2.loc.length=S1.loc.length:=by rw[w6.1.wf.loc.1,w1.loc.1]
    have hll2:S2.loc.length<100000:=by rw[w6.1.wf.loc.1];omega
    have em:pI cs m 0= .n .i64 (am cs m):=rfl
    by_cases h28:am cs m=28
    ·rw[if_pos h28] at hC1
     rcases g5 with⟨_,e,q1,q2,q3,q4,rfl⟩|⟨q0,_⟩
     rotate_left
     ·exact absurd h28 q0
     have hpe:iC pt m 0= .n .i64 e:=by rw[Wp,q1]
     have mlp:(m:Int)<(pt.length:Int):=by omega
     have wm:IntKind.i64.wrap ((m:Int)+1)=((m+1:Nat):Int):=(aj (by omega)).trans (by omega)
     have w3':WF n {S2 with loc:=S1.loc}:=⟨w1.loc,w6.1.wf.st,w6.1.wf.lv⟩
     have s3:Sm (m+1) {S2 with loc:=S1.loc}:=⟨s2.st,s2.ht,Nat.le_trans s2.lv (by omega)⟩
     have hv:=hV (m+1) e h lp {S2 with loc:=S1.loc} ob2 q4 (by omega) (by omega) (by omega) w3' s3 hM2
     repeat first|with_reducible refine GE.g ?_|simp only[m0,ml,mlp,em,h28,hpe,wm,Int.toNat_natCast,decide_true,go_sem,simprocAttr]
     refine bf la loc cs pt r ob2 (args2:=[.p 0 0,.n .i64 ((m+1:Nat)),.n .i64 e,.n .i64 h,.n .i64 lp]) (L:=[(0,.p 0 0),(3,.n .i64 lp),(8,.p 3 0),(11,.n .i64 e),(13,.n .i64 h),(14,.p 4 0),(15,.p 5 0),(16,.fs 2 S2.loc.length (vC S2.loc))]) (bl2:=[ae 0 130 [.n .i64 0,.n .i64 0],ae 0 130 [.n .i64 bx.1,.n .i64 bx.2],ae 0 130 [.n .i64 0,.n .i64 0]]) {S2 with loc:=S1.loc} [5,4,3,2,1,0] [] (hv) ?_ ?_ ?_ ?_ (by simp) rfl (by rfl) (by rfl) (.cons .lq (.cons .lq (.cons .lq .nil))) ?_ ?_
     ·exact a8
     ·exact .cr (.j2) (.cr (.j2) (.cr (.j2) (.cr (.k2 (λ_ _ _ _=>rfl)) (.cr (.k2 (λi j _ _=>aG _ i j)) (.cr .wk .nil)))))
     ·exact⟨Wv.p rfl,Wv.n rfl,Wv.n rfl,Wv.n rfl,Wv.n rfl,trivial⟩
     ·intro r x h
      simp only[go_sem,simprocAttr]
      exact h
     ·rintro v' H' ⟨S4,bv,ob4,hv2,rfl,hM4,rfl⟩
      refine⟨S4,ob4,rfl,?_⟩
      simp only[wH,dL,List.cons_append,List.nil_append,gQ]
      rw[hv2] at hC1
      dsimp only at hC1
      have w7:=aP hA v (m+1) e h lp q4 hv2 w3' jB
      have s4:=ch v (m+1) e h lp q4 hv2 s3
      have hlve:=ir la loc cs pt r ob4 e h S4 (by have:=s4.st;omega)
      repeat first|with_reducible refine GE.g ?_|simp only[go_sem,simprocAttr]
      refine bf la loc cs pt r ob4 (args2:=[.p 0 0,.n .i64 e,.n .i64 h]) (L:=[(0,.p 0 0),(3,.n .i64 lp),(8,.p 3 0),(11,.n .i64 e),(13,.n .i64 h),(14,.p 4 0),(15,.p 5 0),(16,.fs 2 S2.loc.length (vC S2.loc))]) (bl2:=[ae 0 130 [.n .i64 bv.1,.n .i64 bv.2],ae 0 130 [.n .i64 bx.1,.n .i64 bx.2],ae 0 130 [.n .i64 0,.n .i64 0]]) S4 [5,4,3,2,1,0] [] (hlve) ?_ ?_ ?_ ?_ (by simp) rfl (by rfl) (by rfl) (.cons .lq (.cons .lq (.cons .lq .nil))) ?_ ?_
      ·exact a8
      ·exact .cr (.j2) (.cr (.j2) (.cr (.j2) (.cr (.k2 (λ_ _ _ _=>rfl)) (.cr (.k2 (λi j _ _=>aG _ i j)) (.cr .wk .nil)))))
      ·exact⟨Wv.p rfl,Wv.n rfl,Wv.n rfl,trivial⟩
      ·intro r x h
       simp only[go_sem,simprocAttr]
       exact h
      ·rintro v' H' ⟨hl,rfl,rfl⟩
       refine⟨S4,ob4,rfl,?_⟩
       simp only[wH,dL,List.cons_append,List.nil_append]
       have hl4:S4.st.length=h:=by
        unfold lD at hl
        split at hl
        ·assumption
        ·cases hl
       rw[if_pos hl4] at hC1
       have hll4:S4.loc.length=S2.loc.length:=by rw[w7.1.wf.loc.1,w6.1.wf.loc.1]
       have hmx:nM (aQ bx.1 bv.1,aQ bx.2 bv.2):=by have:=w6.2;have:=w7.2;unfold jd at*;unfold aQ;refine⟨⟨?_,?_⟩,?_,?_⟩<;>split<;>omega
       repeat first|with_reducible refine GE.g ?_|simp only[go_sem,simprocAttr]
       refine dl ([.fs 2 S2.loc.length (vC S2.loc),.fs 2 S4.loc.length (vC S4.loc)]) (kv S2.loc S4.loc (by omega) hll2) ?_
       repeat first|with_reducible refine GE.g ?_|simp only[go_sem,simprocAttr]
       refine dl ([gQ (aQ bx.1 bv.1,aQ bx.2 bv.2),gQ (1,0)]) (iL _ _ hmx kt) ?_
       simp only[gQ]
       repeat first|with_reducible refine GE.g ?_|simp only[go_sem,simprocAttr]
       refine xc (ob:=ob4) [2,1,0] [6] (.tup [gQ (bw (aQ bx.1 bv.1,aQ bx.2 bv.2) (1,0)),.n .i64 (e:Nat)]) (wH la loc cs pt r {S4 with loc:=bL S2.loc S4.loc}) ?_ (.cv (.rfl rfl)) (by simp[wH]) (λr x h=>by simp only[go_sem,simprocAttr];exact h) (aA rfl) ⟨_,_,ob4,hC1,rfl,hM4,rfl⟩
       simp only[wH,dL,eR]
       exact .cr (.k2 (λ_ _ _ _=>rfl)) (.cr (.k2 (λi j _ _=>aG _ i j)) (.cr (.wk (hg:=λi hi=>by rcases qT hi with rfl|rfl|rfl|rfl|rfl|rfl|rfl|rfl|rfl|rfl|rfl<;>(simp only[go_sem,simprocAttr];first|exact Wv.same rfl|exact Wv.os rfl|exact .cv (.ownb (ty:=127) (z:=0) (by simp only[go_sem,simprocAttr]<;>rfl) (λi j _ _=>du _ i j) (by simp))))) .nil))
      ·rintro c H' ⟨e',he,rfl⟩
       refine⟨e',?_,rfl⟩
       rw[hC1]
       unfold lD at he
       split at he
       ·cases he
       ·rename_i hne
        rw[if_neg hne,q4.lastB]
        cases he
        rfl
     ·rintro c H' ⟨e,he,rfl⟩
      exact⟨e,by rw[hC1,he],rfl⟩
    ·rw[if_neg h28] at hC1
     rcases g5 with⟨q0,_⟩|⟨_,_,rfl⟩
     ·exact absurd q0 h28
     have hmx:nM (aQ bx.1 0,aQ bx.2 0):=by have:=w6.2;unfold jd at this;unfold aQ;refine⟨⟨?_,?_⟩,?_,?_⟩<;>split<;>omega
     repeat first|with_reducible refine GE.g ?_|simp only[m0,ml,em,h28,Int.toNat_natCast,decide_false,go_sem,simprocAttr]
     refine dl ([.fs 2 S2.loc.length (vC S2.loc),.fs 2 S1.loc.length (vC S1.loc)]) (kv S2.loc S1.loc (by omega) hll2) ?_
     repeat first|with_reducible refine GE.g ?_|simp only[go_sem,simprocAttr]
     refine dl ([gQ (aQ bx.1 0,aQ bx.2 0),gQ (1,0)]) (iL _ _ hmx kt) ?_
     simp only[gQ]
     repeat first|with_reducible refine GE.g ?_|simp only[go_sem,simprocAttr]
     refine xc (ob:=ob2) [2,1,0] [6] (.tup [gQ (bw (aQ bx.1 0,aQ bx.2 0) (1,0)),.n .i64 (m:Nat)]) (wH la loc cs pt r {S2 with loc:=bL S2.loc S1.loc}) ?_ (.cv (.rfl rfl)) (by simp[wH]) (λr x h=>by simp only[go_sem,simprocAttr];exact h) (aA rfl) ⟨_,_,ob2,hC1,rfl,hM2,rfl⟩
     simp only[wH,dL,eR]
     exact .cr (.k2 (λ_ _ _ _=>rfl)) (.cr (.k2 (λi j _ _=>aG _ i j)) (.cr (.wk (hg:=λi hi=>by rcases qT hi with rfl|rfl|rfl|rfl|rfl|rfl|rfl|rfl|rfl|rfl|rfl<;>(simp only[go_sem,simprocAttr];first|exact Wv.same rfl|exact Wv.os rfl|exact .cv (.ownb (ty:=127) (z:=0) (by simp only[go_sem,simprocAttr]<;>rfl) (λi j _ _=>du _ i j) (by simp))))) .nil))
   ·rintro c H' ⟨e,he,rfl⟩
    refine⟨e,?_,rfl⟩
    rw[hC1]
    unfold lD at he
    split at he
    ·cases he
    ·rename_i hne
     rw[if_neg hne]
     cases he
     rfl
  ·rintro c H' ⟨e,he,rfl⟩
   exact⟨e,by rw[hC1,he],rfl⟩
 ·rintro c H' ⟨e,he,rfl⟩
  exact⟨e,by unfold eM;rw[he],rfl⟩
end
end Go.Proofs.YtdpkgnmmikebdaaGreat
namespace Go.Proofs.YtdpkgnmmikebdaaGreat
open Go.RowKit
def JS(cs:List (Int×Int))(i:Nat):Nat->Nat->Nat->Int
 |_,0,_=> -1
 |p,n+1,k=>if cs.getD p (0,0)=(2,(i:Int)) then(k:Int) else JS cs i (p+1) n (k+1)
theorem ur{cs:List (Int×Int)}{i:Nat}:∀(n p k:Nat),decide (0<=JS cs i p n k)=stoF cs p n i
 |0,p,k=>rfl
 |n+1,p,k=>by
  unfold JS stoF
  by_cases h:cs.getD p (0,0)=(2,(i:Int))
  ·rw[if_pos h,decide_eq_true h,decide_eq_true (by omega)];rfl
  ·rw[if_neg h,decide_eq_false h,ur n];rfl
theorem uD(a b c d:Int):nK 9 (.st [(0,1,.n),(1,1,.n)]) (.agg [.n .i64 a,.n .u32 b]) (.agg [.n .i64 c,.n .u32 d])=some (decide ((c,d)=(a,b))):=by
 have h:nK 9 (.st [(0,1,.n),(1,1,.n)]) (.agg [.n .i64 a,.n .u32 b]) (.agg [.n .i64 c,.n .u32 d])=some (a==c&&(b==d&&true)):=rfl
 rw[h]
 congr 1
 rw[Ck,Ck,Bool.and_true]
 by_cases h1:a=c
 ·by_cases h2:b=d
  ·subst h1;subst h2;simp
  ·rw[decide_eq_false h2,Bool.and_false,decide_eq_false (λe=>h2 (Prod.mk.inj e).2.symm)]
 ·rw[decide_eq_false h1,Bool.false_and,decide_eq_false (λe=>h1 (Prod.mk.inj e).1.symm)]
theorem ss(cs:List (Int×Int))(p n i:Nat)(hn:n<100000)(row:Nat->Nat->AV)(hrow:∀k j,row k j=pI cs (p+k) j):bM Tryz.prog 91 [.fs 2 n row,.agg [.n .i64 2,.n .u32 i]] [.v (.n .i64 (JS cs i p n 0))]:=by
 refine ag aD SP ⟨by simp,by decide⟩ ?_
 simp only[aE]
 repeat first|with_reducible refine aq ?_|simp only[go_sem,simprocAttr]
 refine GA.loop (I:=λm e H=>∃k:Nat,m=n-k/\k<=n/\JS cs i p n 0=JS cs i (p+k) (n-k) k/\e=az [(0,.fs 2 n row),(3,.p 0 0),(7,.n .i64 n),(8,.n .i64 k)]/\H=ah [ae 0 54 [.n .i64 2,.n .u32 i]]) (Wk.mk [0] [] ?_ ?_ ?_) ⟨0,rfl,Nat.zero_le _,rfl,rfl,rfl⟩ ?_
 ·exact a8
 ·exact .cr .ls .nil
 ·simp
 rintro m e H ⟨k,rfl,hk,hs,rfl,rfl⟩
 have k0:(0:Int)<=(k:Int):=by omega
 by_cases hkn:k<n
 ·have hki:(k:Int)<(n:Int):=by omega
  have e0:row k 0= .n .i64 (cs.getD (p+k) (0,0)).1:=(hrow k 0).trans rfl
  have e1:row k 1= .n .u32 (cs.getD (p+k) (0,0)).2:=(hrow k 1).trans rfl
  have wk:IntKind.i64.wrap ((k:Int)+1)=((k+1:Nat):Int):=(aj (by omega)).trans (by omega)
  rw[show n-k=(n-(k+1))+1 by omega,JS] at hs
  by_cases hq:cs.getD (p+k) (0,0)=(2,(i:Int))
  ·have hd:decide (((cs.getD (p+k) (0,0)).1,(cs.getD (p+k) (0,0)).2)=((2:Int),(i:Int)))=true:=decide_eq_true (by rw[hq])
   repeat first|with_reducible refine aq ?_|simp only[k0,hki,e0,e1,Int.toNat_natCast,uD,hd,decide_true,go_sem,simprocAttr]
   exact aa (by rw[hs,if_pos hq]) rfl
  ·have hd:decide (((cs.getD (p+k) (0,0)).1,(cs.getD (p+k) (0,0)).2)=((2:Int),(i:Int)))=false:=decide_eq_false (λe=>hq e)
   repeat first|with_reducible refine aq ?_|simp only[k0,hki,e0,e1,Int.toNat_natCast,uD,hd,wk,decide_true,decide_false,go_sem,simprocAttr]
   refine⟨_,_,_,?_,Wk.mk [0] [] ?_ ?_ ?_,k+1,rfl,by omega,by rw[hs,if_neg hq];rfl,rfl,rfl⟩
   ·omega
   ·exact a8
   ·exact .cr .ls .nil
   ·simp
 ·have hki:¬(k:Int)<(n:Int):=by omega
  obtain rfl:k=n:=by omega
  repeat first|with_reducible refine aq ?_|simp only[hki,decide_false,go_sem,simprocAttr]
  exact aa (by rw[hs,Nat.sub_self];rfl) rfl
theorem uY(cs:List (Int×Int))(p n i:Nat)(hn:n<100000)(row:Nat->Nat->AV)(hrow:∀k j,row k j=pI cs (p+k) j):bM Tryz.prog 60 [.fs 2 n row,.agg [.n .i64 2,.n .u32 i]] [.v (.b (stoF cs p n i))]:=by
 refine ag aD SY ⟨by simp,by decide⟩ ?_
 simp only[aE]
 repeat first|with_reducible refine aq ?_|simp only[go_sem,simprocAttr]
 refine bS ([.fs 2 n row,.agg [.n .i64 2,.n .u32 i]]) (ss cs p n i hn row hrow) ?_
 repeat first|with_reducible refine aq ?_|simp only[go_sem,simprocAttr]
 exact aa (by rw[<-ur n p 0]) rfl
theorem Bi(x:Nat)(most:Int)(l:List Iv):bM Tryz.prog 57 [.n .i64 x,.n .i64 most,.fs 2 l.length (vC l)] [.v (.fs 2 l.length (vC l)),.v (.n .i64 most)]:=by
 refine ag aD L0 ⟨by simp,by decide⟩ ?_
 simp only[aE]
 repeat first|with_reducible refine aq ?_|simp only[go_sem,simprocAttr]
 exact cK rfl rfl rfl rfl
theorem Bh(la:List (Bool×Int))(loc:Int)(cs:List (Int×Int))(hcs:cs.length<=1024)(x m:Nat)(hxm:x<=m)(hm:m<=cs.length)(pass:Int)(hd lo:List Iv)(hl:hd.length=lo.length)(hn:hd.length<1000):bM Tryz.prog 58 [.n .i64 x,.n .i64 m,.n .i64 pass,.fs 2 hd.length (vC hd),.fs 2 lo.length (vC lo),.fp 3 (AL la loc cs) 0] [.o 127 2 hd.length 0 (vC (dY (stoF cs x (m-x)) pass 0 hd lo))]:=by
 refine ag aD Th ⟨by simp,by decide⟩ ?_
 simp only[aE]
 obtain⟨nw,hnw⟩:∃nw,nw=dY (stoF cs x (m-x)) pass 0 hd lo:=⟨_,rfl⟩
 have hget:∀i,i<hd.length->nw.getD i (0,0)=if pass<3 then fA (hd.getD i (0,0)) (fT (hd.getD i (0,0)) (lo.getD i (0,0))) else if stoF cs x (m-x) i=true then(0,4294967295) else hd.getD i (0,0):=λi hi=>by
  rw[hnw,gA _ _ _ _ _ _ hi,Nat.zero_add]
 rw[<-hnw]
 clear hnw
 have x0:(0:Int)<=(x:Int):=by omega
 have x1:(x:Int)<=(m:Int):=by omega
 have x2:(m:Int)<=(cs.length:Int):=by omega
 have hp2:AL la loc cs 2= .fs 2 cs.length (pI cs):=rfl
 repeat first|with_reducible refine aq ?_|simp only[go_sem,simprocAttr]
 refine bS ([.fs 2 hd.length (vC hd)]) (gz (by omega) (λi j _ _=>du hd i j)) ?_
 repeat first|with_reducible refine aq ?_|simp only[go_sem,simprocAttr]
 refine GA.loop (I:=λmm e H=>∃k:Nat,mm=hd.length-k/\k<=hd.length/\e=az [(0,.n .i64 x),(1,.n .i64 m),(2,.n .i64 pass),(3,.fs 2 hd.length (vC hd)),(4,.fs 2 lo.length (vC lo)),(5,.fp 3 (AL la loc cs) 0),(12,.os 0 hd.length),(18,.n .i64 hd.length),(19,.n .i64 k)]/\H=ah [ai 127 2 hd.length 0 (λi j=>if i<k then vC nw i j else vC hd i j)]) (Wk.mk [0] [] ?_ ?_ ?_) ⟨0,rfl,by omega,rfl,rfl⟩ ?_
 ·exact a8
 ·exact .cr (.same (by simp only[go_sem,simprocAttr]<;>rfl) rfl (by decide) (λi j h hj=>rfl) (λi j _ _=>l5 hd i j)) .nil
 ·simp
 rintro mm e H ⟨k,rfl,hk,rfl,rfl⟩
 have h0:(0:Int)<=(k:Int):=by omega
 by_cases hkn:k<hd.length
 rotate_left
 ·have hki:¬(k:Int)<hd.length:=by omega
  obtain rfl:k=hd.length:=by omega
  repeat first|with_reducible refine aq ?_|simp only[hki,decide_false,go_sem,simprocAttr]
  exact⟨[_],rfl,.inr ⟨0,rfl,by simp,_,by simp only[go_sem,simprocAttr]<;>rfl,rfl,rfl,by decide,rfl,Nat.le_refl _,Nat.le_refl _,λi j hi hj=>(aJ i j hj).trans (if_pos hi),λi j _ _=>du _ i j⟩,rfl,trivial⟩
 have hki:(k:Int)<hd.length:=by omega
 have hkj:(k:Int)<lo.length:=by omega
 have hk1:k*2+2<=hd.length*2:=by omega
 have wk:IntKind.i64.wrap ((k:Int)+1)=((k+1:Nat):Int):=(aj (by omega)).trans (by omega)
 have wu:IntKind.u32.wrap (k:Int)=(k:Int):=tL (by omega)
 have gk:=hget k hkn
 have put:∀(a b:Int),nw.getD k (0,0)=(a,b)->∀i j,i<hd.length->j<2->(if i=k then[AV.n .i64 a,AV.n .i64 b][j]?.getD .u else(λi j=>if i<k then vC nw i j else vC hd i j) i j)=(if i<k+1 then vC nw i j else vC hd i j):=λa b hab i j h hj=>by
  by_cases e:i=k
  ·subst e
   rw[if_pos rfl,if_pos (by omega)]
   rcases yA hj with rfl|rfl
   ·rw[Bp,hab];rfl
   ·rw[Bo,hab];rfl
  ·rw[if_neg e]
   dsimp only
   by_cases h9:i<k
   ·rw[if_pos h9,if_pos (by omega)]
   ·rw[if_neg h9,if_neg (by omega)]
 have keep:nw.getD k (0,0)=hd.getD k (0,0)->∀i j,i<hd.length->j<2->(λi j=>if i<k then vC nw i j else vC hd i j:Nat->Nat->AV) i j=(if i<k+1 then vC nw i j else vC hd i j):=λhab i j h hj=>by
  dsimp only
  by_cases h9:i<k
  ·rw[if_pos h9,if_pos (by omega)]
  ·rw[if_neg h9]
   by_cases e:i=k
   ·subst e
    rw[if_pos (by omega)]
    rcases yA hj with rfl|rfl
    ·rw[Bp,Bp,hab]
    ·rw[Bo,Bo,hab]
   ·rw[if_neg (by omega)]
 repeat first|with_reducible refine aq ?_|simp only[h0,hki,hkj,hp2,x0,x1,x2,wu,Int.toNat_natCast,decide_true,go_sem,simprocAttr]
 refine bS ([.fs 2 (m-x) (λi=>pI cs (x+i)),.agg [.n .i64 2,.n .u32 k]]) (uY cs x (m-x) k (by omega) _ (λ_ _=>rfl)) ?_
 by_cases hp:pass<3
 ·rw[if_pos hp] at gk
  repeat first|with_reducible refine aq ?_|simp only[h0,hki,hkj,hp,Bp,Bo,Int.toNat_natCast,decide_true,go_sem,simprocAttr]
  refine bS ([iv (hd.getD k (0,0)),iv (lo.getD k (0,0))]) (mG _ _) ?_
  simp only[iv]
  repeat first|with_reducible refine aq ?_|simp only[go_sem,simprocAttr]
  refine bS ([iv (hd.getD k (0,0)),iv (fT (hd.getD k (0,0)) (lo.getD k (0,0)))]) (rh _ _) ?_
  simp only[iv]
  repeat first|with_reducible refine aq ?_|simp only[h0,hki,hkn,hk1,wk,Int.toNat_natCast,go_sem,simprocAttr]
  refine⟨_,_,_,?_,Wk.mk [0] [] ?_ ?_ ?_,k+1,rfl,by omega,rfl,rfl⟩
  ·omega
  ·exact a8
  ·exact .cr (.put (q:=k) (by simp only[go_sem,simprocAttr]<;>rfl) (by simp) rfl hkn rfl (by decide) (by omega) (put _ _ gk) (λi j _ _=>by split<;>exact l5 _ _ _)) .nil
  ·simp
 ·rw[if_neg hp] at gk
  cases hs:stoF cs x (m-x) k
  ·rw[hs] at gk
   repeat first|with_reducible refine aq ?_|simp only[hp,wk,decide_false,go_sem,simprocAttr]
   refine⟨_,_,_,?_,Wk.mk [0] [] ?_ ?_ ?_,k+1,rfl,by omega,rfl,rfl⟩
   ·omega
   ·exact a8
   ·exact .cr (.same (by simp only[go_sem,simprocAttr]<;>rfl) rfl (by decide) (keep gk) (λi j _ _=>by split<;>exact l5 _ _ _)) .nil
   ·simp
  ·rw[hs] at gk
   repeat first|with_reducible refine aq ?_|simp only[hp,decide_false,go_sem,simprocAttr]
   refine bS ([]) cm ?_
   simp only[iv]
   repeat first|with_reducible refine aq ?_|simp only[h0,hki,hkn,hk1,wk,Int.toNat_natCast,go_sem,simprocAttr]
   refine⟨_,_,_,?_,Wk.mk [0] [] ?_ ?_ ?_,k+1,rfl,by omega,rfl,rfl⟩
   ·omega
   ·exact a8
   ·exact .cr (.put (q:=k) (by simp only[go_sem,simprocAttr]<;>rfl) (by simp) rfl hkn rfl (by decide) (by omega) (put _ _ gk) (λi j _ _=>by split<;>exact l5 _ _ _)) .nil
   ·simp
theorem pM{P:Program}{f:FuncId}{args:List AV}{x:AV}(hx:x.pu 3=true)(h:rY P f args λv H=>∃M,Cv M H v x):bM P f args [.v x]:=by
 refine⟨h.1,λφ w args' hφ ha=>(h.2 φ w args' hφ ha).mono λe w' hq=>?_⟩
 cases e with
 |panicked c=>exact hq.elim
 |outgrown=>exact hq.elim
 |returned u=>
  obtain⟨v,Hc,σ',⟨M,hcv⟩,hv,hH,hb,hz⟩:=hq
  obtain⟨σ2,q1,q2,q3,q4,q5,q6,q7⟩:=hH.marks M
  have hu:=hcv.ok hH q1 q2 q7 hv
  exact⟨x,bg Hc M,σ2,⟨[x],rfl,⟨rfl,hx⟩,True.intro⟩,hu.mono σ2.bare_le,q6,hb,λc hc=>(q4.eq c hc).trans (hz c hc)⟩
theorem rI(l:List Iv)(hn:l.length<1000000):bM Tryz.prog 59 [.fs 2 l.length (vC l)] [.v .ow]:=by
 have h:=gz (n:=l.length) (row:=vC l) hn (λi j _ _=>du l i j)
 refine pM rfl ⟨h.1,λφ w args' hφ ha=>(h.2 φ w args' hφ ha).mono λe w' hq=>?_⟩
 cases e with
 |panicked c=>exact hq.elim
 |outgrown=>exact hq.elim
 |returned u=>
  obtain⟨v,Hc,σ',⟨l1,rfl,hr⟩,q⟩:=hq
  refine⟨_,Hc,σ',⟨[],?_⟩,q⟩
  match l1,hr with
  |[v],hr=>
   rcases hr.1 with⟨rfl,_⟩|⟨b,rfl,_⟩<;>exact .ow rfl
theorem rJ:AV.ow.cells=[.ow]:=rfl
theorem yd:AV.ow.one=true:=rfl
theorem dS:∀(l:List (Int×Int)) (p n k:Int),dI (fP l p n) k=if k=p then some n else dI l k
 |[],p,n,k=>by
  simp only[fP,dI]
  by_cases h:k=p
  ·rw[if_pos h,if_pos h.symm]
  ·rw[if_neg h,if_neg (λe=>h e.symm)]
 |x::l,p,n,k=>by
  simp only[fP]
  by_cases hx:x.1=p
  ·rw[if_pos hx]
   simp only[dI]
   by_cases h:k=p
   ·rw[if_pos h,if_pos h.symm]
   ·rw[if_neg h,if_neg (λe=>h e.symm),if_neg (λe=>h (e.symm.trans hx))]
  ·rw[if_neg hx]
   simp only[dI]
   by_cases h:x.1=k
   ·rw[if_pos h,if_pos h,if_neg (λe=>hx (h.trans e))]
   ·rw[if_neg h,if_neg h,dS l p n k]
theorem lK.put{r:Nat}{ob:Nat->Option OB}{lp:List (Int×Int)}{mx:ga}(h1:ob r=some (.mp mx))(h2:mx.own=true)(h3:∀k,mx.get k=(dI lp k).map λn=> .agg [.n .i64 k,.n .i64 n,.ow])(x mo:Int):lK r (oa (CI ob) r (.mp (mx.put x (.agg [.n .i64 x,.n .i64 mo,.ow])))) (fP lp x mo):=by
 refine⟨_,if_pos rfl,h2,λk=>?_⟩
 show(if k=x then some _ else mx.get k)=_
 rw[dS]
 by_cases h:k=x
 ·rw[if_pos h,if_pos h,h];rfl
 ·rw[if_neg h,if_neg h,h3]
section
variable (la:List (Bool×Int)) (loc:Int) (cs:List (Int×Int)) (pt:List Int) (r:Nat)
def ZV(S:WS):List AV:=
 [.fs 2 la.length (pA la),.n .i64 loc,.fs 2 cs.length (pI cs),.fs 1 pt.length (iC pt),.f 57 [] [],.f 58 [] [.fp 3 (AL la loc cs) 0],.fs 2 S.loc.length (vC S.loc),.os 1 S.st.length,.n .i64 S.ht,.ow,.cv (.map (some r))]
theorem nC(n:Nat)(hn:n<1000)(hcs:cs.length<=1024)(hpt:pt.length=cs.length)(hA:kU cs)(x y:Nat)(u v:Fo)(base:Nat)(S:WS)(ob:Nat->Option OB)(hU:oS la loc cs pt r n u)(hg:aN cs pt (.br 29 x y u v .nil) x y)(hy:y<=cs.length)(hb:base<=32)(hW:WF n S)(hS:Sm x S)(hM:lK r ob S.lp):
  PC Tryz.prog bG 87 [.p 0 0,.n .i64 x,.n .i64 base] (aw ob (wH la loc cs pt r S)) (I1 la loc cs pt r (λz=> .tup [gQ z,.n .i64 ((y-1:Nat))]) (jV cs la x u base S)) (I2 (jV cs la x u base S)):=by
 obtain⟨_,hop,_,⟨m,g1,⟨g2,g31⟩,g3,g4,g5⟩,_⟩:=hg
 have h31:=g31 rfl
 rcases g5 with⟨q0,_⟩|⟨_,_,rfl⟩
 ·rw[h31] at q0;cases q0
 refine PC.vw (cI Qt ⟨by simp,by decide⟩ ?_)
 simp only[aE,wH,dL]
 have x0:(0:Int)<=(x:Int):=by omega
 have xl:(x:Int)<(pt.length:Int):=by omega
 have hpm:iC pt x 0= .n .i64 m:=by rw[Wp,g1]
 have wx:IntKind.i64.wrap ((x:Int)+1)=((x+1:Nat):Int):=(aj (by omega)).trans (by omega)
 repeat first|with_reducible refine GE.g ?_|simp only[go_sem,simprocAttr]
 refine bf la loc cs pt r ob (args2:=[.p 0 0,.n .i64 x,.n .i64 base,.s ⟨#[110]⟩]) (L:=[(0,.p 0 0),(1,.n .i64 x),(6,.p 3 0)]) (bl2:=[ae 0 130 [.n .i64 0,.n .i64 0]]) S [3,2,1,0] [] (pg la loc cs pt r ob x base [110] (by simp) (by omega) S (by have:=hS.st;omega)) ?_ ?_ ?_ ?_ (by simp) rfl (by rfl) (by rfl) (.cons .lq .nil) ?_ ?_
 ·exact a8
 ·exact .cr (.j2) (.cr (.k2 (λ_ _ _ _=>rfl)) (.cr (.k2 (λi j _ _=>aG _ i j)) (.cr .wk .nil)))
 ·exact⟨Wv.p rfl,Wv.n rfl,Wv.n rfl,Wv.same rfl,trivial⟩
 ·intro r x h
  simp only[go_sem,simprocAttr]
  exact h
 ·rintro v H' ⟨l,S1,hp,rfl,rfl⟩
  refine⟨S1,ob,rfl,?_⟩
  simp only[wH,dL,List.cons_append,List.nil_append]
  obtain⟨w1,w2,w3,w4,w5⟩:=b8 hp hW
  have s1:=gn hp hS
  obtain⟨h,hh⟩:∃h,h=S1.st.length:=⟨_,rfl⟩
  have hh32:=s1.st
  have hl1:l.length=1:=by
   obtain⟨q1,q2,_⟩:=my hp
   rw[q2,List.length_drop]
   simp only[List.length_cons,List.length_nil] at q1 ⊢
   omega
  have hmo2:cN (l.getD 0 v0).2:=dB w2 0
  obtain⟨mo,hmo⟩:∃mo,mo=(l.getD 0 v0).2.2:=⟨_,rfl⟩
  rw[<-hh] at hh32
  have e2:sC l 0 2= .n .i64 mo:=by rw[Df,hmo]
  have hC1:jV cs la x u base S=(if mo<=65536 then(match gL (λS'=>aR cs la u h h S' (0,0)) m h (stoF cs x (m-x)) 6 1 S1.loc S1 with
    |none=>none
    |some (.error e)=>some (.error e)
    |some (.ok (head,S2,bx))=>some (.ok ({S2 with loc:=S2.lv.foldl bL head,lv:=S1.lv,lp:=fP S2.lp x mo},bw (fB bx mo) (1,0))))
   else some (.error (x,18))):=by
   unfold jV
   rw[hp,g4.lastB,hh,hmo]
   rfl
  by_cases hle:mo<=65536
  rotate_left
  ·rw[if_neg hle] at hC1
   repeat first|with_reducible refine GE.g ?_|simp only[hl1,e2,hle,decide_false,go_sem,simprocAttr]
   exact aI [] (fargs:=[.b false,.n .i64 x,.n .i64 18]) (ck.same rfl) (cV x 18) ⟨(x,18),hC1,rfl⟩
  rw[if_pos hle] at hC1
  have hB:iK cs n (x+1) m (λS'=>aR cs la u h h S' (0,0)):=λS3 S4 b4 h3 h5=>aP hA u (x+1) m _ _ g4 h3 h5 jB
  obtain⟨R,hR⟩:∃R,gL (λS'=>aR cs la u h h S' (0,0)) m h (stoF cs x (m-x)) 6 1 S1.loc S1=some R:=
   kA hB (λS' hS'=>bR hA u (x+1) m h h S' (0,0) g4 hS' jB) (by omega) g4.le (Nat.le_refl _) 6 1 S1.loc S1 w1 w1.loc (λh4=>by omega) (by omega) (by omega)
  have hR0:=hR
  rw[hR] at hC1
  have hln:S1.loc.length=n:=w1.loc.1
  repeat first|with_reducible refine GE.g ?_|simp only[hl1,e2,hle,decide_true,go_sem,simprocAttr]
  refine dl ([.b true,.n .i64 x,.n .i64 18]) (cw x 18) ?_
  repeat first|with_reducible refine GE.g ?_|simp only[go_sem,simprocAttr]
  refine dl ([.n .i64 x,.n .i64 mo,.fs 2 S1.loc.length (vC S1.loc)]) (Bi x mo S1.loc) ?_
  repeat first|with_reducible refine GE.g ?_|simp only[x0,xl,hpm,Int.toNat_natCast,go_sem,simprocAttr]
  refine GE.loop (I:=λf e H=>∃(pass:Int) (head:List Iv) (Sx:WS) (b0:Bd) (obx:Nat->Option OB),(f:Int)+pass=7/\1<=pass/\si n head/\WF n Sx/\(Sx.st.length<=32/\0<=Sx.ht/\Sx.ht<=32)/\gL (λS'=>aR cs la u h h S' (0,0)) m h (stoF cs x (m-x)) f pass head Sx=some R/\lK r obx Sx.lp/\e=az [(0,.p 0 0),(1,.n .i64 x),(6,.p 3 0),(8,.n .i64 mo),(9,.fs 2 head.length (vC head)),(10,.n .i64 m),(11,.n .i64 h),(12,.os 2 S1.lv.length),(13,.p 4 0),(14,.n .i64 pass)]/\H=aw obx [ae 0 130 [.n .i64 b0.1,.n .i64 b0.2],ae 0 130 [.n .i64 0,.n .i64 0],ai 46 1 S1.lv.length 0 (vH S1.lv),ai 221 3 Sx.st.length 0 (sC Sx.st),ae 0 124 (ZV la loc cs pt r Sx)]) (m:=6) (bX.mkO [4,3,2,1,0] [] ?_ ?_ ?_ ?_ (aA rfl)) ⟨1,S1.loc,S1,(0,0),ob,rfl,by decide,w1.loc,w1,⟨s1.st,s1.ht⟩,hR,by rw[w5];exact hM,rfl,rfl⟩ ?_
  ·simp only[eo,cQ,hh,go_sem,simprocAttr]
   repeat' refine aY ?_ ?_
   all_goals first|exact i8|skip
  ·exact .cr (.j2) (.cr (.j2) (.cr (.k2 (λ_ _ _ _=>rfl)) (.cr (.k2 (λi j _ _=>aG _ i j)) (.cr (.wk (hg:=λi hi=>by rcases qT hi with rfl|rfl|rfl|rfl|rfl|rfl|rfl|rfl|rfl|rfl|rfl<;>(simp only[go_sem,simprocAttr];first|exact Wv.same rfl|exact Wv.os rfl|exact .cv (.ow rfl)))) .nil))))
  ·simp
  ·intro r x h
   simp only[go_sem,simprocAttr]
   exact h
  rintro f e H ⟨pass,head,Sx,b0,obx,hfp,hp1,hhd,hWx,hSx,hs,hMx,rfl,rfl⟩
  cases f with
  |zero=>cases hs
  |succ f=>
  rw[gL] at hs
  have wb:WF n {Sx with loc:=head,lv:=[]}:=⟨hhd,hWx.st,λl hl=>by cases hl⟩
  have sb:Sm (x+1) {Sx with loc:=head,lv:=[]}:=⟨hSx.1,hSx.2,Nat.zero_le _⟩
  have hu:=hU (x+1) m h h {Sx with loc:=head,lv:=[]} obx g4 (by omega) (by omega) (by omega) wb sb hMx
  simp only[ZV]
  (try simp only[go_sem,simprocAttr])
  iterate 3 (with_reducible refine GE.go aD rfl ?_;try simp only[go_sem,simprocAttr])
  refine GE.cut (az [(0,.p 0 0),(1,.n .i64 x),(6,.p 4 0),(8,.n .i64 mo),(9,.fs 2 head.length (vC head)),(10,.n .i64 m),(11,.n .i64 h),(12,.os 3 S1.lv.length),(13,.p 5 0),(14,.n .i64 pass)]) (aw obx ([ae 0 130 [.n .i64 b0.1,.n .i64 b0.2],ae 0 130 [.n .i64 0,.n .i64 0],ai 46 1 S1.lv.length 0 (vH S1.lv)]++wH la loc cs pt r {Sx with loc:=head,lv:=[]})) ?_ ?_
  ·repeat first|with_reducible refine GE.g ?_|simp only[go_sem,simprocAttr]
   refine(bX.nilc 0 9 1 46 (x:=?x) ?hx ?hi (by decide) (by decide) ?hlv ?hv ?hn).trans (bX.mkO (ob:=obx) [4,3,2,5,1,0] [] ?_ ?_ ?_ ?_ (aA rfl))
   case hx=>simp only[go_sem,simprocAttr]<;>rfl
   case hi=>show 9<11;decide
   case hlv=>rfl
   case hv=>simp only[go_sem,simprocAttr]
   case hn=>simp only[go_sem,simprocAttr]<;>decide
   ·exact a8
   ·exact .cr (.j2) (.cr (.j2) (.cr (.k2 (λ_ _ _ _=>rfl)) (.cr (.rows (x:=_) (by simp only[go_sem,simprocAttr]<;>rfl) (by rfl) (by rfl) (by rfl) (Nat.zero_le _) (Nat.le_refl _) (by decide) (λi j h=>absurd h (Nat.not_lt_zero _)) (λi j h=>absurd h (Nat.not_lt_zero _))) (.cr (.k2 (λi j _ _=>aG _ i j)) (.cr .wk .nil)))))
   ·simp[wH]
   ·intro r x h
    simp only[go_sem,simprocAttr]
    exact h
  simp only[wH,dL,List.cons_append,List.nil_append]
  repeat first|with_reducible refine GE.g ?_|simp only[wx,go_sem,simprocAttr]
  refine bf la loc cs pt r obx (args2:=[.p 0 0,.n .i64 ((x+1:Nat)),.n .i64 m,.n .i64 h,.n .i64 h]) (L:=[(0,.p 0 0),(1,.n .i64 x),(6,.p 4 0),(8,.n .i64 mo),(9,.fs 2 head.length (vC head)),(10,.n .i64 m),(11,.n .i64 h),(12,.os 3 S1.lv.length),(13,.p 5 0),(14,.n .i64 pass)]) (bl2:=[ae 0 130 [.n .i64 b0.1,.n .i64 b0.2],ae 0 130 [.n .i64 0,.n .i64 0],ai 46 1 S1.lv.length 0 (vH S1.lv)]) {Sx with loc:=head,lv:=[]} [5,4,3,2,1,0] [] (hu) ?_ ?_ ?_ ?_ (by simp) rfl (by rfl) (by rfl) (.cons .lq (.cons .lq (.cons (.row (by decide) (λi j _ _=>rfl)) .nil))) ?_ ?_
  ·exact a8
  ·exact .cr (.j2) (.cr (.j2) (.cr (.k2 (λ_ _ _ _=>rfl)) (.cr (.k2 (λ_ _ _ _=>rfl)) (.cr (.k2 (λi j _ _=>aG _ i j)) (.cr .wk .nil)))))
  ·exact⟨Wv.p rfl,Wv.n rfl,Wv.n rfl,Wv.n rfl,Wv.n rfl,trivial⟩
  ·intro r x h
   simp only[go_sem,simprocAttr]
   exact h
  ·rintro v' H' ⟨S2,bx,ob2,hu2,rfl,hM2,rfl⟩
   refine⟨S2,ob2,rfl,?_⟩
   simp only[wH,dL,List.cons_append,List.nil_append,gQ]
   rw[hu2] at hs
   dsimp only at hs
   have w6:=hB _ _ _ hu2 wb
   have s2:=ch u (x+1) m h h g4 hu2 sb
   have hlvl:=ir la loc cs pt r ob2 m h S2 (by have:=s2.st;omega)
   repeat first|with_reducible refine GE.g ?_|simp only[go_sem,simprocAttr]
   refine bf la loc cs pt r ob2 (args2:=[.p 0 0,.n .i64 m,.n .i64 h]) (L:=[(0,.p 0 0),(1,.n .i64 x),(6,.p 4 0),(8,.n .i64 mo),(9,.fs 2 head.length (vC head)),(10,.n .i64 m),(11,.n .i64 h),(12,.os 3 S1.lv.length),(13,.p 5 0),(14,.n .i64 pass)]) (bl2:=[ae 0 130 [.n .i64 bx.1,.n .i64 bx.2],ae 0 130 [.n .i64 0,.n .i64 0],ai 46 1 S1.lv.length 0 (vH S1.lv)]) S2 [5,4,3,2,1,0] [] (hlvl) ?_ ?_ ?_ ?_ (by simp) rfl (by rfl) (by rfl) (.cons .lq (.cons .lq (.cons (.row (by decide) (λi j _ _=>rfl)) .nil))) ?_ ?_
   ·exact a8
   ·exact .cr (.j2) (.cr (.j2) (.cr (.k2 (λ_ _ _ _=>rfl)) (.cr (.k2 (λ_ _ _ _=>rfl)) (.cr (.k2 (λi j _ _=>aG _ i j)) (.cr .wk .nil)))))
   ·exact⟨Wv.p rfl,Wv.n rfl,Wv.n rfl,trivial⟩
   ·intro r x h
    simp only[go_sem,simprocAttr]
    exact h
   ·rintro v' H' ⟨hl,rfl,rfl⟩
    refine⟨S2,ob2,rfl,?_⟩
    simp only[wH,dL,List.cons_append,List.nil_append]
    have hl2:S2.st.length=h:=by
     unfold lD at hl
     split at hl
     ·assumption
     ·cases hl
    rw[if_pos hl2] at hs
    have hS2n:S2.loc.length=n:=w6.1.wf.loc.1
    have hhn:head.length=n:=hhd.1
    repeat first|with_reducible refine GE.g ?_|simp only[go_sem,simprocAttr]
    refine dl ([.fs 2 S2.loc.length (vC S2.loc),.fs 2 head.length (vC head)]) (qn S2.loc head (by omega) (by omega)) ?_
    obtain⟨mx,hmx,hown,hget⟩:=hM2
    by_cases hw:b7 S2.loc head=true
    ·rw[if_pos hw] at hs
     obtain rfl:=Option.some.inj hs
     dsimp only at hC1
     repeat first|with_reducible refine GE.g ?_|simp only[hw,go_sem,simprocAttr]
     refine KB ([.fs 2 head.length (vC head)]) (rI head (by omega)) ?_
     repeat first|with_reducible refine GE.g ?_|simp only[hmx,hown,rJ,yd,go_sem,simprocAttr]
     obtain⟨obm,hobm⟩:∃obm,obm=(oa (CI ob2) r (.mp (mx.put x (.agg [.n .i64 x,.n .i64 mo,.ow])))):=⟨_,rfl⟩
     refine GE.loop (I:=λmm e H=>∃(k:Nat) (acc:List Iv),mm=S2.lv.length-k/\k<=S2.lv.length/\acc=(S2.lv.take k).foldl bL head/\e=az [(0,.p 0 0),(6,.p 4 0),(8,.n .i64 mo),(10,.n .i64 m),(12,.os 3 S1.lv.length),(13,.p 5 0),(117,.os 2 S2.lv.length),(118,.n .i64 S2.lv.length),(119,.n .i64 k)]/\H=aw obm ([ae 0 130 [.n .i64 bx.1,.n .i64 bx.2],ae 0 130 [.n .i64 0,.n .i64 0],ai 46 1 S1.lv.length 0 (vH S1.lv)]++wH la loc cs pt r {S2 with loc:=acc})) (m:=S2.lv.length) (bX.mkO (ob:=obm) [5,4,3,2,1,0] [] ?_ ?_ ?_ ?_ (aA rfl)) ⟨0,head,rfl,Nat.zero_le _,rfl,rfl,rfl⟩ ?_
     ·exact a8
     ·exact .cr (.j2) (.cr (.j2) (.cr (.k2 (λ_ _ _ _=>rfl)) (.cr (.k2 (λ_ _ _ _=>rfl)) (.cr (.k2 (λi j _ _=>aG _ i j)) (.cr .wk .nil)))))
     ·simp[wH]
     ·intro r x h
      simp only[go_sem,simprocAttr]
      rw[hobm] at h
      exact h
     rintro mm e H ⟨k,acc,rfl,hk,hacc,rfl,rfl⟩
     simp only[wH,dL,List.cons_append,List.nil_append]
     have k0:(0:Int)<=(k:Int):=by omega
     have hlv:=s2.lv
     have haccn:acc.length=n:=by rw[hacc];exact(iA _ _ hhd).1
     by_cases hkn:k<S2.lv.length
     ·have hki:(k:Int)<S2.lv.length:=by omega
      have hk1:k+1<=S2.lv.length:=hkn
      have wk:IntKind.i64.wrap ((k:Int)+1)=((k+1:Nat):Int):=(aj (by omega)).trans (by omega)
      have hgk:(ai 46 1 S2.lv.length 0 (vH S2.lv)).get k= .fs 2 (S2.lv.getD k []).length (vC (S2.lv.getD k [])):=by
       have:=aJ (ty:=46) (esz:=1) (n:=S2.lv.length) (z:=0) (row:=vH S2.lv) k 0 (by decide)
       rw[Nat.mul_one,Nat.add_zero] at this
       exact this
      have hlk:(S2.lv.getD k []).length=n:=by
       rw[List.getD_eq_getElem?_getD,List.getElem?_eq_getElem hkn]
       exact(w6.1.wf.lv _ (List.getElem_mem hkn)).1
      repeat first|with_reducible refine GE.g ?_|simp only[k0,hki,hkn,hk1,hgk,Nat.mul_one,Int.toNat_natCast,decide_true,go_sem,simprocAttr]
      refine dl ([.fs 2 acc.length (vC acc),.fs 2 (S2.lv.getD k []).length (vC (S2.lv.getD k []))]) (kv acc (S2.lv.getD k []) (by omega) (by omega)) ?_
      repeat first|with_reducible refine GE.g ?_|simp only[wk,go_sem,simprocAttr]
      refine⟨_,_,_,?_,bX.mkO (ob:=obm) (bl:=[ae 0 130 [.n .i64 bx.1,.n .i64 bx.2],ae 0 130 [.n .i64 0,.n .i64 0],ai 46 1 S1.lv.length 0 (vH S1.lv)]++wH la loc cs pt r {S2 with loc:=bL acc (S2.lv.getD k [])}) [5,4,3,2,1,0] [6] ?_ ?_ ?_ ?_ (aA rfl),k+1,_,rfl,by omega,?_,rfl,rfl⟩
      ·omega
      ·exact a8
      ·simp only[wH,dL,eR]
       exact .cr (.j2) (.cr (.j2) (.cr (.k2 (λ_ _ _ _=>rfl)) (.cr (.k2 (λ_ _ _ _=>rfl)) (.cr (.k2 (λi j _ _=>aG _ i j)) (.cr (.wk (hg:=λi hi=>by rcases qT hi with rfl|rfl|rfl|rfl|rfl|rfl|rfl|rfl|rfl|rfl|rfl<;>(simp only[go_sem,simprocAttr];first|exact Wv.same rfl|exact Wv.os rfl|exact .cv (.ownb (ty:=127) (z:=0) (by simp only[go_sem,simprocAttr]<;>rfl) (λi j _ _=>du _ i j) (by simp))))) .nil)))))
      ·simp[wH]
      ·intro r x h
       simp only[go_sem,simprocAttr]
       exact h
      ·rw[hacc,List.take_add_one,List.getElem?_eq_getElem hkn,List.foldl_append,List.getD_eq_getElem?_getD,List.getElem?_eq_getElem hkn]
       rfl
     ·have hki:¬(k:Int)<S2.lv.length:=by omega
      have hall:acc=S2.lv.foldl bL head:=by rw[hacc,List.take_of_length_le (by omega)]
      repeat first|with_reducible refine GE.g ?_|simp only[hki,decide_false,go_sem,simprocAttr]
      refine dl ([gQ bx,.n .i64 mo]) (sr bx mo w6.2 ⟨by rw[hmo];have:=hmo2.1;have:=hmo2.2.1;omega,hle⟩) ?_
      simp only[gQ]
      repeat first|with_reducible refine GE.g ?_|simp only[go_sem,simprocAttr]
      refine dl ([gQ (fB bx mo),gQ (1,0)]) (iL _ _ (Ak w6.2 (by rw[hmo];have:=hmo2.1;have:=hmo2.2.1;omega)) kt) ?_
      simp only[gQ]
      repeat first|with_reducible refine GE.g ?_|simp only[go_sem,simprocAttr]
      rw[<-hall] at hC1
      exact xc (ob:=obm) [3,1,0] [] (.tup [gQ (bw (fB bx mo) (1,0)),.n .i64 (m:Nat)]) (wH la loc cs pt r {S2 with loc:=acc,lv:=S1.lv,lp:=fP S2.lp x mo}) (.cr (.k2 (λ_ _ _ _=>rfl)) (.cr (.k2 (λi j _ _=>aG _ i j)) (.cr .wk .nil))) (.cv (.rfl rfl)) (by simp[wH]) (λr x h=>by simp only[go_sem,simprocAttr];exact h) (aA rfl) ⟨_,_,obm,hC1,rfl,by rw[hobm];exact lK.put hmx hown hget x mo,rfl⟩
    ·rw[if_neg hw] at hs
     have hw':b7 S2.loc head=false:=by simpa using hw
     repeat first|with_reducible refine GE.g ?_|simp only[hw',go_sem,simprocAttr]
     refine dl ([.n .i64 x,.n .i64 m,.n .i64 pass,.fs 2 head.length (vC head),.fs 2 S2.loc.length (vC S2.loc),.fp 3 (AL la loc cs) 0]) (Bh la loc cs hcs x m (by omega) (by omega) pass head S2.loc (by omega) (by omega)) ?_
     have wp:IntKind.i64.wrap (pass+1)=pass+1:=aj (by omega)
     repeat first|with_reducible refine GE.g ?_|simp only[wp,go_sem,simprocAttr]
     refine⟨f,_,_,Nat.lt_succ_self f,bX.mkO (ob:=ob2) (bl:=[ae 0 130 [.n .i64 bx.1,.n .i64 bx.2],ae 0 130 [.n .i64 0,.n .i64 0],ai 46 1 S1.lv.length 0 (vH S1.lv),ai 221 3 S2.st.length 0 (sC S2.st),ae 0 124 (ZV la loc cs pt r S2)]) [5,4,3,1,0] [6] ?_ ?_ ?_ ?_ (aA rfl),pass+1,dY (stoF cs x (m-x)) pass 0 head S2.loc,S2,bx,ob2,by omega,by omega,gB hhd _ _ _ _,w6.1.wf,⟨s2.st,s2.ht⟩,hs,⟨mx,hmx,hown,hget⟩,rfl,rfl⟩
     ·simp only[eo,cQ,jA,go_sem,simprocAttr]
      repeat' refine aY ?_ ?_
      all_goals first|exact i8|skip
      exact .cv (.ownb (ty:=127) (z:=0) (by simp only[go_sem,simprocAttr]<;>rfl) (λi j _ _=>du _ i j) (by simp))
     ·exact .cr (.j2) (.cr (.j2) (.cr (.k2 (λ_ _ _ _=>rfl)) (.cr (.k2 (λi j _ _=>aG _ i j)) (.cr (.wk (hg:=λi hi=>by rcases qT hi with rfl|rfl|rfl|rfl|rfl|rfl|rfl|rfl|rfl|rfl|rfl<;>(simp only[go_sem,simprocAttr];first|exact Wv.same rfl|exact Wv.os rfl|exact .cv (.ow rfl)))) .nil))))
     ·simp
     ·intro r x h
      simp only[go_sem,simprocAttr]
      exact h
   ·rintro c H' ⟨e,he,rfl⟩
    unfold lD at he
    split at he
    ·cases he
    ·rename_i hne
     rw[if_neg hne] at hs
     cases he
     obtain rfl:=Option.some.inj hs
     exact⟨_,hC1,rfl⟩
  ·rintro c H' ⟨e,he,rfl⟩
   rw[he] at hs
   obtain rfl:=Option.some.inj hs
   exact⟨e,hC1,rfl⟩
 ·rintro c H' ⟨e,he,rfl⟩
  exact⟨e,by unfold jV;rw[he],rfl⟩
end
end Go.Proofs.YtdpkgnmmikebdaaGreat