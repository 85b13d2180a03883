/- A part of the proof of CostAdds: VfI VfJ VfK VfL VfN VfO VfP. No condition. -/
import Derived.Test.YtdpkgnmmikebdaaGreatGg28
import Derived.Test.YtdpkgnmmikebdaaGreatGg29
import Derived.Test.YtdpkgnmmikebdaaGreatGg24
import Derived.Test.YtdpkgnmmikebdaaGreatGg26
set_option linter.unusedSimpArgs false
set_option linter.unusedVariables false
set_option linter.constructorNameAsVariable false
set_option maxRecDepth 100000
set_option maxHeartbeats 4000000
namespace Go.Proofs.YtdpkgnmmikebdaaGreat
open Go.RowKit
def vC(l:List Iv)(i j:Nat):AV:=if j=0 then .n .i64 (l.getD i (0,0)).1 else .n .i64 (l.getD i (0,0)).2
theorem Bh(l:List Iv)(i:Nat):vC l i 0= .n .i64 (l.getD i (0,0)).1:=rfl
theorem Bg(l:List Iv)(i:Nat):vC l i 1= .n .i64 (l.getD i (0,0)).2:=rfl
theorem dk(l:List Iv)(i j:Nat):(vC l i j).cell=true:=by unfold vC;split<;>rfl
theorem lZ(l:List Iv)(i j:Nat):(vC l i j).pu 3=true:=by unfold vC;split<;>rfl
theorem yx{j:Nat}(h:j<2):j=0\/j=1:=by omega
theorem ks(x y:List Iv)(hxy:x.length<=y.length)(hn:x.length<100000):bN Tryz.prog 120 [.fs 2 x.length (vC x),.fs 2 y.length (vC y)] [.o 127 2 x.length 0 (vC (bL x y))]:=by
 refine ag aF QI ⟨by simp,by decide⟩ ?_
 simp only[aH]
 repeat first|with_reducible refine ao ?_|simp only[go_sem,simprocAttr]
 refine bO ([.fs 2 x.length (vC x)]) (gx (by omega) (λi j _ _=>dk x i j)) ?_
 repeat first|with_reducible refine ao ?_|simp only[go_sem,simprocAttr]
 refine GA.loop (I:=λm e H=>∃k:Nat,m=x.length-k/\k<=x.length/\e=aB [(0,.fs 2 x.length (vC x)),(1,.fs 2 y.length (vC y)),(5,.os 0 x.length),(10,.n .i64 x.length),(11,.n .i64 k)]/\H=ah [ai 127 2 x.length 0 (λi j=>if i<k then vC (bL x y) i j else vC x i j)]) (Wk.mk [0] [] ?_ ?_ ?_) ⟨0,rfl,by omega,rfl,rfl⟩ ?_
 ·exact ba
 ·exact .cr (.same (by simp only[go_sem,simprocAttr]<;>rfl) rfl (by decide) (λi j h hj=>rfl) (λi j _ _=>lZ x i j)) .nil
 ·simp
 rintro m e H ⟨k,rfl,hk,rfl,rfl⟩
 have h0:(0:Int)<=(k:Int):=by omega
 have hrp:∀i j,((λi j=>if i<k then vC (bL x y) i j else vC x i j:Nat->Nat->AV) i j).pu 3=true:=λi j=>by dsimp only;split<;>exact lZ _ _ _
 by_cases hkn:k<x.length
 ·have hki:(k:Int)<x.length:=by omega
  have hkj:(k:Int)<y.length:=by omega
  have hk1:k*2+2<=x.length*2:=by omega
  have wk:IntKind.i64.wrap ((k:Int)+1)=((k+1:Nat):Int):=(am (by omega)).trans (by omega)
  repeat first|with_reducible refine ao ?_|simp only[h0,hki,hkj,Bh,Bg,decide_true,Int.toNat_natCast,go_sem,simprocAttr]
  refine bO ([iv (x.getD k (0,0)),iv (y.getD k (0,0))]) (mP _ _) ?_
  simp only[iv]
  repeat first|with_reducible refine ao ?_|simp only[h0,hki,hkn,hk1,wk,Int.toNat_natCast,go_sem,simprocAttr]
  refine⟨_,_,_,?_,Wk.mk [0] [] ?_ ?_ ?_,k+1,rfl,by omega,rfl,rfl⟩
  ·omega
  ·exact ba
  ·refine .cr (.put (q:=k) (by simp only[go_sem,simprocAttr]<;>rfl) (by simp) rfl hkn rfl (by decide) (by omega) (λi j h hj=>?_) (λi j _ _=>by split<;>exact lZ _ _ _)) .nil
   by_cases e:i=k
   ·subst e
    rw[if_pos rfl,if_pos (by omega)]
    rcases yx hj with rfl|rfl
    ·rw[Bh,iY x y i hkn];rfl
    ·rw[Bg,iY x y i hkn];rfl
   ·rw[if_neg e]
    by_cases h9:i<k
    ·rw[if_pos h9,if_pos (by omega)]
    ·rw[if_neg h9,if_neg (by omega)]
  ·simp
 ·have hki:¬(k:Int)<x.length:=by omega
  obtain rfl:k=x.length:=by omega
  repeat first|with_reducible refine ao ?_|simp only[hki,decide_false,go_sem,simprocAttr]
  exact⟨[_],rfl,.inr ⟨0,rfl,by simp,_,by simp only[go_sem,simprocAttr]<;>rfl,rfl,rfl,by decide,rfl,Nat.le_refl _,Nat.le_refl _,λi j hi hj=>(aK i j hj).trans (if_pos hi),λi j _ _=>dk _ i j⟩,rfl,trivial⟩
theorem kV:∀(x y:List Iv),x.length≠y.length->b9 x y=false
 |[],[],h=>absurd rfl h
 |[],_::_,_=>rfl
 |_::_,[],_=>rfl
 |a::x,b::y,h=>by simp only[b9,kV x y (by simpa using h),Bool.and_false]
theorem oT{x y:List Iv}{k:Nat}(hx:k<x.length)(hy:k<y.length):b9 (x.drop k) (y.drop k)=(dh (x.getD k (0,0)) (y.getD k (0,0))&&b9 (x.drop (k+1)) (y.drop (k+1))):=by
 rw[cF (d:=(0,0)) hx,cF (d:=(0,0)) hy,b9]
theorem Be(x y:List Iv)(hn:x.length<100000)(hm:y.length<100000):bN Tryz.prog 171 [.fs 2 x.length (vC x),.fs 2 y.length (vC y),.f 172 [] []] [.v (.b (b9 x y))]:=by
 refine ag aF P4 ⟨by simp,by decide⟩ ?_
 simp only[aH]
 by_cases hl:x.length=y.length
 rotate_left
 ·have hl':¬(x.length:Int)=y.length:=by omega
  repeat first|with_reducible refine ao ?_|simp only[hl',ne_eq,not_false_eq_true,decide_true,decide_false,Bool.not_false,go_sem,simprocAttr]
  exact aa (by rw[kV x y hl]) rfl
 have hl':(x.length:Int)=y.length:=by omega
 repeat first|with_reducible refine ao ?_|simp only[hl',ne_eq,not_true_eq_false,decide_true,decide_false,Bool.not_true,go_sem,simprocAttr]
 refine GA.loop (I:=λm e H=>∃k:Nat,m=x.length-k/\k<=x.length/\b9 x y=b9 (x.drop k) (y.drop k)/\e=aB [(1,.fs 2 y.length (vC y)),(2,.f 172 [] []),(15,.fs 2 x.length (vC x)),(16,.n .i64 y.length),(17,.n .i64 k)]/\H=ah []) (Wk.mk [] [] ?_ ?_ ?_) ⟨0,rfl,by omega,rfl,rfl,rfl⟩ ?_
 ·exact ba
 ·trivial
 ·decide
 rintro m e H ⟨k,rfl,hk,hs,rfl,rfl⟩
 have h0:(0:Int)<=(k:Int):=by omega
 by_cases hkn:k<x.length
 ·have hki:(k:Int)<x.length:=by omega
  have hkj:(k:Int)<y.length:=by omega
  have wk:IntKind.i64.wrap ((k:Int)+1)=((k+1:Nat):Int):=(am (by omega)).trans (by omega)
  rw[oT hkn (by omega)] at hs
  repeat first|with_reducible refine ao ?_|simp only[h0,hki,hkj,Bh,Bg,decide_true,Int.toNat_natCast,go_sem,simprocAttr]
  refine bO ([iv (x.getD k (0,0)),iv (y.getD k (0,0))]) (px _ _) ?_
  cases hw:dh (x.getD k (0,0)) (y.getD k (0,0))
  ·repeat first|with_reducible refine ao ?_|simp only[Bool.not_false,go_sem,simprocAttr]
   exact aa (by rw[hs,hw];rfl) rfl
  ·repeat first|with_reducible refine ao ?_|simp only[wk,Bool.not_true,go_sem,simprocAttr]
   refine⟨_,_,_,?_,Wk.mk [] [] ?_ ?_ ?_,k+1,rfl,by omega,by rw[hs,hw];rfl,rfl,rfl⟩
   ·omega
   ·exact ba
   ·trivial
   ·decide
 ·have hki:¬(k:Int)<y.length:=by omega
  repeat first|with_reducible refine ao ?_|simp only[hki,decide_false,go_sem,simprocAttr]
  exact aa (by rw[hs,List.drop_eq_nil_of_le (by omega),List.drop_eq_nil_of_le (by omega)];rfl) rfl
theorem qi(x y:List Iv)(hn:x.length<100000)(hm:y.length<100000):bN Tryz.prog 121 [.fs 2 x.length (vC x),.fs 2 y.length (vC y)] [.v (.b (b9 x y))]:=by
 refine ag aF P8 ⟨by simp,by decide⟩ ?_
 simp only[aH]
 repeat first|with_reducible refine ao ?_|simp only[go_sem,simprocAttr]
 refine bO ([.fs 2 x.length (vC x),.fs 2 y.length (vC y),.f 172 [] []]) (Be x y hn hm) ?_
 repeat first|with_reducible refine ao ?_|simp only[go_sem,simprocAttr]
 exact aa rfl rfl
/-! ### what is demanded-/
def ea(at_ e:Int):List PanicEntry:=[{v:= .iface 118 (.agg #[.int .i64 at_,.int .i64 e]),recovered:=false}]
theorem xv(a n:Int)(w:World):
  Calls Tryz.prog 64 #[.int .i64 a,.int .i64 n] w λe w'=>e= .panicked (ea a n)/\Below w.heap.size w w':=by
 go_enter Tryz.func64,Tryz.ntmps64
 go_wp2
 exact(⟨rfl,rfl,Below.refl _ _⟩:_/\_/\_)
theorem Ia{σ:Sg}{k k':IntKind}{a n:Int}{args':Array Value}(h:a8 σ [.n k a,.n k' n] args'.toList):args'= #[.int k a,.int k' n]:=by
 obtain⟨l⟩:=args'
 obtain⟨h1,h2⟩:=h
 match l,h1 with
 |[x,y],_=>
  have e0:=h2 0 _ rfl
  have e1:=h2 1 _ rfl
  simp only[List.getD_cons_zero,List.getD_cons_succ] at e0 e1
  cases e0;cases e1
  rfl
theorem xu:nN Tryz.prog 64:=⟨_,Tryz.func64,by kernel_rfl,rfl⟩
theorem uT(a n:Int):Kp Tryz.prog 64 [.n .i64 a,.n .i64 n] (ea a n):=by
 refine⟨xu,λφ w args' hφ ha=>?_⟩
 obtain rfl:=Ia ha
 exact xv a n w
theorem cy(a n:Int):bN Tryz.prog 33 [.b true,.n .i64 a,.n .i64 n] []:=by
 refine ag aF CW ⟨by simp,by decide⟩ ?_
 simp only[aH]
 repeat first|with_reducible refine ao ?_|simp only[go_sem,simprocAttr]
 exact⟨[],rfl,trivial⟩
theorem cV(a n:Int):Kp Tryz.prog 33 [.b false,.n .i64 a,.n .i64 n] (ea a n):=by
 refine x5 (cI CW ⟨by simp,by decide⟩ ?_)
 simp only[aH]
 repeat first|with_reducible refine GE.g ?_|simp only[go_sem,simprocAttr]
 exact aM [] (fargs:=[.n .i64 a,.n .i64 n]) (cm.same rfl) (uT a n) rfl
def sC(l:List Vl)(i j:Nat):AV:=if j=0 then .b (l.getD i v0).1 else if j=1 then .n .i64 (l.getD i v0).2.1 else .n .i64 (l.getD i v0).2.2
theorem Kk(l:List Vl)(i:Nat):sC l i 0= .b (l.getD i v0).1:=rfl
theorem IB(l:List Vl)(i:Nat):sC l i 1= .n .i64 (l.getD i v0).2.1:=rfl
theorem C5(l:List Vl)(i:Nat):sC l i 2= .n .i64 (l.getD i v0).2.2:=rfl
theorem eY(l:List Vl)(i j:Nat):(sC l i j).cell=true:=by unfold sC;(repeat' split)<;>rfl
theorem aL(l:List Vl)(i j:Nat):(sC l i j).pu 3=true:=by unfold sC;(repeat' split)<;>rfl
theorem VB(l:List Vl)(i j:Nat):(sC l i j).sc 3=true:=by unfold sC;(repeat' split)<;>rfl
theorem VC(l:List Vl)(p:Nat->Bool)(i j:Nat):(sC l i j).nm p 3=true:=by unfold sC;(repeat' split)<;>rfl
theorem Bt(l:List Vl)(q i j:Nat):sC (l.drop q) i j=sC l (q+i) j:=by simp only[sC,List.getD_eq_getElem?_getD,List.getElem?_drop]
theorem Bs(l:List Vl)(q i j:Nat)(h:i<q):sC (l.take q) i j=sC l i j:=by simp only[sC,List.getD_eq_getElem?_getD,List.getElem?_take,if_pos h]
def vD(l:List (List Iv))(i _j:Nat):AV:= .fs 2 (l.getD i []).length (vC (l.getD i []))
def Ax(la:List (Bool×Int))(loc:Int)(cs:List (Int×Int))(j:Nat):AV:=if j=0 then .fs 2 la.length (pA la) else if j=1 then .n .i64 loc else .fs 2 cs.length (pI cs)
def dB(la:List (Bool×Int))(loc:Int)(cs:List (Int×Int))(pt:List Int)(r:Nat)(S:WS):List AV:=
 [.fs 2 la.length (pA la),.n .i64 loc,.fs 2 cs.length (pI cs),.fs 1 pt.length (iC pt),.f 57 [] [],.f 58 [] [.fp 3 (Ax la loc cs) 0],.fs 2 S.loc.length (vC S.loc),.os 1 S.st.length,.n .i64 S.ht,.os 2 S.lv.length,.cv (.map (some r))]
def wH(la:List (Bool×Int))(loc:Int)(cs:List (Int×Int))(pt:List Int)(r:Nat)(S:WS):List AB:=
 [ai 46 1 S.lv.length 0 (vD S.lv),ai 221 3 S.st.length 0 (sC S.st),ae 0 124 (dB la loc cs pt r S)]
theorem qS{i:Nat}(h:i<11):i=0\/i=1\/i=2\/i=3\/i=4\/i=5\/i=6\/i=7\/i=8\/i=9\/i=10:=by omega
theorem c9.wk{r:Nat->Option Nat}{M:List Nat}{H:AH}{b ty:Nat}{l:List AV}{x:AB}(hx:H.at b=some x:=by simp only[go_sem,simprocAttr]<;>rfl)(h1:x.ty=ty:=by rfl)(h2:x.esz=0:=by rfl)(h3:x.opn=false:=by rfl)(h4:x.size=l.length:=by rfl)(h5:x.fzn=0:=by rfl)(hM:M.contains b=false:=by rfl)(hl:l.length=11:=by rfl)
  (hg:∀i,i<11->Wv r M H (x.get i) (l[i]?.getD .u):=by intro i hi;rcases(show i=0\/i=1\/i=2\/i=3\/i=4\/i=5\/i=6\/i=7\/i=8\/i=9\/i=10 from qS hi) with rfl|rfl|rfl|rfl|rfl|rfl|rfl|rfl|rfl|rfl|rfl<;>(simp only[go_sem,simprocAttr];first|exact Wv.same rfl|exact Wv.os rfl)):c9 r M H b (ae 0 ty l):=
 .lstj hx h1 h2 h3 h4 h5 hM (by omega) (λi hi=>hg i (by omega))
def Ib{α:Type}(r:Except Er α)(c:List PanicEntry)(_:AH):Prop:=∃x,r= .error x/\c=ea x.1 x.2
section
variable (la:List (Bool×Int)) (loc:Int) (cs:List (Int×Int)) (pt:List Int) (r:Nat) (ob:Nat->Option OB)
def lF(p:Int)(h:Nat)(S:WS):Except Er Unit:=if S.st.length=h then .ok () else .error (p,14)
theorem ij(p:Int)(h:Nat)(S:WS)(hS:S.st.length<100000):PC Tryz.prog bG 56 [.p 0 0,.n .i64 p,.n .i64 h] (az ob (wH la loc cs pt r S)) (λv H'=>lF p h S= .ok ()/\v= .tup []/\H'=az ob (wH la loc cs pt r S)) (Ib (lF p h S)):=by
 refine PC.vw (cI QO ⟨by simp,by decide⟩ ?_)
 simp only[aH,wH,dB]
 by_cases e:S.st.length=h
 ·have e':(S.st.length:Int)=h:=by omega
  repeat first|with_reducible refine GE.g ?_|simp only[e',decide_true,go_sem,simprocAttr]
  refine dd ([.b true,.n .i64 p,.n .i64 14]) (cy p 14) ?_
  repeat first|with_reducible refine GE.g ?_|simp only[go_sem,simprocAttr]
  exact wZ (ob:=ob) [2,1,0] [] (.tup []) _ (.cr (.k2 (λ_ _ _ _=>rfl)) (.cr (.k2 (λi j _ _=>aL _ i j)) (.cr .wk .nil))) (.cv (.rfl rfl)) (by simp) (λr x h=>by simp only[go_sem,simprocAttr];exact h) (aC rfl) ⟨if_pos e,rfl,rfl⟩
 ·have e':¬(S.st.length:Int)=h:=by omega
  repeat first|with_reducible refine GE.g ?_|simp only[e',decide_false,go_sem,simprocAttr]
  exact aM [] (fargs:=[.b false,.n .i64 p,.n .i64 14]) (cm.same rfl) (cV p 14) ⟨(p,14),if_neg e,rfl⟩
/-! ### push-/
theorem c9.appfn{ro:Nat->Option Nat}{M:List Nat}{H:AH}{b ty esz n k z o:Nat}{row row1 row2:Nat->Nat->AV}(hx:H.at b=some ((ai ty esz n z row).app o (.fn (k*esz) λi=>row1 (i / esz) (i%esz))))(ho:o=n*esz)(hM:M.contains b=false)(h0:0<esz)(hn:(n+k)*esz<2^40)
  (h1:∀i j,i<n->j<esz->row2 i j=row i j) (h2:∀i j,i<k->j<esz->row2 (n+i) j=row1 i j) (hc:∀i j,i<n+k->j<esz->(row2 i j).pu 3=true):c9 ro M H b (ai ty esz (n+k) z row2):=by
 subst ho
 refine c9.rows hx (AB.app_rest _ _ _).2.1 (AB.app_rest _ _ _).1 (AB.app_rest _ _ _).2.2.1 ?_ ?_ h0 (λi j hi hj=>?_) hc
 ·rw[AB.app_size];simp only[dg.len,Nat.add_mul];exact Nat.le_refl _
 ·rw[if_neg (by simpa using hM),(AB.app_rest _ _ _).2.2.2.2];exact Nat.le_refl _
 ·rw[jB hj hi hn]
  by_cases h:n<=i
  ·rw[if_pos h,<-h2 (i-n) j (by omega) hj,show n+(i-n)=i by omega]
  ·rw[if_neg h,aK i j hj,h1 i j (by omega) hj]
theorem ep(p:Int)(l:List Vl)(hl:0<l.length/\l.length<1000)(S:WS)(hS:S.st.length<1000)(hht:0<=S.ht/\S.ht<1000000):PC Tryz.prog bG 124 [.p 0 0,.n .i64 p,.fs 3 l.length (sC l)] (az ob (wH la loc cs pt r S)) (λv H'=>∃S',bX p l S= .ok S'/\v= .tup []/\H'=az ob (wH la loc cs pt r S')) (Ib (bX p l S)):=by
 refine PC.vw (cI Po ⟨by simp,by decide⟩ ?_)
 simp only[aH,wH,dB]
 have hap:((S.st.length+l.length)*3<1099511627776/\(S.st.length+l.length)*24<=140737488355328)/\S.st.length+l.length<=9223372036854775807:=⟨⟨by omega,by omega⟩,by omega⟩
 have hlen:(S.st++l).length=S.st.length+l.length:=List.length_append
 by_cases e:S.st.length+l.length<=32
 ·have e':((S.st.length+l.length:Nat):Int)<=32:=by omega
  repeat first|with_reducible refine GE.g ?_|simp only[hap,e',decide_true,go_sem,simprocAttr]
  refine dd ([.b true,.n .i64 p,.n .i64 14]) (cy p 14) ?_
  repeat first|with_reducible refine GE.g ?_|simp only[go_sem,simprocAttr]
  refine wZ (ob:=ob) [2,3,0] [] (.tup []) (wH la loc cs pt r {S with st:=S.st++l,ht:=aU S.ht ((S.st++l).length:Nat)}) ?_ (.cv (.rfl rfl)) (by simp[wH]) (λr x h=>by simp only[go_sem,simprocAttr];exact h) (aC rfl) ⟨_,if_pos (by omega),rfl,rfl⟩
  simp only[wH,dB,hlen]
  refine .cr (.k2 (λ_ _ _ _=>rfl)) (.cr (.appfn (row1:=sC l) (by simp only[go_sem,simprocAttr]<;>rfl) rfl rfl (by decide) (by omega) (λi j hi hj=>?_) (λi j hi hj=>?_) (λi j _ _=>aL _ i j)) (.cr .wk .nil))
  ·simp only[sC,List.getD_eq_getElem?_getD,List.getElem?_append_left hi]
  ·simp only[sC,List.getD_eq_getElem?_getD,List.getElem?_append_right (Nat.le_add_right _ _),Nat.add_sub_cancel_left]
 ·have e':¬((S.st.length+l.length:Nat):Int)<=32:=by omega
  repeat first|with_reducible refine GE.g ?_|simp only[hap,e',decide_false,go_sem,simprocAttr]
  exact aM [] (fargs:=[.b false,.n .i64 p,.n .i64 14]) (cm.same rfl) (cV p 14) ⟨(p,14),if_neg (by omega),rfl⟩
/-! ### pop-/
theorem mX:nP 9 .b (.b true) (.b true)=some true:=id rfl
theorem mY:nP 9 .b (.b true) (.b false)=some false:=id rfl
theorem mZ:nP 9 .b (.b false) (.b true)=some false:=id rfl
theorem m8:nP 9 .b (.b false) (.b false)=some true:=id rfl
theorem vo{l:List Vl}{ty:List UInt8}{j:Nat}(h1:j<l.length)(h2:j<ty.length):jR (l.drop j) (ty.drop j)=(V5 (ty.getD j 0) (l.getD j v0)&&jR (l.drop (j+1)) (ty.drop (j+1))):=by
 rw[cF (d:=v0) h1,cF (d:=0) h2,jR]
theorem Kb{ty:List UInt8}{j:Nat}(h:j<ty.length):(ByteArray.mk ty.toArray)[j]? =some (ty.getD j 0):=by
 rw[List.getD_eq_getElem?_getD,List.getElem?_eq_getElem h]
 have hs:j<(ByteArray.mk ty.toArray).size:=by simpa [ByteArray.size] using h
 rw[getElem?_pos (ByteArray.mk ty.toArray) j hs]
 rfl
theorem pe(p:Int)(base:Nat)(ty:List UInt8)(hty:ty.length<100)(hbase:base<100000)(S:WS)(hS:S.st.length<1000):PC Tryz.prog bG 88 [.p 0 0,.n .i64 p,.n .i64 base,.s ⟨ty.toArray⟩] (az ob (wH la loc cs pt r S)) (λv H'=>∃l S',eS p base ty S= .ok (l,S')/\v= .fs 3 l.length (sC l)/\H'=az ob (wH la loc cs pt r S')) (Ib (eS p base ty S)):=by
 refine PC.vw (cI Q3 ⟨by simp,by decide⟩ ?_)
 simp only[aH,wH,dB]
 have hts:(ByteArray.mk ty.toArray).size=ty.length:=by simp[ByteArray.size]
 have w:IntKind.i64.wrap ((S.st.length:Int)-ty.length)=(S.st.length:Int)-ty.length:=am (by omega)
 by_cases h1:S.st.length<base+ty.length
 ·have h1':¬(base:Int)<=(S.st.length:Int)-ty.length:=by omega
  repeat first|with_reducible refine GE.g ?_|simp only[hts,w,h1',ge_iff_le,decide_false,go_sem,simprocAttr]
  exact aM [] (fargs:=[.b false,.n .i64 p,.n .i64 14]) (cm.same rfl) (cV p 14) ⟨(p,14),by unfold eS;rw[if_pos h1],rfl⟩
 obtain⟨q,hq⟩:∃q,q=S.st.length-ty.length:=⟨_,rfl⟩
 have hqi:(S.st.length:Int)-ty.length=q:=by omega
 have h1':(base:Int)<=(q:Int):=by omega
 have wq:IntKind.i64.wrap (q:Int)=q:=am (by omega)
 obtain⟨tl,htl⟩:∃tl,tl=S.st.drop q:=⟨_,rfl⟩
 have hk:tl.length=ty.length:=by rw[htl,List.length_drop];omega
 have hpop:eS p base ty S=if jR tl ty=true then .ok (tl,{S with st:=S.st.take q}) else .error (p,13):=by
  unfold eS
  rw[if_neg h1,<-hq,<-htl]
 have hrow:∀i j,sC tl i j=sC S.st (q+i) j:=λi j=>by rw[htl,Bt]
 repeat first|with_reducible refine GE.g ?_|simp only[hts,hqi,wq,h1',ge_iff_le,decide_true,go_sem,simprocAttr]
 refine dd ([.b true,.n .i64 p,.n .i64 14]) (cy p 14) ?_
 (try simp only[go_sem,simprocAttr])
 iterate 1 (with_reducible refine GE.go aF rfl ?_;try simp only[go_sem,simprocAttr])
 refine GE.cut (aB [(0,.p 0 0),(1,.n .i64 p),(3,.s ⟨ty.toArray⟩),(9,.n .i64 q),(10,.fs 3 tl.length (sC tl))]) (az ob (wH la loc cs pt r S)) ?_ ?_
 ·have hWk:∀{H:AH} {e:Tr AV},d9 (λb2=>[2,1,0].reverse[b2]?) [3] H e [(0,.p 0 0),(1,.n .i64 p),(3,.s ⟨ty.toArray⟩),(9,.n .i64 q),(10,.fs 3 tl.length (sC tl))]->cM (λb2=>[2,1,0].reverse[b2]?) [3] H [2,1,0] (wH la loc cs pt r S)->(∀r x,ob r=some x->H.ob r=some x)->b6 72 bG e H (aB [(0,.p 0 0),(1,.n .i64 p),(3,.s ⟨ty.toArray⟩),(9,.n .i64 q),(10,.fs 3 tl.length (sC tl))]) (az ob (wH la loc cs pt r S)):=λhe hh hob=>b6.mkO [2,1,0] [3] he hh (by simp[wH]) hob (aC rfl)
  have hcl:bN Tryz.prog 123 [.fs 3 tl.length (sC tl)] [.o 221 3 tl.length 0 (sC tl)]:=ti (by omega) (λi j _ _=>eY tl i j)
  have hsc:∀r ∈ [RT.o 221 3 tl.length 0 (sC tl)],gR (λa=>a.sc 3=true) r:=λr hr=>by
   cases List.mem_singleton.1 hr
   exact λi j _ _=>VB tl i j
  have hq0:(0:Int)<=(q:Int):=by omega
  have hqn:(q:Int)<=(S.st.length:Int):=by omega
  rcases(show q=0\/(0<q/\q<S.st.length)\/(0<q/\q=S.st.length) by omega) with c|c|c
  ·have c0:((q:Int)=0)=True:=eq_true (by omega)
   have c1:S.st.length=tl.length:=by omega
   have c2:(0:Int)<=(S.st.length:Int):=by omega
   repeat first|with_reducible refine GE.g ?_|simp only[c0,c2,Int.le_refl,go_sem,simprocAttr]
   refine i6 [1] (fargs:=[.fs 3 tl.length (sC tl)]) ?_ hcl ?_ hsc ?_
   ·exact⟨by rw[<-c1];exact .os (x:=ai 221 3 S.st.length 0 (sC S.st)) (by simp) (by simp only[go_sem,simprocAttr]<;>rfl) (Nat.le_refl _) (λi j hi hj=>(aK i j hj).trans (by rw[hrow,c,Nat.zero_add])) (λi j _ _=>eY tl i j),trivial⟩
   ·simp only[go_sem,simprocAttr]
   repeat first|with_reducible refine GE.g ?_|simp only[go_sem,simprocAttr]
   refine hWk ?_ ?_ ?_
   ·simp only[d9,cM,go_sem,simprocAttr]
    repeat' refine a7 ?_ ?_
    all_goals first|exact iI|skip
    exact .cv (.ownb (by simp only[go_sem,simprocAttr]<;>rfl) (λi j _ _=>eY tl i j) (by simp))
   ·exact .cr (.k2 (λ_ _ _ _=>rfl)) (.cr (.k2 (λi j _ _=>aL _ i j)) (.cr .wk .nil))
   ·intro r x h
    simp only[go_sem,simprocAttr]
    exact h
  ·have c0:¬(q:Int)=0:=by omega
   have c1:(0:Int)<(q:Int):=by omega
   have c2:(q:Int)<(S.st.length:Int):=by omega
   have c3:S.st.length-q=tl.length:=by omega
   repeat first|with_reducible refine GE.g ?_|simp only[c0,c1,c2,c3,hqn,Int.le_refl,go_sem,simprocAttr]
   refine i6 [1] (fargs:=[.fs 3 tl.length (sC tl)]) ?_ hcl ?_ hsc ?_
   ·exact⟨.sl (x:=ai 221 3 S.st.length 0 (sC S.st)) (by simp) (by simp only[go_sem,simprocAttr]<;>rfl) (by show q*3+tl.length*3<=S.st.length*3;omega) (Nat.le_refl _) (by show 0<S.st.length*3;omega) (λi j hi hj=>by rw[show q*3+i*3+j=(q+i)*3+j by omega,aK _ _ hj,hrow]) (λi j _ _=>eY tl i j),trivial⟩
   ·simp only[go_sem,simprocAttr]
   repeat first|with_reducible refine GE.g ?_|simp only[go_sem,simprocAttr]
   refine hWk ?_ ?_ ?_
   ·simp only[d9,cM,go_sem,simprocAttr]
    repeat' refine a7 ?_ ?_
    all_goals first|exact iI|skip
    exact .cv (.ownb (by simp only[go_sem,simprocAttr]<;>rfl) (λi j _ _=>eY tl i j) (by simp))
   ·exact .cr (.k2 (λ_ _ _ _=>rfl)) (.cr (.k2 (λi j _ _=>aL _ i j)) (.cr .wk .nil))
   ·intro r x h
    simp only[go_sem,simprocAttr]
    exact h
  ·have c0:¬(q:Int)=0:=by omega
   have c1:(0:Int)<(q:Int):=by omega
   have c2:¬(q:Int)<(S.st.length:Int):=by omega
   have c3:((q:Int)=(S.st.length:Int))=True:=eq_true (by omega)
   have c4:tl.length=0:=by omega
   have hz:∀H,cm [1] H [.fs 3 0 (λ_ _=> .u)] [.fs 3 tl.length (sC tl)]:=λH=>by rw[c4];exact⟨.fs (λi j hi=>absurd hi (Nat.not_lt_zero _)),trivial⟩
   repeat first|with_reducible refine GE.g ?_|simp only[c0,c1,c2,c3,hqn,Int.le_refl,go_sem,simprocAttr]
   refine i6 [1] (fargs:=[.fs 3 tl.length (sC tl)]) ?_ hcl ?_ hsc ?_
   ·exact⟨(hz _).1,trivial⟩
   ·simp only[go_sem,simprocAttr]
   repeat first|with_reducible refine GE.g ?_|simp only[go_sem,simprocAttr]
   refine hWk ?_ ?_ ?_
   ·simp only[d9,cM,go_sem,simprocAttr]
    repeat' refine a7 ?_ ?_
    all_goals first|exact iI|skip
    exact .cv (.ownb (by simp only[go_sem,simprocAttr]<;>rfl) (λi j _ _=>eY tl i j) (by simp))
   ·exact .cr (.k2 (λ_ _ _ _=>rfl)) (.cr (.k2 (λi j _ _=>aL _ i j)) (.cr .wk .nil))
   ·intro r x h
    simp only[go_sem,simprocAttr]
    exact h
 simp only[wH,dB]
 repeat first|with_reducible refine GE.g ?_|simp only[go_sem,simprocAttr]
 refine GE.loop (I:=λm e H=>∃j:Nat,m=tl.length-j/\j<=tl.length/\jR tl ty=jR (tl.drop j) (ty.drop j)/\e=aB [(0,.p 0 0),(1,.n .i64 p),(3,.s ⟨ty.toArray⟩),(9,.n .i64 q),(10,.fs 3 tl.length (sC tl)),(33,.fs 3 tl.length (sC tl)),(34,.n .i64 tl.length),(35,.n .i64 j)]/\H=az ob (wH la loc cs pt r S)) (b6.mkO [2,1,0] [] ?_ ?_ (by simp[wH]) ?_ (aC rfl)) ⟨0,rfl,Nat.zero_le _,rfl,rfl,rfl⟩ ?_
 ·exact ba
 ·exact .cr (.k2 (λ_ _ _ _=>rfl)) (.cr (.k2 (λi j _ _=>aL _ i j)) (.cr .wk .nil))
 ·intro r x h
  simp only[go_sem,simprocAttr]
  exact h
 rintro m e H ⟨j,rfl,hj,hs,rfl,rfl⟩
 simp only[wH,dB]
 have hj0:(0:Int)<=(j:Int):=by omega
 have hq0:(0:Int)<=(q:Int):=by omega
 have hqn:(q:Int)<=(S.st.length:Int):=by omega
 have hbk:∀{H:AH} {e:Tr AV} (j':Nat) (a:AV),a= .n .i64 (j':Nat)->d9 (λb2=>[2,1,0].reverse[b2]?) [] H e [(0,.p 0 0),(1,.n .i64 p),(3,.s ⟨ty.toArray⟩),(9,.n .i64 q),(10,.fs 3 tl.length (sC tl)),(33,.fs 3 tl.length (sC tl)),(34,.n .i64 tl.length),(35,a)]->cM (λb2=>[2,1,0].reverse[b2]?) [] H [2,1,0] (wH la loc cs pt r S)->(∀r x,ob r=some x->H.ob r=some x)->j<tl.length->j'=j+1->jR tl ty=jR (tl.drop j') (ty.drop j')->
  ∃m' e2 H2,m'<tl.length-j/\b6 72 bG e H e2 H2/\∃j:Nat,m'=tl.length-j/\j<=tl.length/\jR tl ty=jR (tl.drop j) (ty.drop j)/\e2=aB [(0,.p 0 0),(1,.n .i64 p),(3,.s ⟨ty.toArray⟩),(9,.n .i64 q),(10,.fs 3 tl.length (sC tl)),(33,.fs 3 tl.length (sC tl)),(34,.n .i64 tl.length),(35,.n .i64 j)]/\H2=az ob (wH la loc cs pt r S):=λj' a ha he hh hob hjt hj1 hs'=>by
  subst ha;subst hj1
  exact⟨_,_,_,by omega,b6.mkO [2,1,0] [] he hh (by simp[wH]) hob (aC rfl),j+1,rfl,by omega,hs',rfl,rfl⟩
 by_cases hjt:j<tl.length
 rotate_left
 ·have hjt':¬(j:Int)<(tl.length:Int):=by omega
  have hok:jR tl ty=true:=by
   rw[hs,List.drop_eq_nil_of_le (by omega)]
   rfl
  have hmin:min q S.st.length=q:=by omega
  repeat first|with_reducible refine GE.g ?_|simp only[hjt',hq0,hqn,Int.le_refl,decide_false,go_sem,simprocAttr]
  refine wZ (ob:=ob) [2,1,0] [] (.fs 3 tl.length (sC tl)) (wH la loc cs pt r {S with st:=S.st.take q}) ?_ (.cv (.rfl rfl)) (by simp[wH]) (λr x h=>by simp only[go_sem,simprocAttr];exact h) (aC rfl) ⟨tl,_,by rw[hpop,if_pos hok],rfl,rfl⟩
  simp only[wH,dB,List.length_take,hmin]
  exact .cr (.k2 (λ_ _ _ _=>rfl)) (.cr (.pop (row:=sC S.st) (n:=S.st.length) (by simp only[go_sem,simprocAttr]) rfl (by decide) (by omega) (λi j hi hj=>(Bs S.st q i j hi).symm) (λi j _ _=>aL _ i j)) (.cr .wk .nil))
 have hjt':(j:Int)<(tl.length:Int):=by omega
 have wj:IntKind.i64.wrap ((j:Int)+1)=((j+1:Nat):Int):=(am (by omega)).trans (by omega)
 have hby:=Kb (ty:=ty) (j:=j) (by omega)
 rw[vo hjt (by omega)] at hs
 have hE0:V5 (ty.getD j 0) (tl.getD j v0)=false->Ib (eS p base ty S) (ea p 13) (ah []):=λh=>⟨(p,13),by rw[hpop,if_neg (by rw[hs,h];simp)],rfl⟩
 generalize hc:ty.getD j 0=c at*
 generalize hv:tl.getD j v0=v at*
 have e0:sC tl j 0= .b v.1:=by rw[Kk,hv]
 have e1:sC tl j 1= .n .i64 v.2.1:=by rw[IB,hv]
 have e2:sC tl j 2= .n .i64 v.2.2:=by rw[C5,hv]
 obtain⟨tr,iv0⟩:=v
 by_cases c1:c=110
 ·subst c1
  cases tr
  ·repeat first|with_reducible refine GE.g ?_|simp only[hj0,hjt',hby,e0,e1,e2,Int.toNat_natCast,mX,mY,mZ,m8,decide_true,decide_false,go_sem,simprocAttr]
   refine dd ([.b true,.n .i64 p,.n .i64 13]) (cy p 13) ?_
   repeat first|with_reducible refine GE.g ?_|simp only[wj,go_sem,simprocAttr]
   refine hbk (j+1) _ rfl ?_ ?_ ?_ hjt rfl (by rw[hs];rfl)
   ·exact ba
   ·exact .cr (.k2 (λ_ _ _ _=>rfl)) (.cr (.k2 (λi j _ _=>aL _ i j)) (.cr .wk .nil))
   ·intro r x h
    simp only[go_sem,simprocAttr]
    exact h
  ·repeat first|with_reducible refine GE.g ?_|simp only[hj0,hjt',hby,e0,e1,e2,Int.toNat_natCast,mX,mY,mZ,m8,decide_true,decide_false,go_sem,simprocAttr]
   exact aM [] (fargs:=[.b false,.n .i64 p,.n .i64 13]) (cm.same rfl) (cV p 13) (hE0 rfl)
 by_cases c2:c=116
 ·subst c2
  cases tr
  ·repeat first|with_reducible refine GE.g ?_|simp only[hj0,hjt',hby,e0,e1,e2,Int.toNat_natCast,mX,mY,mZ,m8,decide_true,decide_false,go_sem,simprocAttr]
   exact aM [] (fargs:=[.b false,.n .i64 p,.n .i64 13]) (cm.same rfl) (cV p 13) (hE0 rfl)
  ·repeat first|with_reducible refine GE.g ?_|simp only[hj0,hjt',hby,e0,e1,e2,Int.toNat_natCast,mX,mY,mZ,m8,decide_true,decide_false,go_sem,simprocAttr]
   refine dd ([.b true,.n .i64 p,.n .i64 13]) (cy p 13) ?_
   repeat first|with_reducible refine GE.g ?_|simp only[wj,go_sem,simprocAttr]
   refine hbk (j+1) _ rfl ?_ ?_ ?_ hjt rfl (by rw[hs];rfl)
   ·exact ba
   ·exact .cr (.k2 (λ_ _ _ _=>rfl)) (.cr (.k2 (λi j _ _=>aL _ i j)) (.cr .wk .nil))
   ·intro r x h
    simp only[go_sem,simprocAttr]
    exact h
 have n1:¬(c.toNat:Int)=110:=λh=>c1 (UInt8.toNat_inj.1 (show c.toNat=110 by omega))
 have n2:¬(c.toNat:Int)=116:=λh=>c2 (UInt8.toNat_inj.1 (show c.toNat=116 by omega))
 have hok:V5 c (tr,iv0)=true:=by
  unfold V5
  rw[if_neg c1,if_neg c2]
 repeat first|with_reducible refine GE.g ?_|simp only[hj0,hjt',hby,e0,e1,e2,Int.toNat_natCast,mX,mY,mZ,m8,decide_true,decide_false,n1,n2,go_sem,simprocAttr]
 refine dd ([.b true,.n .i64 p,.n .i64 13]) (cy p 13) ?_
 repeat first|with_reducible refine GE.g ?_|simp only[wj,go_sem,simprocAttr]
 refine hbk (j+1) _ rfl ?_ ?_ ?_ hjt rfl (by rw[hs,hok];rfl)
 ·exact ba
 ·exact .cr (.k2 (λ_ _ _ _=>rfl)) (.cr (.k2 (λi j _ _=>aL _ i j)) (.cr .wk .nil))
 ·intro r x h
  simp only[go_sem,simprocAttr]
  exact h
end
end Go.Proofs.YtdpkgnmmikebdaaGreat
namespace Go.Proofs.YtdpkgnmmikebdaaGreat
open Go.RowKit
section
variable (la:List (Bool×Int)) (loc:Int) (cs:List (Int×Int)) (pt:List Int) (r:Nat) (ob:Nat->Option OB)
theorem bi{n:Nat}{g:FuncId}{args args2:List AV}{e:Tr AV}{H:AH}{L:List (Nat×AV)}{bl2:List AB}{Q':AV->AH->Prop}{E':List PanicEntry->AH->Prop}{Q:AV->Tr AV->AH->Prop}{E:List PanicEntry->AH->Prop}(S:WS)(ρ M:List Nat)
  (h:PC Tryz.prog bG g args2 (az ob (wH la loc cs pt r S)) Q' E')
  (he:d9 (λb2=>ρ.reverse[b2]?) M H e L) (hh:cM (λb2=>ρ.reverse[b2]?) M H ρ (bl2++wH la loc cs pt r S)) (hv:CR (λb2=>ρ.reverse[b2]?) M H args args2) (hob:∀r x,ob r=some x->H.ob r=some x)
  (hl:bl2.length<1000) (hρ:ρ.reverse[0]? =some 0) (ha:args2.all (AV.nm (λb=>decide (b<3)) 3)=true) (hL:(L.all λp=>decide (p.1<1000000)&&p.2.nm (λb=>bG b||decide (3<=b)) 3)=true) (h2:BN (λb=>bG b||decide (3<=b)) bl2)
  (hQ:∀v H',Q' v H'->∃(S':WS) (ob':Nat->Option OB),H'=az ob' (wH la loc cs pt r S')/\Q v (aB L) (az ob' (bl2++wH la loc cs pt r S')))
  (hE:∀c H',E' c H'->E c (ah [])):de Tryz.prog n bG g args e H Q E:=by
 have hlen:(bl2++wH la loc cs pt r S).length<1000000:=by rw[List.length_append];simp only[wH,List.length_cons,List.length_nil];omega
 refine te ρ M he hh hv hob hlen (aC hρ) ?_
 have hfr:de Tryz.prog n (λb=>bG b||decide (3<=b)) g args2 (aB L) (az ob (bl2++wH la loc cs pt r S)) Q E:=
  nh (bl1:=wH la loc cs pt r S) (e2:=aB L) h hlen (λx hx=>by simp only[wH,List.mem_cons,List.not_mem_nil,or_false] at hx;rcases hx with rfl|rfl|rfl<;>rfl) (λb hb=>by have:=of_decide_eq_true hb;show b<3;omega)
   (λb x hb hx=>il (bl:=wH la loc cs pt r S) (by simp[wH]) (by rfl) b x hb (by rw[rK] at hx;exact hx)) ha
   (λb x _ hx=>(BN.cons (.row (by decide) (λi j _ _=>rfl)) (.cons (.row (by decide) (λi j _ _=>VC _ _ i j)) (.cons (.lst (by simp[dB]) (by rfl)) .nil)):BN (λb=>decide (b<3)) (wH la loc cs pt r S)) x (j9 _ b x (by simp[wH]) hx))
   (λb x hb hx=>h2 x (i5 bl2 _ b x hlen hb hx)) ⟨λt v hv=>hv,uJ.nm hL⟩
   (λv H' q=>by
    obtain⟨S',ob',rfl,q2⟩:=hQ v H' q
    exact⟨ob',_,rfl,rfl,q2⟩) hE
 refine⟨hfr.1,λB σ a w args' hEn hH ha'=>(hfr.2 B σ a w args' hEn hH ha').mono λen w' hp=>?_⟩
 cases en with
 |returned u=>
  obtain⟨v,e',H',σ',r0,r1,r2,r3,r4⟩:=hp
  exact⟨v,e',H',σ',r0,r1,r2,r3,r4.sub (λb hb=>by rw[hb];rfl)⟩
 |panicked c=>exact hp
 |outgrown=>exact hp.elim
theorem ta(p:Nat)(hp:p<cs.length)(v:Vl)(S:WS)(ha:0<=(cs.getD p (0,0)).2)(hal:(cs.getD p (0,0)).2<la.length):PC Tryz.prog bG 126 [.p 0 0,.n .i64 p,vl v] (az ob (wH la loc cs pt r S)) (λu H'=>∃x,dA la (cs.getD p (0,0)).2 p v= .ok x/\u=iv x/\H'=az ob (wH la loc cs pt r S)) (Ib (dA la (cs.getD p (0,0)).2 p v)):=by
 refine PC.vw (cI Pj ⟨by simp,by decide⟩ ?_)
 simp only[aH,wH,dB,vl]
 have p0:(0:Int)<=(p:Int):=by omega
 have p1:(p:Int)<(cs.length:Int):=by omega
 generalize hx:la.getD (cs.getD p (0,0)).2.toNat (false,0)=x
 have e0:pA la (cs.getD p (0,0)).2.toNat 0= .b x.1:=by rw[Az,hx]
 have e1:pA la (cs.getD p (0,0)).2.toNat 1= .n .i64 x.2:=by rw[Ay,hx]
 have hF:dA la (cs.getD p (0,0)).2 p v=if v.2.2<x.2 then .ok (if x.1=true then(0,4294967295) else(0,255)) else .error ((p:Int),16):=by unfold dA;rw[hx]
 obtain⟨xb,xn⟩:=x
 dsimp only at hF e0 e1
 by_cases h:v.2.2<xn
 ·repeat first|with_reducible refine GE.g ?_|simp only[p0,p1,ha,hal,ph,e0,e1,h,Int.toNat_natCast,decide_true,go_sem,simprocAttr]
  refine dd ([.b true,.n .i64 p,.n .i64 16]) (cy p 16) ?_
  cases xb
  ·repeat first|with_reducible refine GE.g ?_|simp only[go_sem,simprocAttr]
   refine wZ (ob:=ob) [2,1,0] [] (iv (0,255)) (wH la loc cs pt r S) ?_ (.cv (.rfl rfl)) (by simp[wH]) (λr x h=>by simp only[go_sem,simprocAttr];exact h) (aC rfl) ⟨_,by rw[hF,if_pos h];rfl,rfl,rfl⟩
   exact .cr (.k2 (λ_ _ _ _=>rfl)) (.cr (.k2 (λi j _ _=>aL _ i j)) (.cr .wk .nil))
  ·repeat first|with_reducible refine GE.g ?_|simp only[go_sem,simprocAttr]
   refine dd ([]) cq ?_
   simp only[iv]
   repeat first|with_reducible refine GE.g ?_|simp only[go_sem,simprocAttr]
   refine wZ (ob:=ob) [2,1,0] [] (iv (0,4294967295)) (wH la loc cs pt r S) ?_ (.cv (.rfl rfl)) (by simp[wH]) (λr x h=>by simp only[go_sem,simprocAttr];exact h) (aC rfl) ⟨_,by rw[hF,if_pos h];rfl,rfl,rfl⟩
   exact .cr (.k2 (λ_ _ _ _=>rfl)) (.cr (.k2 (λi j _ _=>aL _ i j)) (.cr .wk .nil))
 ·repeat first|with_reducible refine GE.g ?_|simp only[p0,p1,ha,hal,ph,e0,e1,h,Int.toNat_natCast,decide_false,go_sem,simprocAttr]
  exact aM [] (fargs:=[.b false,.n .i64 p,.n .i64 16]) (cm.same rfl) (cV p 16) ⟨(p,16),by rw[hF,if_neg h],rfl⟩
end
end Go.Proofs.YtdpkgnmmikebdaaGreat
namespace Go.Proofs.YtdpkgnmmikebdaaGreat
open Go.RowKit
theorem Cv.bs1{M:List Nat}{H:AH}{b:Nat}{x:AB}{v:Vl}(hm:b ∈ M)(hx:H.at b=some x)(hs:x.size=3)(h0:x.get 0= .b v.1)(h1:x.get 1= .n .i64 v.2.1)(h2:x.get 2= .n .i64 v.2.2):Cv M H (.sl b 0 1 1) (.fs 3 1 (sC [v])):=
 .sl hm hx (by omega) (Nat.le_refl _) (by omega) (λi j hi hj=>by
  obtain rfl:i=0:=by omega
  rcases(show j=0\/j=1\/j=2 by omega) with rfl|rfl|rfl
  ·exact h0
  ·exact h1
  ·exact h2) (λi j _ _=>eY _ i j)
theorem Cv.bs2{M:List Nat}{H:AH}{b:Nat}{x:AB}{v w:Vl}(hm:b ∈ M)(hx:H.at b=some x)(hs:x.size=6)(h0:x.get 0= .b v.1)(h1:x.get 1= .n .i64 v.2.1)(h2:x.get 2= .n .i64 v.2.2)(h3:x.get 3= .b w.1)(h4:x.get 4= .n .i64 w.2.1)(h5:x.get 5= .n .i64 w.2.2):Cv M H (.sl b 0 2 2) (.fs 3 2 (sC [v,w])):=
 .sl hm hx (by omega) (Nat.le_refl _) (by omega) (λi j hi hj=>by
  rcases(show i=0\/i=1 by omega) with rfl|rfl<;>rcases(show j=0\/j=1\/j=2 by omega) with rfl|rfl|rfl
  ·exact h0
  ·exact h1
  ·exact h2
  ·exact h3
  ·exact h4
  ·exact h5) (λi j _ _=>eY _ i j)
section
variable (la:List (Bool×Int)) (loc:Int) (cs:List (Int×Int)) (pt:List Int) (r:Nat) (ob:Nat->Option OB)
def VH(op:Int):Prop:=(0<=op/\op<=26)\/(32<=op/\op<=35)
theorem ZQ:¬(ByteArray.mk #[110]).toList=(ByteArray.mk #[116]).toList:=of_decide_eq_false (by kernel_rfl)
theorem Ii{l:List Iv}{q i j ty:Nat}{x:Iv}(hq:q<l.length)(hn:l.length*2<1000000)(hi:i<l.length)(hj:j<2):((ai ty 2 l.length 0 (vC l)).putN (q*2) [.n .i64 x.1,.n .i64 x.2]).get (i*2+j)=vC (l.set q x) i j:=by
 rw[t8 (by rfl) hq hn i j hi hj]
 by_cases e:i=q
 ·subst e
  rw[if_pos rfl]
  rcases yx hj with rfl|rfl
  ·rw[Bh,List.getD_eq_getElem?_getD,List.getElem?_set,if_pos rfl,if_pos hq];rfl
  ·rw[Bg,List.getD_eq_getElem?_getD,List.getElem?_set,if_pos rfl,if_pos hq];rfl
 ·have e':¬q=i:=λh=>e h.symm
  rw[if_neg e]
  simp only[vC,List.getD_eq_getElem?_getD,List.getElem?_set,if_neg e']
theorem zR(k:Nat)(h:k<36):(eU k).1.length<=2:=(by decide:∀k:Fin 36,(eU (k.val:Int)).1.length<=2) ⟨k,h⟩
theorem xW(hcs:cs.length<=1024)(p:Nat)(hp:p<cs.length)(base:Nat)(hbase:base<100000)(S:WS)(hS:Sm p S)(hst:∀v ∈ S.st,cO v.2)(hop:VH (aj cs p))(ha:0<=(cs.getD p (0,0)).2/\(cs.getD p (0,0)).2<=4294967295)
  (hal:aj cs p=3\/aj cs p=4->(cs.getD p (0,0)).2<la.length) (hloc:aj cs p=1\/aj cs p=2->(cs.getD p (0,0)).2<S.loc.length) (hll:S.loc.length<1000):
  PC Tryz.prog bG 89 [.p 0 0,.n .i64 p,.n .i64 base] (az ob (wH la loc cs pt r S)) (λv H'=>∃S' b,dI la (aj cs p) (cs.getD p (0,0)).2 p base S= .ok (S',b)/\v=gP b/\H'=az ob (wH la loc cs pt r S')) (Ib (dI la (aj cs p) (cs.getD p (0,0)).2 p base S)):=by
 refine PC.vw (cI PJ ⟨by simp,by decide⟩ ?_)
 simp only[aH,wH,dB]
 have p0:(0:Int)<=(p:Int):=by omega
 have p1:(p:Int)<(cs.length:Int):=by omega
 have hel:=ta la loc cs pt r ob p hp
 have e0:pI cs p 0= .n .i64 (aj cs p):=rfl
 have e1:pI cs p 1= .n .u32 (cs.getD p (0,0)).2:=rfl
 obtain⟨k,hk36,hk⟩:∃k:Nat,k<36/\aj cs p=k:=⟨(aj cs p).toNat,by unfold VH at hop;omega,by unfold VH at hop;omega⟩
 rw[hk] at e0
 have hE1:=td k hk36
 rw[<-hk] at hE1
 simp only[Cy] at hE1
 generalize hopv:aj cs p=op at*
 generalize harg:(cs.getD p (0,0)).2=arg at*
 repeat first|with_reducible refine GE.g ?_|simp only[p0,p1,e0,e1,Int.toNat_natCast,go_sem,simprocAttr]
 refine kK [] (fargs:=[.n .i64 op]) (by rw[hk];exact cm.same rfl) hE1 ?_ ?_
 ·simp only[go_sem,simprocAttr]
 repeat first|with_reducible refine GE.g ?_|simp only[go_sem,simprocAttr]
 have hst2:S.st.length<1000:=by have:=hS.st;omega
 have hpop:=pe la loc cs pt r ob p base (eU op).1 (by rw[hk];have:=zR k hk36;omega) hbase S hst2
 refine bi la loc cs pt r ob (args2:=[.p 0 0,.n .i64 p,.n .i64 base,.s ⟨(eU op).1.toArray⟩]) (L:=[(0,.p 0 0),(1,.n .i64 p),(6,.p 3 0),(7,.p 4 0),(9,.s ⟨(eU op).2.toArray⟩)]) (bl2:=[ae 0 54 [.n .i64 op,.n .u32 arg],ae 0 130 [.n .i64 0,.n .i64 0]]) S [4,3,2,1,0] [] hpop ?_ ?_ ?_ ?_ (by simp) rfl (by rfl) (by rfl) (.cons .lq (.cons .lq .nil)) ?_ ?_
 ·exact ba
 ·exact .cr (.lstj (x:=_) (by simp only[go_sem,simprocAttr]<;>rfl) (by rfl) (by rfl) (by rfl) (by rfl) (by rfl) (by rfl) (by simp) (λi hi=>by rcases ZZ hi with rfl|rfl<;>(simp only[go_sem,simprocAttr,hk];exact Wv.same rfl))) (.cr (.j2) (.cr (.k2 (λ_ _ _ _=>rfl)) (.cr (.k2 (λi j _ _=>aL _ i j)) (.cr .wk .nil))))
 ·exact⟨Wv.p rfl,Wv.n rfl,Wv.n rfl,Wv.same rfl,trivial⟩
 ·intro r x h
  simp only[go_sem,simprocAttr]
  exact h
 rotate_left
 ·rintro c H' ⟨x,hx,rfl⟩
  exact⟨x,by unfold dI;rw[hx],rfl⟩
 rintro v H' ⟨l,S1,hpf,rfl,rfl⟩
 refine⟨S1,ob,rfl,?_⟩
 simp only[wH,dB,List.cons_append,List.nil_append]
 (try simp only[go_sem,simprocAttr])
 iterate 3 (with_reducible refine GE.go aF rfl ?_;try simp only[go_sem,simprocAttr])
 obtain⟨g1,g2,g3⟩:=mC hpf
 have h1st:S1.st.length<=32:=by rw[g3];simp only[List.length_take];have:=hS.st;omega
 have h1ht:0<=S1.ht/\S1.ht<=32:=by rw[g3];exact hS.ht
 have h1loc:S1.loc=S.loc:=by rw[g3]
 have hln:l.length=(eU op).1.length:=by rw[g2,List.length_drop];omega
 have hlok:∀v ∈ l,cO v.2:=λv hv=>hst v (List.mem_of_mem_drop (g2 ▸ hv))
 clear g2 g3 hE1 hpop
 have hErr:∀x,b8 la op arg p l S1= .error x->Ib (dI la op arg p base S) (ea x.1 x.2) (ah []):=λx hx=>⟨x,by unfold dI;rw[hpf];exact hx,rfl⟩
 have hn:∀op':Int,(op'≠op)->¬op=op':=λ_ h e=>h e.symm
 have fin:∀{e:Tr AV} {H:AH} (ρ M:List Nat) (S2:WS) (b:Bd) (hact:b8 la op arg p l S1= .ok (S2,b)) (he:d9 (λb2=>ρ.reverse[b2]?) M H e [(6,.p 3 0),(12,.p 4 0)]) (hh:cM (λb2=>ρ.reverse[b2]?) M H ρ ([ae 0 130 [.n .i64 b.1,.n .i64 b.2],ae 0 130 [.n .i64 0,.n .i64 0]]++wH la loc cs pt r S2)) (hob:∀r x,ob r=some x->H.ob r=some x) (hρ:ρ.reverse[0]? =some 0),
   ∃e2 H2,b6 184 bG e H e2 H2/\∃S' b,b8 la op arg p l S1= .ok (S',b)/\e2=aB [(6,.p 3 0),(12,.p 4 0)]/\H2=az ob ([ae 0 130 [.n .i64 b.1,.n .i64 b.2],ae 0 130 [.n .i64 0,.n .i64 0]]++wH la loc cs pt r S'):=λρ M S2 b hact he hh hob hρ=>
  ⟨_,_,b6.mkO ρ M he hh (by simp[wH]) hob (aC hρ),S2,b,hact,rfl,rfl⟩
 refine GE.cutP (λe2 H2=>∃S' b,b8 la op arg p l S1= .ok (S',b)/\e2=aB [(6,.p 3 0),(12,.p 4 0)]/\H2=az ob ([ae 0 130 [.n .i64 b.1,.n .i64 b.2],ae 0 130 [.n .i64 0,.n .i64 0]]++wH la loc cs pt r S')) ?_ ?_
 rotate_left
 ·rintro e2 H2 ⟨S2,b,hact,rfl,rfl⟩
  simp only[wH,dB,List.cons_append,List.nil_append]
  repeat first|with_reducible refine GE.g ?_|simp only[go_sem,simprocAttr]
  exact wZ (ob:=ob) [2,1,0] [] (gP b) (wH la loc cs pt r S2) (.cr (.k2 (λ_ _ _ _=>rfl)) (.cr (.k2 (λi j _ _=>aL _ i j)) (.cr .wk .nil))) (.cv (.rfl rfl)) (by simp[wH]) (λr x h=>by simp only[go_sem,simprocAttr];exact h) (aC rfl) ⟨S2,b,by unfold dI;rw[hpf];exact hact,rfl,rfl⟩
 rcases(show op=0\/op=1\/op=32\/op=26\/op=5\/op=7\/op=6\/op=35\/op=34\/(op=2\/op=3\/op=4)\/(21<=op/\op<=25\/op=33)\/(8<=op/\op<=20) by unfold VH at hop;omega) with h|h|h|h|h|h|h|h|h|h|h|h
 ·subst h
  have hA:b8 la 0 arg p l S1=cx (1,0) (bX p [(false,arg,arg)] S1):=rfl
  repeat first|with_reducible refine GE.g ?_|simp only[decide_true,decide_false,go_sem,simprocAttr]
  refine dd ([.n .u32 arg]) (ff arg ha) ?_
  simp only[iv]
  repeat first|with_reducible refine GE.g ?_|simp only[go_sem,simprocAttr]
  refine dd ([iv (arg,arg)]) (fC (arg,arg)) ?_
  simp only[vl]
  repeat first|with_reducible refine GE.g ?_|simp only[go_sem,simprocAttr]
  have hq:=ep la loc cs pt r ob p [(false,arg,arg)] ⟨by simp,by simp⟩ S1 (by omega) (by omega)
  refine bi la loc cs pt r ob (args2:=[.p 0 0,.n .i64 p,.fs 3 1 (sC [(false,arg,arg)])]) (L:=[(6,.p 3 0),(12,.p 4 0)]) (bl2:=[ae 0 130 [.n .i64 1,.n .i64 0],ae 0 130 [.n .i64 0,.n .i64 0]]) S1 [5,3,2,1,0] [6] hq ?_ ?_ ?_ ?_ (by simp) rfl (by rfl) (by rfl) (.cons .lq (.cons .lq .nil)) ?_ ?_
  ·exact ba
  ·exact .cr (.j2) (.cr (.j2) (.cr (.k2 (λ_ _ _ _=>rfl)) (.cr (.k2 (λi j _ _=>aL _ i j)) (.cr .wk .nil))))
  ·exact⟨Wv.p rfl,Wv.n rfl,.cv (.bs1 (x:=_) (by simp) (by simp only[go_sem,simprocAttr]<;>rfl) (by rfl) (by simp only[go_sem,simprocAttr]) (by simp only[go_sem,simprocAttr]) (by simp only[go_sem,simprocAttr])),trivial⟩
  ·intro r x h
   simp only[go_sem,simprocAttr]
   exact h
  ·rintro v H' ⟨S2,hS2,rfl,rfl⟩
   have hact:b8 la 0 arg p l S1= .ok (S2,(1,0)):=by rw[hA,hS2];rfl
   refine⟨S2,ob,rfl,?_⟩
   simp only[wH,dB,List.cons_append,List.nil_append]
   repeat first|with_reducible refine GE.g ?_|simp only[go_sem,simprocAttr]
   refine fin [4,3,2,1,0] [] _ _ hact ?_ ?_ ?_ rfl
   ·exact ba
   ·exact .cr (.j2) (.cr (.j2) (.cr (.k2 (λ_ _ _ _=>rfl)) (.cr (.k2 (λi j _ _=>aL _ i j)) (.cr .wk .nil))))
   ·intro r x h
    simp only[go_sem,simprocAttr]
    exact h
  ·rintro c H' ⟨x,hx,rfl⟩
   exact hErr x (by rw[hA,hx];rfl)
 ·subst h
  have hA:b8 la 1 arg p l S1=cx (1,0) (bX p [(false,S1.loc.getD arg.toNat (0,0))] S1):=rfl
  have hll2:arg<(S1.loc.length:Int):=by rw[h1loc];exact hloc (.inl rfl)
  repeat first|with_reducible refine GE.g ?_|simp only[decide_true,decide_false,ha.1,hll2,Bh,Bg,go_sem,simprocAttr]
  refine dd ([iv (S1.loc.getD arg.toNat (0,0))]) (fC (S1.loc.getD arg.toNat (0,0))) ?_
  simp only[vl]
  repeat first|with_reducible refine GE.g ?_|simp only[go_sem,simprocAttr]
  have hq:=ep la loc cs pt r ob p [(false,S1.loc.getD arg.toNat (0,0))] ⟨by simp,by simp⟩ S1 (by omega) (by omega)
  refine bi la loc cs pt r ob (args2:=[.p 0 0,.n .i64 p,.fs 3 1 (sC [(false,S1.loc.getD arg.toNat (0,0))])]) (L:=[(6,.p 3 0),(12,.p 4 0)]) (bl2:=[ae 0 130 [.n .i64 1,.n .i64 0],ae 0 130 [.n .i64 0,.n .i64 0]]) S1 [5,3,2,1,0] [6] hq ?_ ?_ ?_ ?_ (by simp) rfl (by rfl) (by rfl) (.cons .lq (.cons .lq .nil)) ?_ ?_
  ·exact ba
  ·exact .cr (.j2) (.cr (.j2) (.cr (.k2 (λ_ _ _ _=>rfl)) (.cr (.k2 (λi j _ _=>aL _ i j)) (.cr .wk .nil))))
  ·exact⟨Wv.p rfl,Wv.n rfl,.cv (.bs1 (x:=_) (by simp) (by simp only[go_sem,simprocAttr]<;>rfl) (by rfl) (by simp only[go_sem,simprocAttr]) (by simp only[go_sem,simprocAttr]) (by simp only[go_sem,simprocAttr])),trivial⟩
  ·intro r x h
   simp only[go_sem,simprocAttr]
   exact h
  ·rintro v H' ⟨S2,hS2,rfl,rfl⟩
   have hact:b8 la 1 arg p l S1= .ok (S2,(1,0)):=by rw[hA,hS2];rfl
   refine⟨S2,ob,rfl,?_⟩
   simp only[wH,dB,List.cons_append,List.nil_append]
   repeat first|with_reducible refine GE.g ?_|simp only[go_sem,simprocAttr]
   refine fin [4,3,2,1,0] [] _ _ hact ?_ ?_ ?_ rfl
   ·exact ba
   ·exact .cr (.j2) (.cr (.j2) (.cr (.k2 (λ_ _ _ _=>rfl)) (.cr (.k2 (λi j _ _=>aL _ i j)) (.cr .wk .nil))))
   ·intro r x h
    simp only[go_sem,simprocAttr]
    exact h
  ·rintro c H' ⟨x,hx,rfl⟩
   exact hErr x (by rw[hA,hx];rfl)
 ·subst h
  have hA:b8 la 32 arg p l S1=cx (1,0) (bX p [(false,0,4294967295)] S1):=rfl
  repeat first|with_reducible refine GE.g ?_|simp only[decide_true,decide_false,go_sem,simprocAttr]
  refine dd ([]) (cq) ?_
  simp only[iv]
  repeat first|with_reducible refine GE.g ?_|simp only[go_sem,simprocAttr]
  refine dd ([iv (0,4294967295)]) (fC (0,4294967295)) ?_
  simp only[vl]
  repeat first|with_reducible refine GE.g ?_|simp only[go_sem,simprocAttr]
  have hq:=ep la loc cs pt r ob p [(false,0,4294967295)] ⟨by simp,by simp⟩ S1 (by omega) (by omega)
  refine bi la loc cs pt r ob (args2:=[.p 0 0,.n .i64 p,.fs 3 1 (sC [(false,0,4294967295)])]) (L:=[(6,.p 3 0),(12,.p 4 0)]) (bl2:=[ae 0 130 [.n .i64 1,.n .i64 0],ae 0 130 [.n .i64 0,.n .i64 0]]) S1 [5,3,2,1,0] [6] hq ?_ ?_ ?_ ?_ (by simp) rfl (by rfl) (by rfl) (.cons .lq (.cons .lq .nil)) ?_ ?_
  ·exact ba
  ·exact .cr (.j2) (.cr (.j2) (.cr (.k2 (λ_ _ _ _=>rfl)) (.cr (.k2 (λi j _ _=>aL _ i j)) (.cr .wk .nil))))
  ·exact⟨Wv.p rfl,Wv.n rfl,.cv (.bs1 (x:=_) (by simp) (by simp only[go_sem,simprocAttr]<;>rfl) (by rfl) (by simp only[go_sem,simprocAttr]) (by simp only[go_sem,simprocAttr]) (by simp only[go_sem,simprocAttr])),trivial⟩
  ·intro r x h
   simp only[go_sem,simprocAttr]
   exact h
  ·rintro v H' ⟨S2,hS2,rfl,rfl⟩
   have hact:b8 la 32 arg p l S1= .ok (S2,(1,0)):=by rw[hA,hS2];rfl
   refine⟨S2,ob,rfl,?_⟩
   simp only[wH,dB,List.cons_append,List.nil_append]
   repeat first|with_reducible refine GE.g ?_|simp only[go_sem,simprocAttr]
   refine fin [4,3,2,1,0] [] _ _ hact ?_ ?_ ?_ rfl
   ·exact ba
   ·exact .cr (.j2) (.cr (.j2) (.cr (.k2 (λ_ _ _ _=>rfl)) (.cr (.k2 (λi j _ _=>aL _ i j)) (.cr .wk .nil))))
   ·intro r x h
    simp only[go_sem,simprocAttr]
    exact h
  ·rintro c H' ⟨x,hx,rfl⟩
   exact hErr x (by rw[hA,hx];rfl)
 ·subst h
  have hA:b8 la 26 arg p l S1=cx (1,0) (bX p [(false,0,1)] S1):=rfl
  repeat first|with_reducible refine GE.g ?_|simp only[decide_true,decide_false,go_sem,simprocAttr]
  refine dd ([iv (0,1)]) (fC (0,1)) ?_
  simp only[vl]
  repeat first|with_reducible refine GE.g ?_|simp only[go_sem,simprocAttr]
  have hq:=ep la loc cs pt r ob p [(false,0,1)] ⟨by simp,by simp⟩ S1 (by omega) (by omega)
  refine bi la loc cs pt r ob (args2:=[.p 0 0,.n .i64 p,.fs 3 1 (sC [(false,0,1)])]) (L:=[(6,.p 3 0),(12,.p 4 0)]) (bl2:=[ae 0 130 [.n .i64 1,.n .i64 0],ae 0 130 [.n .i64 0,.n .i64 0]]) S1 [5,3,2,1,0] [6] hq ?_ ?_ ?_ ?_ (by simp) rfl (by rfl) (by rfl) (.cons .lq (.cons .lq .nil)) ?_ ?_
  ·exact ba
  ·exact .cr (.j2) (.cr (.j2) (.cr (.k2 (λ_ _ _ _=>rfl)) (.cr (.k2 (λi j _ _=>aL _ i j)) (.cr .wk .nil))))
  ·exact⟨Wv.p rfl,Wv.n rfl,.cv (.bs1 (x:=_) (by simp) (by simp only[go_sem,simprocAttr]<;>rfl) (by rfl) (by simp only[go_sem,simprocAttr]) (by simp only[go_sem,simprocAttr]) (by simp only[go_sem,simprocAttr])),trivial⟩
  ·intro r x h
   simp only[go_sem,simprocAttr]
   exact h
  ·rintro v H' ⟨S2,hS2,rfl,rfl⟩
   have hact:b8 la 26 arg p l S1= .ok (S2,(1,0)):=by rw[hA,hS2];rfl
   refine⟨S2,ob,rfl,?_⟩
   simp only[wH,dB,List.cons_append,List.nil_append]
   repeat first|with_reducible refine GE.g ?_|simp only[go_sem,simprocAttr]
   refine fin [4,3,2,1,0] [] _ _ hact ?_ ?_ ?_ rfl
   ·exact ba
   ·exact .cr (.j2) (.cr (.j2) (.cr (.k2 (λ_ _ _ _=>rfl)) (.cr (.k2 (λi j _ _=>aL _ i j)) (.cr .wk .nil))))
   ·intro r x h
    simp only[go_sem,simprocAttr]
    exact h
  ·rintro c H' ⟨x,hx,rfl⟩
   exact hErr x (by rw[hA,hx];rfl)
 ·subst h
  have hA:b8 la 5 arg p l S1=cx (1,0) (bX p [l.getD 0 v0,l.getD 0 v0] S1):=rfl
  have hl1:l.length=1:=by rw[hln];rfl
  repeat first|with_reducible refine GE.g ?_|simp only[decide_true,decide_false,hl1,Kk,IB,C5,go_sem,simprocAttr]
  have hq:=ep la loc cs pt r ob p [l.getD 0 v0,l.getD 0 v0] ⟨by simp,by simp⟩ S1 (by omega) (by omega)
  refine bi la loc cs pt r ob (args2:=[.p 0 0,.n .i64 p,.fs 3 2 (sC [l.getD 0 v0,l.getD 0 v0])]) (L:=[(6,.p 3 0),(12,.p 4 0)]) (bl2:=[ae 0 130 [.n .i64 1,.n .i64 0],ae 0 130 [.n .i64 0,.n .i64 0]]) S1 [5,3,2,1,0] [6] hq ?_ ?_ ?_ ?_ (by simp) rfl (by rfl) (by rfl) (.cons .lq (.cons .lq .nil)) ?_ ?_
  ·exact ba
  ·exact .cr (.j2) (.cr (.j2) (.cr (.k2 (λ_ _ _ _=>rfl)) (.cr (.k2 (λi j _ _=>aL _ i j)) (.cr .wk .nil))))
  ·exact⟨Wv.p rfl,Wv.n rfl,.cv (.bs2 (x:=_) (by simp) (by simp only[go_sem,simprocAttr]<;>rfl) (by rfl) (by simp only[go_sem,simprocAttr]) (by simp only[go_sem,simprocAttr]) (by simp only[go_sem,simprocAttr]) (by simp only[go_sem,simprocAttr]) (by simp only[go_sem,simprocAttr]) (by simp only[go_sem,simprocAttr])),trivial⟩
  ·intro r x h
   simp only[go_sem,simprocAttr]
   exact h
  ·rintro v H' ⟨S2,hS2,rfl,rfl⟩
   have hact:b8 la 5 arg p l S1= .ok (S2,(1,0)):=by rw[hA,hS2];rfl
   refine⟨S2,ob,rfl,?_⟩
   simp only[wH,dB,List.cons_append,List.nil_append]
   repeat first|with_reducible refine GE.g ?_|simp only[go_sem,simprocAttr]
   refine fin [4,3,2,1,0] [] _ _ hact ?_ ?_ ?_ rfl
   ·exact ba
   ·exact .cr (.j2) (.cr (.j2) (.cr (.k2 (λ_ _ _ _=>rfl)) (.cr (.k2 (λi j _ _=>aL _ i j)) (.cr .wk .nil))))
   ·intro r x h
    simp only[go_sem,simprocAttr]
    exact h
  ·rintro c H' ⟨x,hx,rfl⟩
   exact hErr x (by rw[hA,hx];rfl)
 ·subst h
  have hA:b8 la 7 arg p l S1=cx (1,0) (bX p [l.getD 1 v0,l.getD 0 v0] S1):=rfl
  have hl1:l.length=2:=by rw[hln];rfl
  repeat first|with_reducible refine GE.g ?_|simp only[decide_true,decide_false,hl1,Kk,IB,C5,go_sem,simprocAttr]
  have hq:=ep la loc cs pt r ob p [l.getD 1 v0,l.getD 0 v0] ⟨by simp,by simp⟩ S1 (by omega) (by omega)
  refine bi la loc cs pt r ob (args2:=[.p 0 0,.n .i64 p,.fs 3 2 (sC [l.getD 1 v0,l.getD 0 v0])]) (L:=[(6,.p 3 0),(12,.p 4 0)]) (bl2:=[ae 0 130 [.n .i64 1,.n .i64 0],ae 0 130 [.n .i64 0,.n .i64 0]]) S1 [5,3,2,1,0] [6] hq ?_ ?_ ?_ ?_ (by simp) rfl (by rfl) (by rfl) (.cons .lq (.cons .lq .nil)) ?_ ?_
  ·exact ba
  ·exact .cr (.j2) (.cr (.j2) (.cr (.k2 (λ_ _ _ _=>rfl)) (.cr (.k2 (λi j _ _=>aL _ i j)) (.cr .wk .nil))))
  ·exact⟨Wv.p rfl,Wv.n rfl,.cv (.bs2 (x:=_) (by simp) (by simp only[go_sem,simprocAttr]<;>rfl) (by rfl) (by simp only[go_sem,simprocAttr]) (by simp only[go_sem,simprocAttr]) (by simp only[go_sem,simprocAttr]) (by simp only[go_sem,simprocAttr]) (by simp only[go_sem,simprocAttr]) (by simp only[go_sem,simprocAttr])),trivial⟩
  ·intro r x h
   simp only[go_sem,simprocAttr]
   exact h
  ·rintro v H' ⟨S2,hS2,rfl,rfl⟩
   have hact:b8 la 7 arg p l S1= .ok (S2,(1,0)):=by rw[hA,hS2];rfl
   refine⟨S2,ob,rfl,?_⟩
   simp only[wH,dB,List.cons_append,List.nil_append]
   repeat first|with_reducible refine GE.g ?_|simp only[go_sem,simprocAttr]
   refine fin [4,3,2,1,0] [] _ _ hact ?_ ?_ ?_ rfl
   ·exact ba
   ·exact .cr (.j2) (.cr (.j2) (.cr (.k2 (λ_ _ _ _=>rfl)) (.cr (.k2 (λi j _ _=>aL _ i j)) (.cr .wk .nil))))
   ·intro r x h
    simp only[go_sem,simprocAttr]
    exact h
  ·rintro c H' ⟨x,hx,rfl⟩
   exact hErr x (by rw[hA,hx];rfl)
 ·subst h
  have hA:b8 la 6 arg p l S1= .ok (S1,(1,0)):=rfl
  repeat first|with_reducible refine GE.g ?_|simp only[decide_true,decide_false,go_sem,simprocAttr]
  have hact:b8 la 6 arg p l S1= .ok (S1,(1,0)):=hA
  refine fin [5,3,2,1,0] [] _ _ hact ?_ ?_ ?_ rfl
  ·exact ba
  ·exact .cr (.j2) (.cr (.j2) (.cr (.k2 (λ_ _ _ _=>rfl)) (.cr (.k2 (λi j _ _=>aL _ i j)) (.cr .wk .nil))))
  ·intro r x h
   simp only[go_sem,simprocAttr]
   exact h
 ·subst h
  have hA:b8 la 35 arg p l S1= .ok (S1,(1,0)):=rfl
  repeat first|with_reducible refine GE.g ?_|simp only[decide_true,decide_false,go_sem,simprocAttr]
  have hact:b8 la 35 arg p l S1= .ok (S1,(1,0)):=hA
  refine fin [5,3,2,1,0] [] _ _ hact ?_ ?_ ?_ rfl
  ·exact ba
  ·exact .cr (.j2) (.cr (.j2) (.cr (.k2 (λ_ _ _ _=>rfl)) (.cr (.k2 (λi j _ _=>aL _ i j)) (.cr .wk .nil))))
  ·intro r x h
   simp only[go_sem,simprocAttr]
   exact h
 ·subst h
  have hA:b8 la 34 arg p l S1= .ok (S1,(1,1)):=rfl
  repeat first|with_reducible refine GE.g ?_|simp only[decide_true,decide_false,go_sem,simprocAttr]
  have hact:b8 la 34 arg p l S1= .ok (S1,(1,1)):=hA
  refine fin [5,3,2,1,0] [] _ _ hact ?_ ?_ ?_ rfl
  ·exact ba
  ·exact .cr (.j2) (.cr (.j2) (.cr (.k2 (λ_ _ _ _=>rfl)) (.cr (.k2 (λi j _ _=>aL _ i j)) (.cr .wk .nil))))
  ·intro r x h
   simp only[go_sem,simprocAttr]
   exact h
 ·rcases h with h|h|h
  ·subst h
   have hl1:l.length=1:=by rw[hln];rfl
   have hl2:=hloc (.inr rfl)
   rw[<-h1loc] at hl2
   obtain⟨q,hq⟩:∃q:Nat,arg=q:=⟨arg.toNat,by omega⟩
   subst hq
   have hll3:S1.loc.length<1000:=by rw[h1loc];exact hll
   have hq0:(0:Int)<=(q:Int):=by omega
   have hqn:q<S1.loc.length:=by omega
   have hq2:q*2+2<=S1.loc.length*2:=by omega
   have hact:b8 la 2 q p l S1= .ok ({S1 with loc:=S1.loc.set q (l.getD 0 v0).2},(1,0)):=rfl
   repeat first|with_reducible refine GE.g ?_|simp only[decide_true,decide_false,go_sem,simprocAttr]
   refine dd ([.fs 2 S1.loc.length (vC S1.loc)]) (gx (by omega) (λi j _ _=>dk _ i j)) ?_
   repeat first|with_reducible refine GE.g ?_|simp only[decide_true,decide_false,hl1,IB,C5,hq0,hl2,hq2,Int.toNat_natCast,go_sem,simprocAttr]
   refine fin [5,3,2,1,0] [6] _ _ hact ?_ ?_ ?_ rfl
   ·exact ba
   ·simp only[wH,dB,List.length_set]
    exact .cr (.j2) (.cr (.j2) (.cr (.k2 (λ_ _ _ _=>rfl)) (.cr (.k2 (λi j _ _=>aL _ i j)) (.cr (.wk (hg:=λi hi=>by rcases qS hi with rfl|rfl|rfl|rfl|rfl|rfl|rfl|rfl|rfl|rfl|rfl<;>(simp only[go_sem,simprocAttr];first|exact Wv.same rfl|exact Wv.os rfl|exact .cv (.os (x:=(ai 127 2 S1.loc.length 0 (vC S1.loc)).putN (q*2) [.n .i64 (l.getD 0 v0).2.1,.n .i64 (l.getD 0 v0).2.2]) (by simp) (by simp only[go_sem,simprocAttr]<;>rfl) (Nat.le_refl _) (λi j hi hj=>Ii hqn (by omega) hi hj) (λi j _ _=>dk _ i j))))) .nil))))
   ·intro r x h
    simp only[go_sem,simprocAttr]
    exact h
  ·subst h
   have hl1:l.length=1:=by rw[hln];rfl
   have hA:b8 la 3 arg p l S1=(match dA la arg p (l.getD 0 v0) with| .error e=> .error e| .ok x=>cx (1,0) (bX p [(false,x)] S1)):=rfl
   repeat first|with_reducible refine GE.g ?_|simp only[decide_true,decide_false,hl1,Kk,IB,C5,go_sem,simprocAttr]
   refine bi la loc cs pt r ob (args2:=[.p 0 0,.n .i64 p,vl (l.getD 0 v0)]) (L:=[(6,.p 3 0),(12,.p 4 0),(118,.p 0 0),(119,.n .i64 p)]) (bl2:=[ae 0 130 [.n .i64 1,.n .i64 0],ae 0 130 [.n .i64 0,.n .i64 0]]) S1 [5,3,2,1,0] [] (hel (l.getD 0 v0) S1 ha.1 (hal (.inl rfl))) ?_ ?_ ?_ ?_ (by simp) rfl (by rfl) (by rfl) (.cons .lq (.cons .lq .nil)) ?_ ?_
   ·exact ba
   ·exact .cr (.j2) (.cr (.j2) (.cr (.k2 (λ_ _ _ _=>rfl)) (.cr (.k2 (λi j _ _=>aL _ i j)) (.cr .wk .nil))))
   ·exact⟨Wv.p rfl,Wv.n rfl,Wv.same rfl,trivial⟩
   ·intro r x h
    simp only[go_sem,simprocAttr]
    exact h
   ·rintro v H' ⟨y,hy,rfl,rfl⟩
    refine⟨S1,ob,rfl,?_⟩
    simp only[wH,dB,List.cons_append,List.nil_append,iv]
    repeat first|with_reducible refine GE.g ?_|simp only[go_sem,simprocAttr]
    refine dd ([iv y]) (fC y) ?_
    simp only[vl]
    repeat first|with_reducible refine GE.g ?_|simp only[go_sem,simprocAttr]
    have hq:=ep la loc cs pt r ob p [(false,y)] ⟨by simp,by simp⟩ S1 (by omega) (by omega)
    refine bi la loc cs pt r ob (args2:=[.p 0 0,.n .i64 p,.fs 3 1 (sC [(false,y)])]) (L:=[(6,.p 3 0),(12,.p 4 0)]) (bl2:=[ae 0 130 [.n .i64 1,.n .i64 0],ae 0 130 [.n .i64 0,.n .i64 0]]) S1 [4,3,2,1,0] [5] hq ?_ ?_ ?_ ?_ (by simp) rfl (by rfl) (by rfl) (.cons .lq (.cons .lq .nil)) ?_ ?_
    ·exact ba
    ·exact .cr (.j2) (.cr (.j2) (.cr (.k2 (λ_ _ _ _=>rfl)) (.cr (.k2 (λi j _ _=>aL _ i j)) (.cr .wk .nil))))
    ·exact⟨Wv.p rfl,Wv.n rfl,.cv (.bs1 (x:=_) (by simp) (by simp only[go_sem,simprocAttr]<;>rfl) (by rfl) (by simp only[go_sem,simprocAttr]) (by simp only[go_sem,simprocAttr]) (by simp only[go_sem,simprocAttr])),trivial⟩
    ·intro r x h
     simp only[go_sem,simprocAttr]
     exact h
    ·rintro v H' ⟨S2,hS2,rfl,rfl⟩
     have hact:b8 la 3 arg p l S1= .ok (S2,(1,0)):=by rw[hA,hy];show cx (1,0) (bX p [(false,y)] S1)=_;rw[hS2];rfl
     refine⟨S2,ob,rfl,?_⟩
     simp only[wH,dB,List.cons_append,List.nil_append]
     repeat first|with_reducible refine GE.g ?_|simp only[go_sem,simprocAttr]
     refine fin [4,3,2,1,0] [] _ _ hact ?_ ?_ ?_ rfl
     ·exact ba
     ·exact .cr (.j2) (.cr (.j2) (.cr (.k2 (λ_ _ _ _=>rfl)) (.cr (.k2 (λi j _ _=>aL _ i j)) (.cr .wk .nil))))
     ·intro r x h
      simp only[go_sem,simprocAttr]
      exact h
    ·rintro c H' ⟨x,hx,rfl⟩
     exact hErr x (by rw[hA,hy];show cx (1,0) (bX p [(false,y)] S1)=_;rw[hx];rfl)
   ·rintro c H' ⟨x,hx,rfl⟩
    exact hErr x (by rw[hA,hx])
  ·subst h
   have hl1:l.length=2:=by rw[hln];rfl
   have hA:b8 la 4 arg p l S1=(match dA la arg p (l.getD 0 v0) with| .error e=> .error e| .ok x=> .ok (S1,(1,0))):=rfl
   repeat first|with_reducible refine GE.g ?_|simp only[decide_true,decide_false,hl1,Kk,IB,C5,go_sem,simprocAttr]
   refine bi la loc cs pt r ob (args2:=[.p 0 0,.n .i64 p,vl (l.getD 0 v0)]) (L:=[(6,.p 3 0),(12,.p 4 0)]) (bl2:=[ae 0 130 [.n .i64 1,.n .i64 0],ae 0 130 [.n .i64 0,.n .i64 0]]) S1 [5,3,2,1,0] [] (hel (l.getD 0 v0) S1 ha.1 (hal (.inr rfl))) ?_ ?_ ?_ ?_ (by simp) rfl (by rfl) (by rfl) (.cons .lq (.cons .lq .nil)) ?_ ?_
   ·exact ba
   ·exact .cr (.j2) (.cr (.j2) (.cr (.k2 (λ_ _ _ _=>rfl)) (.cr (.k2 (λi j _ _=>aL _ i j)) (.cr .wk .nil))))
   ·exact⟨Wv.p rfl,Wv.n rfl,Wv.same rfl,trivial⟩
   ·intro r x h
    simp only[go_sem,simprocAttr]
    exact h
   ·rintro v H' ⟨y,hy,rfl,rfl⟩
    refine⟨S1,ob,rfl,?_⟩
    simp only[wH,dB,List.cons_append,List.nil_append,iv]
    repeat first|with_reducible refine GE.g ?_|simp only[go_sem,simprocAttr]
    have hact:b8 la 4 arg p l S1= .ok (S1,(1,0)):=by rw[hA,hy]
    refine fin [4,3,2,1,0] [] _ _ hact ?_ ?_ ?_ rfl
    ·exact ba
    ·exact .cr (.j2) (.cr (.j2) (.cr (.k2 (λ_ _ _ _=>rfl)) (.cr (.k2 (λi j _ _=>aL _ i j)) (.cr .wk .nil))))
    ·intro r x h
     simp only[go_sem,simprocAttr]
     exact h
   ·rintro c H' ⟨x,hx,rfl⟩
    exact hErr x (by rw[hA,hx])
 ·have hs2:(eU op).2=[116]:=by rcases(show op=21\/op=22\/op=23\/op=24\/op=25\/op=33 by omega) with rfl|rfl|rfl|rfl|rfl|rfl<;>rfl
  have n0:¬op=0:=by omega
  have n1:¬op=1:=by omega
  have n2:¬op=2:=by omega
  have n3:¬op=3:=by omega
  have n4:¬op=4:=by omega
  have n5:¬op=5:=by omega
  have n7:¬op=7:=by omega
  have n6:¬op=6:=by omega
  have n35:¬op=35:=by omega
  have n34:¬op=34:=by omega
  have n32:¬op=32:=by omega
  have n26:¬op=26:=by omega
  have hA:b8 la op arg p l S1=cx (1,0) (bX p [(true,0,0)] S1):=by unfold b8;rw[if_neg n0,if_neg n1,if_neg n2,if_neg n3,if_neg n4,if_neg n5,if_neg n7,if_neg (by omega),if_neg n34,if_neg n32,if_neg n26,if_pos hs2]
  repeat first|with_reducible refine GE.g ?_|simp only[decide_true,decide_false,n0,n1,n2,n3,n4,n5,n7,n6,n35,n34,n32,n26,hs2,go_sem,simprocAttr]
  have hq:=ep la loc cs pt r ob p [(true,0,0)] ⟨by simp,by simp⟩ S1 (by omega) (by omega)
  refine bi la loc cs pt r ob (args2:=[.p 0 0,.n .i64 p,.fs 3 1 (sC [(true,0,0)])]) (L:=[(6,.p 3 0),(12,.p 4 0)]) (bl2:=[ae 0 130 [.n .i64 1,.n .i64 0],ae 0 130 [.n .i64 0,.n .i64 0]]) S1 [5,3,2,1,0] [6] hq ?_ ?_ ?_ ?_ (by simp) rfl (by rfl) (by rfl) (.cons .lq (.cons .lq .nil)) ?_ ?_
  ·exact ba
  ·exact .cr (.j2) (.cr (.j2) (.cr (.k2 (λ_ _ _ _=>rfl)) (.cr (.k2 (λi j _ _=>aL _ i j)) (.cr .wk .nil))))
  ·exact⟨Wv.p rfl,Wv.n rfl,.cv (.bs1 (x:=_) (by simp) (by simp only[go_sem,simprocAttr]<;>rfl) (by rfl) (by simp only[go_sem,simprocAttr]) (by simp only[go_sem,simprocAttr]) (by simp only[go_sem,simprocAttr])),trivial⟩
  ·intro r x h
   simp only[go_sem,simprocAttr]
   exact h
  ·rintro v H' ⟨S2,hS2,rfl,rfl⟩
   have hact:b8 la op arg p l S1= .ok (S2,(1,0)):=by rw[hA,hS2];rfl
   refine⟨S2,ob,rfl,?_⟩
   simp only[wH,dB,List.cons_append,List.nil_append]
   repeat first|with_reducible refine GE.g ?_|simp only[go_sem,simprocAttr]
   refine fin [4,3,2,1,0] [] _ _ hact ?_ ?_ ?_ rfl
   ·exact ba
   ·exact .cr (.j2) (.cr (.j2) (.cr (.k2 (λ_ _ _ _=>rfl)) (.cr (.k2 (λi j _ _=>aL _ i j)) (.cr .wk .nil))))
   ·intro r x h
    simp only[go_sem,simprocAttr]
    exact h
  ·rintro c H' ⟨x,hx,rfl⟩
   exact hErr x (by rw[hA,hx];rfl)
 ·have n0:¬op=0:=by omega
  have n1:¬op=1:=by omega
  have n2:¬op=2:=by omega
  have n3:¬op=3:=by omega
  have n4:¬op=4:=by omega
  have n5:¬op=5:=by omega
  have n7:¬op=7:=by omega
  have n6:¬op=6:=by omega
  have n35:¬op=35:=by omega
  have n34:¬op=34:=by omega
  have n32:¬op=32:=by omega
  have n26:¬op=26:=by omega
  have hs2:(eU op).2=[110]:=by rcases(show op=8\/op=9\/op=10\/op=11\/op=12\/op=13\/op=14\/op=15\/op=16\/op=17\/op=18\/op=19\/op=20 by omega) with rfl|rfl|rfl|rfl|rfl|rfl|rfl|rfl|rfl|rfl|rfl|rfl|rfl<;>rfl
  have hl1:l.length=2:=by rw[hln];rcases(show op=8\/op=9\/op=10\/op=11\/op=12\/op=13\/op=14\/op=15\/op=16\/op=17\/op=18\/op=19\/op=20 by omega) with rfl|rfl|rfl|rfl|rfl|rfl|rfl|rfl|rfl|rfl|rfl|rfl|rfl<;>rfl
  have hA:b8 la op arg p l S1=if(bm op (l.getD 0 v0).2 (l.getD 1 v0).2).2=0 then cx (1,0) (bX p [(false,(bm op (l.getD 0 v0).2 (l.getD 1 v0).2).1)] S1) else .error (p,(bm op (l.getD 0 v0).2 (l.getD 1 v0).2).2):=by unfold b8;rw[if_neg n0,if_neg n1,if_neg n2,if_neg n3,if_neg n4,if_neg n5,if_neg n7,if_neg (by omega),if_neg n34,if_neg n32,if_neg n26,if_neg (by rw[hs2];decide)]
  have hap:=re op h.1 h.2 (l.getD 0 v0).2 (l.getD 1 v0).2 (du hlok 0) (du hlok 1)
  generalize hz:bm op (l.getD 0 v0).2 (l.getD 1 v0).2=z at*
  repeat first|with_reducible refine GE.g ?_|simp only[decide_true,decide_false,n0,n1,n2,n3,n4,n5,n7,n6,n35,n34,n32,n26,hs2,ZQ,go_sem,simprocAttr]
  refine GE.cut (aB [(0,.p 0 0),(1,.n .i64 p),(6,.p 3 0),(12,.p 4 0),(13,.p 5 0),(14,.n .i64 z.2)]) (az ob ([ae 0 127 [.n .i64 z.1.1,.n .i64 z.1.2],ae 0 130 [.n .i64 1,.n .i64 0],ae 0 130 [.n .i64 0,.n .i64 0]]++wH la loc cs pt r S1)) ?_ ?_
  ·refine GE.frkm aF 6 (by simp only[bI,go_sem,simprocAttr]) ?_
   simp only[hl1,Kk,IB,C5,go_sem,simprocAttr]
   repeat' with_reducible refine a7 ?_ ?_
   all_goals
    refine Kq ([.n .i64 op,iv (l.getD 0 v0).2,iv (l.getD 1 v0).2]) hap ?_
    simp only[iv,go_sem,simprocAttr]
    repeat' with_reducible refine a7 ?_ ?_
   any_goals decide
   all_goals
    refine b6.mkO (ob:=ob) [6,5,3,2,1,0] [] ?_ ?_ ?_ ?_ (aC rfl)
    ·exact ba
    ·exact .cr (.j2) (.cr (.j2) (.cr (.j2) (.cr (.k2 (λ_ _ _ _=>rfl)) (.cr (.k2 (λi j _ _=>aL _ i j)) (.cr .wk .nil)))))
    ·simp[wH]
    ·intro r x h
     simp only[go_sem,simprocAttr]
     exact h
  ·simp only[wH,dB,List.cons_append,List.nil_append]
   by_cases hz0:z.2=0
   ·rw[if_pos hz0] at hA
    have hz1:=eq_true hz0
    repeat first|with_reducible refine GE.g ?_|simp only[hz1,decide_true,decide_false,go_sem,simprocAttr]
    refine dd ([.b true,.n .i64 p,.n .i64 z.2]) (cy p z.2) ?_
    repeat first|with_reducible refine GE.g ?_|simp only[go_sem,simprocAttr]
    refine dd ([iv z.1]) (fC z.1) ?_
    simp only[vl]
    repeat first|with_reducible refine GE.g ?_|simp only[go_sem,simprocAttr]
    have hq:=ep la loc cs pt r ob p [(false,z.1)] ⟨by simp,by simp⟩ S1 (by omega) (by omega)
    refine bi la loc cs pt r ob (args2:=[.p 0 0,.n .i64 p,.fs 3 1 (sC [(false,z.1)])]) (L:=[(6,.p 3 0),(12,.p 4 0)]) (bl2:=[ae 0 130 [.n .i64 1,.n .i64 0],ae 0 130 [.n .i64 0,.n .i64 0]]) S1 [4,3,2,1,0] [6] hq ?_ ?_ ?_ ?_ (by simp) rfl (by rfl) (by rfl) (.cons .lq (.cons .lq .nil)) ?_ ?_
    ·exact ba
    ·exact .cr (.j2) (.cr (.j2) (.cr (.k2 (λ_ _ _ _=>rfl)) (.cr (.k2 (λi j _ _=>aL _ i j)) (.cr .wk .nil))))
    ·exact⟨Wv.p rfl,Wv.n rfl,.cv (.bs1 (x:=_) (by simp) (by simp only[go_sem,simprocAttr]<;>rfl) (by rfl) (by simp only[go_sem,simprocAttr]) (by simp only[go_sem,simprocAttr]) (by simp only[go_sem,simprocAttr])),trivial⟩
    ·intro r x h
     simp only[go_sem,simprocAttr]
     exact h
    ·rintro v H' ⟨S2,hS2,rfl,rfl⟩
     have hact:b8 la op arg p l S1= .ok (S2,(1,0)):=by rw[hA,hS2];rfl
     refine⟨S2,ob,rfl,?_⟩
     simp only[wH,dB,List.cons_append,List.nil_append]
     repeat first|with_reducible refine GE.g ?_|simp only[go_sem,simprocAttr]
     refine fin [4,3,2,1,0] [] _ _ hact ?_ ?_ ?_ rfl
     ·exact ba
     ·exact .cr (.j2) (.cr (.j2) (.cr (.k2 (λ_ _ _ _=>rfl)) (.cr (.k2 (λi j _ _=>aL _ i j)) (.cr .wk .nil))))
     ·intro r x h
      simp only[go_sem,simprocAttr]
      exact h
    ·rintro c H' ⟨x,hx,rfl⟩
     exact hErr x (by rw[hA,hx];rfl)
   ·rw[if_neg hz0] at hA
    repeat first|with_reducible refine GE.g ?_|simp only[hz0,decide_true,decide_false,go_sem,simprocAttr]
    exact aM [] (fargs:=[.b false,.n .i64 p,.n .i64 z.2]) (cm.same rfl) (cV p z.2) (hErr _ hA)
end
end Go.Proofs.YtdpkgnmmikebdaaGreat
namespace Go.Proofs.YtdpkgnmmikebdaaGreat
open Go.RowKit
def dz:List (Int×Int)->Int->Option Int
 |[],_=>none
 |x::l,k=>if x.1=k then some x.2 else dz l k
def lK(r:Nat)(ob:Nat->Option OB)(lp:List (Int×Int)):Prop:=∃mx:fW,ob r=some (.mp mx)/\mx.own=true/\∀k,mx.get k=(dz lp k).map λn=> .agg [.n .i64 k,.n .i64 n,.ow]
section
variable (la:List (Bool×Int)) (loc:Int) (cs:List (Int×Int)) (pt:List Int) (r:Nat)
def IV(mk:Bd->AV)(x:Option (Except Er (WS×Bd)))(v:AV)(H':AH):Prop:=∃S' z ob',x=some (.ok (S',z))/\v=mk z/\lK r ob' S'.lp/\H'=az ob' (wH la loc cs pt r S')
def IW(x:Option (Except Er (WS×Bd)))(c:List PanicEntry)(_:AH):Prop:=∃e:Er,x=some (.error e)/\c=ea e.1 e.2
def oP(n:Nat)(o:Fo):Prop:=∀(a b base lp:Nat) (S:WS) (ob:Nat->Option OB),aA cs pt o a b->b<=cs.length->base<=32->lp<=32->WF n S->Sm a S->lK r ob S.lp->
 PC Tryz.prog bG 55 [.p 0 0,.n .i64 a,.n .i64 b,.n .i64 base,.n .i64 lp] (az ob (wH la loc cs pt r S)) (IV la loc cs pt r gP (aW cs la o base lp S (0,0))) (IW (aW cs la o base lp S (0,0)))
theorem wK(n:Nat)(hn:n<1000)(hcs:cs.length<=1024)(hpt:pt.length=cs.length)(hA:kS cs)(x y:Nat)(u v:Fo)(base lp:Nat)(S:WS)(ob:Nat->Option OB)(hU:oP la loc cs pt r n u)(hV:oP la loc cs pt r n v)(hg:aA cs pt (.br 27 x y u v .nil) x y)(hy:y<=cs.length)(hb:base<=32)(hlp:lp<=32)(hW:WF n S)(hS:Sm x S)(hM:lK r ob S.lp):
  PC Tryz.prog bG 86 [.p 0 0,.n .i64 x,.n .i64 base,.n .i64 lp] (az ob (wH la loc cs pt r S)) (IV la loc cs pt r (λz=> .tup [gP z,.n .i64 ((y-1:Nat))]) (eA cs la x u v base lp S)) (IW (eA cs la x u v base lp S)):=by
 obtain⟨_,hop,_,⟨m,g1,g2,g3,g4,g5⟩,_⟩:=hg
 refine PC.vw (cI Rf ⟨by simp,by decide⟩ ?_)
 simp only[aH,wH,dB]
 have x0:(0:Int)<=(x:Int):=by omega
 have xl:(x:Int)<(pt.length:Int):=by omega
 have m0:(0:Int)<=(m:Int):=by omega
 have ml:(m:Int)<(cs.length:Int):=by omega
 have hpm:iC pt x 0= .n .i64 m:=by rw[Wf,g1]
 have wx:IntKind.i64.wrap ((x:Int)+1)=((x+1:Nat):Int):=(am (by omega)).trans (by omega)
 repeat first|with_reducible refine GE.g ?_|simp only[go_sem,simprocAttr]
 refine bi la loc cs pt r ob (args2:=[.p 0 0,.n .i64 x,.n .i64 base,.s ⟨#[116]⟩]) (L:=[(0,.p 0 0),(1,.n .i64 x),(3,.n .i64 lp),(8,.p 3 0)]) (bl2:=[ae 0 130 [.n .i64 0,.n .i64 0]]) S [3,2,1,0] [] (pe la loc cs pt r ob x base [116] (by simp) (by omega) S (by have:=hS.st;omega)) ?_ ?_ ?_ ?_ (by simp) rfl (by rfl) (by rfl) (.cons .lq .nil) ?_ ?_
 ·exact ba
 ·exact .cr (.j2) (.cr (.k2 (λ_ _ _ _=>rfl)) (.cr (.k2 (λi j _ _=>aL _ i j)) (.cr .wk .nil)))
 ·exact⟨Wv.p rfl,Wv.n rfl,Wv.n rfl,Wv.same rfl,trivial⟩
 ·intro r x h
  simp only[go_sem,simprocAttr]
  exact h
 ·rintro v H' ⟨l,S1,hp,rfl,rfl⟩
  refine⟨S1,ob,rfl,?_⟩
  simp only[wH,dB,List.cons_append,List.nil_append]
  obtain⟨w1,w2,w3,w4,w5⟩:=ce hp hW
  have s1:=gi hp hS
  obtain⟨h,hh⟩:∃h,h=S1.st.length:=⟨_,rfl⟩
  have hh32:=s1.st
  have hM1:lK r ob S1.lp:=by rw[w5];exact hM
  have hu:=hU (x+1) m h lp S1 ob g4 (by omega) (by omega) (by omega) w1 (s1.le (by omega)) hM1
  have hC1:eA cs la x u v base lp S=(match aW cs la u h lp S1 (0,0) with
   |none=>none
   |some (.error e)=>some (.error e)
   |some (.ok (S2,bx))=>
    if S2.st.length=h then
     if aj cs m=28 then match aW cs la v h lp {S2 with loc:=S1.loc} (0,0) with
      |none=>none
      |some (.error e)=>some (.error e)
      |some (.ok (S4,by_))=>
       if S4.st.length=h then some (.ok ({S4 with loc:=bL S2.loc S4.loc},bA (aU bx.1 by_.1,aU bx.2 by_.2) (1,0)))
       else some (.error ((v.lastB (m+1):Nat),14))
     else some (.ok ({S2 with loc:=bL S2.loc S1.loc},bA (aU bx.1 0,aU bx.2 0) (1,0)))
    else some (.error ((m:Nat),14))):=by
   unfold eA
   rw[hp,g4.lastB,hh]
   rfl
  repeat first|with_reducible refine GE.g ?_|simp only[x0,xl,hpm,Int.toNat_natCast,wx,go_sem,simprocAttr]
  refine bi la loc cs pt r ob (args2:=[.p 0 0,.n .i64 ((x+1:Nat)),.n .i64 m,.n .i64 h,.n .i64 lp]) (L:=[(0,.p 0 0),(3,.n .i64 lp),(8,.p 3 0),(10,.n .i64 m),(11,.n .i64 m),(12,.fs 2 S1.loc.length (vC S1.loc)),(13,.n .i64 h)]) (bl2:=[ae 0 130 [.n .i64 0,.n .i64 0]]) S1 [3,2,1,0] [] (hu) ?_ ?_ ?_ ?_ (by simp) rfl (by rfl) (by rfl) (.cons .lq .nil) ?_ ?_
  ·simp only[d9,cM,hh,go_sem,simprocAttr]
   repeat' refine a7 ?_ ?_
   all_goals first|exact iI|skip
  ·exact .cr (.j2) (.cr (.k2 (λ_ _ _ _=>rfl)) (.cr (.k2 (λi j _ _=>aL _ i j)) (.cr .wk .nil)))
  ·exact⟨Wv.p rfl,Wv.n rfl,Wv.n rfl,Wv.n (by rw[hh]),Wv.n rfl,trivial⟩
  ·intro r x h
   simp only[go_sem,simprocAttr]
   exact h
  ·rintro v' H' ⟨S2,bx,ob2,hu2,rfl,hM2,rfl⟩
   refine⟨S2,ob2,rfl,?_⟩
   simp only[wH,dB,List.cons_append,List.nil_append,gP]
   rw[hu2] at hC1
   dsimp only at hC1
   have w6:=aQ hA u (x+1) m h lp g4 hu2 w1 jE
   have s2:=ck u (x+1) m h lp g4 hu2 (s1.le (by omega))
   have hlvl:=ij la loc cs pt r ob2 m h S2 (by have:=s2.st;omega)
   repeat first|with_reducible refine GE.g ?_|simp only[go_sem,simprocAttr]
   refine bi la loc cs pt r ob2 (args2:=[.p 0 0,.n .i64 m,.n .i64 h]) (L:=[(0,.p 0 0),(3,.n .i64 lp),(8,.p 3 0),(10,.n .i64 m),(11,.n .i64 m),(12,.fs 2 S1.loc.length (vC S1.loc)),(13,.n .i64 h),(14,.p 4 0),(15,.p 5 0)]) (bl2:=[ae 0 130 [.n .i64 0,.n .i64 0],ae 0 130 [.n .i64 bx.1,.n .i64 bx.2],ae 0 130 [.n .i64 0,.n .i64 0]]) S2 [5,4,3,2,1,0] [] (hlvl) ?_ ?_ ?_ ?_ (by simp) rfl (by rfl) (by rfl) (.cons .lq (.cons .lq (.cons .lq .nil))) ?_ ?_
   ·exact ba
   ·exact .cr (.j2) (.cr (.j2) (.cr (.j2) (.cr (.k2 (λ_ _ _ _=>rfl)) (.cr (.k2 (λi j _ _=>aL _ i j)) (.cr .wk .nil)))))
   ·exact⟨Wv.p rfl,Wv.n rfl,Wv.n rfl,trivial⟩
   ·intro r x h
    simp only[go_sem,simprocAttr]
    exact h
   ·rintro v' H' ⟨hl,rfl,rfl⟩
    refine⟨S2,ob2,rfl,?_⟩
    simp only[wH,dB,List.cons_append,List.nil_append]
    have hl2:S2.st.length=h:=by
     unfold lF at hl
     split at hl
     ·assumption
     ·cases hl
    rw[if_pos hl2] at hC1
    have hll:S2.loc.length=S1.loc.length:=by rw[w6.1.wf.loc.1,w1.loc.1]
    have hll2:S2.loc.length<100000:=by rw[w6.1.wf.loc.1];omega
    have em:pI cs m 0= .n .i64 (aj cs m):=rfl
    by_cases h28:aj cs m=28
    ·rw[if_pos h28] at hC1
     rcases g5 with⟨_,e,q1,q2,q3,q4,rfl⟩|⟨q0,_⟩
     rotate_left
     ·exact absurd h28 q0
     have hpe:iC pt m 0= .n .i64 e:=by rw[Wf,q1]
     have mlp:(m:Int)<(pt.length:Int):=by omega
     have wm:IntKind.i64.wrap ((m:Int)+1)=((m+1:Nat):Int):=(am (by omega)).trans (by omega)
     have w3':WF n {S2 with loc:=S1.loc}:=⟨w1.loc,w6.1.wf.st,w6.1.wf.lv⟩
     have s3:Sm (m+1) {S2 with loc:=S1.loc}:=⟨s2.st,s2.ht,Nat.le_trans s2.lv (by omega)⟩
     have hv:=hV (m+1) e h lp {S2 with loc:=S1.loc} ob2 q4 (by omega) (by omega) (by omega) w3' s3 hM2
     repeat first|with_reducible refine GE.g ?_|simp only[m0,ml,mlp,em,h28,hpe,wm,Int.toNat_natCast,decide_true,go_sem,simprocAttr]
     refine bi la loc cs pt r ob2 (args2:=[.p 0 0,.n .i64 ((m+1:Nat)),.n .i64 e,.n .i64 h,.n .i64 lp]) (L:=[(0,.p 0 0),(3,.n .i64 lp),(8,.p 3 0),(11,.n .i64 e),(13,.n .i64 h),(14,.p 4 0),(15,.p 5 0),(16,.fs 2 S2.loc.length (vC S2.loc))]) (bl2:=[ae 0 130 [.n .i64 0,.n .i64 0],ae 0 130 [.n .i64 bx.1,.n .i64 bx.2],ae 0 130 [.n .i64 0,.n .i64 0]]) {S2 with loc:=S1.loc} [5,4,3,2,1,0] [] (hv) ?_ ?_ ?_ ?_ (by simp) rfl (by rfl) (by rfl) (.cons .lq (.cons .lq (.cons .lq .nil))) ?_ ?_
     ·exact ba
     ·exact .cr (.j2) (.cr (.j2) (.cr (.j2) (.cr (.k2 (λ_ _ _ _=>rfl)) (.cr (.k2 (λi j _ _=>aL _ i j)) (.cr .wk .nil)))))
     ·exact⟨Wv.p rfl,Wv.n rfl,Wv.n rfl,Wv.n rfl,Wv.n rfl,trivial⟩
     ·intro r x h
      simp only[go_sem,simprocAttr]
      exact h
     ·rintro v' H' ⟨S4,bv,ob4,hv2,rfl,hM4,rfl⟩
      refine⟨S4,ob4,rfl,?_⟩
      simp only[wH,dB,List.cons_append,List.nil_append,gP]
      rw[hv2] at hC1
      dsimp only at hC1
      have w7:=aQ hA v (m+1) e h lp q4 hv2 w3' jE
      have s4:=ck v (m+1) e h lp q4 hv2 s3
      have hlve:=ij la loc cs pt r ob4 e h S4 (by have:=s4.st;omega)
      repeat first|with_reducible refine GE.g ?_|simp only[go_sem,simprocAttr]
      refine bi la loc cs pt r ob4 (args2:=[.p 0 0,.n .i64 e,.n .i64 h]) (L:=[(0,.p 0 0),(3,.n .i64 lp),(8,.p 3 0),(11,.n .i64 e),(13,.n .i64 h),(14,.p 4 0),(15,.p 5 0),(16,.fs 2 S2.loc.length (vC S2.loc))]) (bl2:=[ae 0 130 [.n .i64 bv.1,.n .i64 bv.2],ae 0 130 [.n .i64 bx.1,.n .i64 bx.2],ae 0 130 [.n .i64 0,.n .i64 0]]) S4 [5,4,3,2,1,0] [] (hlve) ?_ ?_ ?_ ?_ (by simp) rfl (by rfl) (by rfl) (.cons .lq (.cons .lq (.cons .lq .nil))) ?_ ?_
      ·exact ba
      ·exact .cr (.j2) (.cr (.j2) (.cr (.j2) (.cr (.k2 (λ_ _ _ _=>rfl)) (.cr (.k2 (λi j _ _=>aL _ i j)) (.cr .wk .nil)))))
      ·exact⟨Wv.p rfl,Wv.n rfl,Wv.n rfl,trivial⟩
      ·intro r x h
       simp only[go_sem,simprocAttr]
       exact h
      ·rintro v' H' ⟨hl,rfl,rfl⟩
       refine⟨S4,ob4,rfl,?_⟩
       simp only[wH,dB,List.cons_append,List.nil_append]
       have hl4:S4.st.length=h:=by
        unfold lF at hl
        split at hl
        ·assumption
        ·cases hl
       rw[if_pos hl4] at hC1
       have hll4:S4.loc.length=S2.loc.length:=by rw[w7.1.wf.loc.1,w6.1.wf.loc.1]
       have hmx:nQ (aU bx.1 bv.1,aU bx.2 bv.2):=by have:=w6.2;have:=w7.2;unfold jf at*;unfold aU;refine⟨⟨?_,?_⟩,?_,?_⟩<;>split<;>omega
       repeat first|with_reducible refine GE.g ?_|simp only[go_sem,simprocAttr]
       refine dd ([.fs 2 S2.loc.length (vC S2.loc),.fs 2 S4.loc.length (vC S4.loc)]) (ks S2.loc S4.loc (by omega) hll2) ?_
       repeat first|with_reducible refine GE.g ?_|simp only[go_sem,simprocAttr]
       refine dd ([gP (aU bx.1 bv.1,aU bx.2 bv.2),gP (1,0)]) (iJ _ _ hmx kq) ?_
       simp only[gP]
       repeat first|with_reducible refine GE.g ?_|simp only[go_sem,simprocAttr]
       refine wZ (ob:=ob4) [2,1,0] [6] (.tup [gP (bA (aU bx.1 bv.1,aU bx.2 bv.2) (1,0)),.n .i64 (e:Nat)]) (wH la loc cs pt r {S4 with loc:=bL S2.loc S4.loc}) ?_ (.cv (.rfl rfl)) (by simp[wH]) (λr x h=>by simp only[go_sem,simprocAttr];exact h) (aC rfl) ⟨_,_,ob4,hC1,rfl,hM4,rfl⟩
       simp only[wH,dB,eC]
       exact .cr (.k2 (λ_ _ _ _=>rfl)) (.cr (.k2 (λi j _ _=>aL _ i j)) (.cr (.wk (hg:=λi hi=>by rcases qS hi with rfl|rfl|rfl|rfl|rfl|rfl|rfl|rfl|rfl|rfl|rfl<;>(simp only[go_sem,simprocAttr];first|exact Wv.same rfl|exact Wv.os rfl|exact .cv (.ownb (ty:=127) (z:=0) (by simp only[go_sem,simprocAttr]<;>rfl) (λi j _ _=>dk _ i j) (by simp))))) .nil))
      ·rintro c H' ⟨e',he,rfl⟩
       refine⟨e',?_,rfl⟩
       rw[hC1]
       unfold lF at he
       split at he
       ·cases he
       ·rename_i hne
        rw[if_neg hne,q4.lastB]
        cases he
        rfl
     ·rintro c H' ⟨e,he,rfl⟩
      exact⟨e,by rw[hC1,he],rfl⟩
    ·rw[if_neg h28] at hC1
     rcases g5 with⟨q0,_⟩|⟨_,_,rfl⟩
     ·exact absurd q0 h28
     have hmx:nQ (aU bx.1 0,aU bx.2 0):=by have:=w6.2;unfold jf at this;unfold aU;refine⟨⟨?_,?_⟩,?_,?_⟩<;>split<;>omega
     repeat first|with_reducible refine GE.g ?_|simp only[m0,ml,em,h28,Int.toNat_natCast,decide_false,go_sem,simprocAttr]
     refine dd ([.fs 2 S2.loc.length (vC S2.loc),.fs 2 S1.loc.length (vC S1.loc)]) (ks S2.loc S1.loc (by omega) hll2) ?_
     repeat first|with_reducible refine GE.g ?_|simp only[go_sem,simprocAttr]
     refine dd ([gP (aU bx.1 0,aU bx.2 0),gP (1,0)]) (iJ _ _ hmx kq) ?_
     simp only[gP]
     repeat first|with_reducible refine GE.g ?_|simp only[go_sem,simprocAttr]
     refine wZ (ob:=ob2) [2,1,0] [6] (.tup [gP (bA (aU bx.1 0,aU bx.2 0) (1,0)),.n .i64 (m:Nat)]) (wH la loc cs pt r {S2 with loc:=bL S2.loc S1.loc}) ?_ (.cv (.rfl rfl)) (by simp[wH]) (λr x h=>by simp only[go_sem,simprocAttr];exact h) (aC rfl) ⟨_,_,ob2,hC1,rfl,hM2,rfl⟩
     simp only[wH,dB,eC]
     exact .cr (.k2 (λ_ _ _ _=>rfl)) (.cr (.k2 (λi j _ _=>aL _ i j)) (.cr (.wk (hg:=λi hi=>by rcases qS hi with rfl|rfl|rfl|rfl|rfl|rfl|rfl|rfl|rfl|rfl|rfl<;>(simp only[go_sem,simprocAttr];first|exact Wv.same rfl|exact Wv.os rfl|exact .cv (.ownb (ty:=127) (z:=0) (by simp only[go_sem,simprocAttr]<;>rfl) (λi j _ _=>dk _ i j) (by simp))))) .nil))
   ·rintro c H' ⟨e,he,rfl⟩
    refine⟨e,?_,rfl⟩
    rw[hC1]
    unfold lF at he
    split at he
    ·cases he
    ·rename_i hne
     rw[if_neg hne]
     cases he
     rfl
  ·rintro c H' ⟨e,he,rfl⟩
   exact⟨e,by rw[hC1,he],rfl⟩
 ·rintro c H' ⟨e,he,rfl⟩
  exact⟨e,by unfold eA;rw[he],rfl⟩
end
end Go.Proofs.YtdpkgnmmikebdaaGreat
namespace Go.Proofs.YtdpkgnmmikebdaaGreat
open Go.RowKit
def JK(cs:List (Int×Int))(i:Nat):Nat->Nat->Nat->Int
 |_,0,_=> -1
 |p,n+1,k=>if cs.getD p (0,0)=(2,(i:Int)) then(k:Int) else JK cs i (p+1) n (k+1)
theorem uu{cs:List (Int×Int)}{i:Nat}:∀(n p k:Nat),decide (0<=JK cs i p n k)=stoF cs p n i
 |0,p,k=>rfl
 |n+1,p,k=>by
  unfold JK stoF
  by_cases h:cs.getD p (0,0)=(2,(i:Int))
  ·rw[if_pos h,decide_eq_true h,decide_eq_true (by omega)];rfl
  ·rw[if_neg h,decide_eq_false h,uu n];rfl
theorem uC(a b c d:Int):nP 9 (.st [(0,1,.n),(1,1,.n)]) (.agg [.n .i64 a,.n .u32 b]) (.agg [.n .i64 c,.n .u32 d])=some (decide ((c,d)=(a,b))):=by
 have h:nP 9 (.st [(0,1,.n),(1,1,.n)]) (.agg [.n .i64 a,.n .u32 b]) (.agg [.n .i64 c,.n .u32 d])=some (a==c&&(b==d&&true)):=rfl
 rw[h]
 congr 1
 rw[Cg,Cg,Bool.and_true]
 by_cases h1:a=c
 ·by_cases h2:b=d
  ·subst h1;subst h2;simp
  ·rw[decide_eq_false h2,Bool.and_false,decide_eq_false (λe=>h2 (Prod.mk.inj e).2.symm)]
 ·rw[decide_eq_false h1,Bool.false_and,decide_eq_false (λe=>h1 (Prod.mk.inj e).1.symm)]
theorem so(cs:List (Int×Int))(p n i:Nat)(hn:n<100000)(row:Nat->Nat->AV)(hrow:∀k j,row k j=pI cs (p+k) j):bN Tryz.prog 91 [.fs 2 n row,.agg [.n .i64 2,.n .u32 i]] [.v (.n .i64 (JK cs i p n 0))]:=by
 refine ag aF SD ⟨by simp,by decide⟩ ?_
 simp only[aH]
 repeat first|with_reducible refine ao ?_|simp only[go_sem,simprocAttr]
 refine GA.loop (I:=λm e H=>∃k:Nat,m=n-k/\k<=n/\JK cs i p n 0=JK cs i (p+k) (n-k) k/\e=aB [(0,.fs 2 n row),(3,.p 0 0),(7,.n .i64 n),(8,.n .i64 k)]/\H=ah [ae 0 54 [.n .i64 2,.n .u32 i]]) (Wk.mk [0] [] ?_ ?_ ?_) ⟨0,rfl,Nat.zero_le _,rfl,rfl,rfl⟩ ?_
 ·exact ba
 ·exact .cr .ls .nil
 ·simp
 rintro m e H ⟨k,rfl,hk,hs,rfl,rfl⟩
 have k0:(0:Int)<=(k:Int):=by omega
 by_cases hkn:k<n
 ·have hki:(k:Int)<(n:Int):=by omega
  have e0:row k 0= .n .i64 (cs.getD (p+k) (0,0)).1:=(hrow k 0).trans rfl
  have e1:row k 1= .n .u32 (cs.getD (p+k) (0,0)).2:=(hrow k 1).trans rfl
  have wk:IntKind.i64.wrap ((k:Int)+1)=((k+1:Nat):Int):=(am (by omega)).trans (by omega)
  rw[show n-k=(n-(k+1))+1 by omega,JK] at hs
  by_cases hq:cs.getD (p+k) (0,0)=(2,(i:Int))
  ·have hd:decide (((cs.getD (p+k) (0,0)).1,(cs.getD (p+k) (0,0)).2)=((2:Int),(i:Int)))=true:=decide_eq_true (by rw[hq])
   repeat first|with_reducible refine ao ?_|simp only[k0,hki,e0,e1,Int.toNat_natCast,uC,hd,decide_true,go_sem,simprocAttr]
   exact aa (by rw[hs,if_pos hq]) rfl
  ·have hd:decide (((cs.getD (p+k) (0,0)).1,(cs.getD (p+k) (0,0)).2)=((2:Int),(i:Int)))=false:=decide_eq_false (λe=>hq e)
   repeat first|with_reducible refine ao ?_|simp only[k0,hki,e0,e1,Int.toNat_natCast,uC,hd,wk,decide_true,decide_false,go_sem,simprocAttr]
   refine⟨_,_,_,?_,Wk.mk [0] [] ?_ ?_ ?_,k+1,rfl,by omega,by rw[hs,if_neg hq];rfl,rfl,rfl⟩
   ·omega
   ·exact ba
   ·exact .cr .ls .nil
   ·simp
 ·have hki:¬(k:Int)<(n:Int):=by omega
  obtain rfl:k=n:=by omega
  repeat first|with_reducible refine ao ?_|simp only[hki,decide_false,go_sem,simprocAttr]
  exact aa (by rw[hs,Nat.sub_self];rfl) rfl
theorem uU(cs:List (Int×Int))(p n i:Nat)(hn:n<100000)(row:Nat->Nat->AV)(hrow:∀k j,row k j=pI cs (p+k) j):bN Tryz.prog 60 [.fs 2 n row,.agg [.n .i64 2,.n .u32 i]] [.v (.b (stoF cs p n i))]:=by
 refine ag aF SL ⟨by simp,by decide⟩ ?_
 simp only[aH]
 repeat first|with_reducible refine ao ?_|simp only[go_sem,simprocAttr]
 refine bO ([.fs 2 n row,.agg [.n .i64 2,.n .u32 i]]) (so cs p n i hn row hrow) ?_
 repeat first|with_reducible refine ao ?_|simp only[go_sem,simprocAttr]
 exact aa (by rw[<-uu n p 0]) rfl
theorem A9(x:Nat)(most:Int)(l:List Iv):bN Tryz.prog 57 [.n .i64 x,.n .i64 most,.fs 2 l.length (vC l)] [.v (.fs 2 l.length (vC l)),.v (.n .i64 most)]:=by
 refine ag aF LK ⟨by simp,by decide⟩ ?_
 simp only[aH]
 repeat first|with_reducible refine ao ?_|simp only[go_sem,simprocAttr]
 exact cK rfl rfl rfl rfl
theorem A8(la:List (Bool×Int))(loc:Int)(cs:List (Int×Int))(hcs:cs.length<=1024)(x m:Nat)(hxm:x<=m)(hm:m<=cs.length)(pass:Int)(hd lo:List Iv)(hl:hd.length=lo.length)(hn:hd.length<1000):bN Tryz.prog 58 [.n .i64 x,.n .i64 m,.n .i64 pass,.fs 2 hd.length (vC hd),.fs 2 lo.length (vC lo),.fp 3 (Ax la loc cs) 0] [.o 127 2 hd.length 0 (vC (dQ (stoF cs x (m-x)) pass 0 hd lo))]:=by
 refine ag aF S5 ⟨by simp,by decide⟩ ?_
 simp only[aH]
 obtain⟨nw,hnw⟩:∃nw,nw=dQ (stoF cs x (m-x)) pass 0 hd lo:=⟨_,rfl⟩
 have hget:∀i,i<hd.length->nw.getD i (0,0)=if pass<3 then fo (hd.getD i (0,0)) (fP (hd.getD i (0,0)) (lo.getD i (0,0))) else if stoF cs x (m-x) i=true then(0,4294967295) else hd.getD i (0,0):=λi hi=>by
  rw[hnw,gA _ _ _ _ _ _ hi,Nat.zero_add]
 rw[<-hnw]
 clear hnw
 have x0:(0:Int)<=(x:Int):=by omega
 have x1:(x:Int)<=(m:Int):=by omega
 have x2:(m:Int)<=(cs.length:Int):=by omega
 have hp2:Ax la loc cs 2= .fs 2 cs.length (pI cs):=rfl
 repeat first|with_reducible refine ao ?_|simp only[go_sem,simprocAttr]
 refine bO ([.fs 2 hd.length (vC hd)]) (gx (by omega) (λi j _ _=>dk hd i j)) ?_
 repeat first|with_reducible refine ao ?_|simp only[go_sem,simprocAttr]
 refine GA.loop (I:=λmm e H=>∃k:Nat,mm=hd.length-k/\k<=hd.length/\e=aB [(0,.n .i64 x),(1,.n .i64 m),(2,.n .i64 pass),(3,.fs 2 hd.length (vC hd)),(4,.fs 2 lo.length (vC lo)),(5,.fp 3 (Ax la loc cs) 0),(12,.os 0 hd.length),(18,.n .i64 hd.length),(19,.n .i64 k)]/\H=ah [ai 127 2 hd.length 0 (λi j=>if i<k then vC nw i j else vC hd i j)]) (Wk.mk [0] [] ?_ ?_ ?_) ⟨0,rfl,by omega,rfl,rfl⟩ ?_
 ·exact ba
 ·exact .cr (.same (by simp only[go_sem,simprocAttr]<;>rfl) rfl (by decide) (λi j h hj=>rfl) (λi j _ _=>lZ hd i j)) .nil
 ·simp
 rintro mm e H ⟨k,rfl,hk,rfl,rfl⟩
 have h0:(0:Int)<=(k:Int):=by omega
 by_cases hkn:k<hd.length
 rotate_left
 ·have hki:¬(k:Int)<hd.length:=by omega
  obtain rfl:k=hd.length:=by omega
  repeat first|with_reducible refine ao ?_|simp only[hki,decide_false,go_sem,simprocAttr]
  exact⟨[_],rfl,.inr ⟨0,rfl,by simp,_,by simp only[go_sem,simprocAttr]<;>rfl,rfl,rfl,by decide,rfl,Nat.le_refl _,Nat.le_refl _,λi j hi hj=>(aK i j hj).trans (if_pos hi),λi j _ _=>dk _ i j⟩,rfl,trivial⟩
 have hki:(k:Int)<hd.length:=by omega
 have hkj:(k:Int)<lo.length:=by omega
 have hk1:k*2+2<=hd.length*2:=by omega
 have wk:IntKind.i64.wrap ((k:Int)+1)=((k+1:Nat):Int):=(am (by omega)).trans (by omega)
 have wu:IntKind.u32.wrap (k:Int)=(k:Int):=tL (by omega)
 have gk:=hget k hkn
 have put:∀(a b:Int),nw.getD k (0,0)=(a,b)->∀i j,i<hd.length->j<2->(if i=k then[AV.n .i64 a,AV.n .i64 b][j]?.getD .u else(λi j=>if i<k then vC nw i j else vC hd i j) i j)=(if i<k+1 then vC nw i j else vC hd i j):=λa b hab i j h hj=>by
  by_cases e:i=k
  ·subst e
   rw[if_pos rfl,if_pos (by omega)]
   rcases yx hj with rfl|rfl
   ·rw[Bh,hab];rfl
   ·rw[Bg,hab];rfl
  ·rw[if_neg e]
   dsimp only
   by_cases h9:i<k
   ·rw[if_pos h9,if_pos (by omega)]
   ·rw[if_neg h9,if_neg (by omega)]
 have keep:nw.getD k (0,0)=hd.getD k (0,0)->∀i j,i<hd.length->j<2->(λi j=>if i<k then vC nw i j else vC hd i j:Nat->Nat->AV) i j=(if i<k+1 then vC nw i j else vC hd i j):=λhab i j h hj=>by
  dsimp only
  by_cases h9:i<k
  ·rw[if_pos h9,if_pos (by omega)]
  ·rw[if_neg h9]
   by_cases e:i=k
   ·subst e
    rw[if_pos (by omega)]
    rcases yx hj with rfl|rfl
    ·rw[Bh,Bh,hab]
    ·rw[Bg,Bg,hab]
   ·rw[if_neg (by omega)]
 repeat first|with_reducible refine ao ?_|simp only[h0,hki,hkj,hp2,x0,x1,x2,wu,Int.toNat_natCast,decide_true,go_sem,simprocAttr]
 refine bO ([.fs 2 (m-x) (λi=>pI cs (x+i)),.agg [.n .i64 2,.n .u32 k]]) (uU cs x (m-x) k (by omega) _ (λ_ _=>rfl)) ?_
 by_cases hp:pass<3
 ·rw[if_pos hp] at gk
  repeat first|with_reducible refine ao ?_|simp only[h0,hki,hkj,hp,Bh,Bg,Int.toNat_natCast,decide_true,go_sem,simprocAttr]
  refine bO ([iv (hd.getD k (0,0)),iv (lo.getD k (0,0))]) (mP _ _) ?_
  simp only[iv]
  repeat first|with_reducible refine ao ?_|simp only[go_sem,simprocAttr]
  refine bO ([iv (hd.getD k (0,0)),iv (fP (hd.getD k (0,0)) (lo.getD k (0,0)))]) (rd _ _) ?_
  simp only[iv]
  repeat first|with_reducible refine ao ?_|simp only[h0,hki,hkn,hk1,wk,Int.toNat_natCast,go_sem,simprocAttr]
  refine⟨_,_,_,?_,Wk.mk [0] [] ?_ ?_ ?_,k+1,rfl,by omega,rfl,rfl⟩
  ·omega
  ·exact ba
  ·exact .cr (.put (q:=k) (by simp only[go_sem,simprocAttr]<;>rfl) (by simp) rfl hkn rfl (by decide) (by omega) (put _ _ gk) (λi j _ _=>by split<;>exact lZ _ _ _)) .nil
  ·simp
 ·rw[if_neg hp] at gk
  cases hs:stoF cs x (m-x) k
  ·rw[hs] at gk
   repeat first|with_reducible refine ao ?_|simp only[hp,wk,decide_false,go_sem,simprocAttr]
   refine⟨_,_,_,?_,Wk.mk [0] [] ?_ ?_ ?_,k+1,rfl,by omega,rfl,rfl⟩
   ·omega
   ·exact ba
   ·exact .cr (.same (by simp only[go_sem,simprocAttr]<;>rfl) rfl (by decide) (keep gk) (λi j _ _=>by split<;>exact lZ _ _ _)) .nil
   ·simp
  ·rw[hs] at gk
   repeat first|with_reducible refine ao ?_|simp only[hp,decide_false,go_sem,simprocAttr]
   refine bO ([]) cq ?_
   simp only[iv]
   repeat first|with_reducible refine ao ?_|simp only[h0,hki,hkn,hk1,wk,Int.toNat_natCast,go_sem,simprocAttr]
   refine⟨_,_,_,?_,Wk.mk [0] [] ?_ ?_ ?_,k+1,rfl,by omega,rfl,rfl⟩
   ·omega
   ·exact ba
   ·exact .cr (.put (q:=k) (by simp only[go_sem,simprocAttr]<;>rfl) (by simp) rfl hkn rfl (by decide) (by omega) (put _ _ gk) (λi j _ _=>by split<;>exact lZ _ _ _)) .nil
   ·simp
theorem pG{P:Program}{f:FuncId}{args:List AV}{x:AV}(hx:x.pu 3=true)(h:rV P f args λv H=>∃M,Cv M H v x):bN P f args [.v x]:=by
 refine⟨h.1,λφ w args' hφ ha=>(h.2 φ w args' hφ ha).mono λe w' hq=>?_⟩
 cases e with
 |panicked c=>exact hq.elim
 |outgrown=>exact hq.elim
 |returned u=>
  obtain⟨v,Hc,σ',⟨M,hcv⟩,hv,hH,hb,hz⟩:=hq
  obtain⟨σ2,q1,q2,q3,q4,q5,q6,q7⟩:=hH.marks M
  have hu:=hcv.ok hH q1 q2 q7 hv
  exact⟨x,bj Hc M,σ2,⟨[x],rfl,⟨rfl,hx⟩,True.intro⟩,hu.mono σ2.bare_le,q6,hb,λc hc=>(q4.eq c hc).trans (hz c hc)⟩
theorem rG(l:List Iv)(hn:l.length<1000000):bN Tryz.prog 59 [.fs 2 l.length (vC l)] [.v .ow]:=by
 have h:=gx (n:=l.length) (row:=vC l) hn (λi j _ _=>dk l i j)
 refine pG rfl ⟨h.1,λφ w args' hφ ha=>(h.2 φ w args' hφ ha).mono λe w' hq=>?_⟩
 cases e with
 |panicked c=>exact hq.elim
 |outgrown=>exact hq.elim
 |returned u=>
  obtain⟨v,Hc,σ',⟨l1,rfl,hr⟩,q⟩:=hq
  refine⟨_,Hc,σ',⟨[],?_⟩,q⟩
  match l1,hr with
  |[v],hr=>
   rcases hr.1 with⟨rfl,_⟩|⟨b,rfl,_⟩<;>exact .ow rfl
theorem nr:AV.ow.cells=[.ow]:=rfl
theorem sG:AV.ow.one=true:=rfl
theorem dJ:∀(l:List (Int×Int)) (p n k:Int),dz (fM l p n) k=if k=p then some n else dz l k
 |[],p,n,k=>by
  simp only[fM,dz]
  by_cases h:k=p
  ·rw[if_pos h,if_pos h.symm]
  ·rw[if_neg h,if_neg (λe=>h e.symm)]
 |x::l,p,n,k=>by
  simp only[fM]
  by_cases hx:x.1=p
  ·rw[if_pos hx]
   simp only[dz]
   by_cases h:k=p
   ·rw[if_pos h,if_pos h.symm]
   ·rw[if_neg h,if_neg (λe=>h e.symm),if_neg (λe=>h (e.symm.trans hx))]
  ·rw[if_neg hx]
   simp only[dz]
   by_cases h:x.1=k
   ·rw[if_pos h,if_pos h,if_neg (λe=>hx (h.trans e))]
   ·rw[if_neg h,if_neg h,dJ l p n k]
theorem lK.put{r:Nat}{ob:Nat->Option OB}{lp:List (Int×Int)}{mx:fW}(h1:ob r=some (.mp mx))(h2:mx.own=true)(h3:∀k,mx.get k=(dz lp k).map λn=> .agg [.n .i64 k,.n .i64 n,.ow])(x mo:Int):lK r (n9 (Cz ob) r (.mp (mx.put x (.agg [.n .i64 x,.n .i64 mo,.ow])))) (fM lp x mo):=by
 refine⟨_,if_pos rfl,h2,λk=>?_⟩
 show(if k=x then some _ else mx.get k)=_
 rw[dJ]
 by_cases h:k=x
 ·rw[if_pos h,if_pos h,h];rfl
 ·rw[if_neg h,if_neg h,h3]
section
variable (la:List (Bool×Int)) (loc:Int) (cs:List (Int×Int)) (pt:List Int) (r:Nat)
def ZM(S:WS):List AV:=
 [.fs 2 la.length (pA la),.n .i64 loc,.fs 2 cs.length (pI cs),.fs 1 pt.length (iC pt),.f 57 [] [],.f 58 [] [.fp 3 (Ax la loc cs) 0],.fs 2 S.loc.length (vC S.loc),.os 1 S.st.length,.n .i64 S.ht,.ow,.cv (.map (some r))]
theorem nL(n:Nat)(hn:n<1000)(hcs:cs.length<=1024)(hpt:pt.length=cs.length)(hA:kS cs)(x y:Nat)(u v:Fo)(base:Nat)(S:WS)(ob:Nat->Option OB)(hU:oP la loc cs pt r n u)(hg:aA cs pt (.br 29 x y u v .nil) x y)(hy:y<=cs.length)(hb:base<=32)(hW:WF n S)(hS:Sm x S)(hM:lK r ob S.lp):
  PC Tryz.prog bG 87 [.p 0 0,.n .i64 x,.n .i64 base] (az ob (wH la loc cs pt r S)) (IV la loc cs pt r (λz=> .tup [gP z,.n .i64 ((y-1:Nat))]) (jX cs la x u base S)) (IW (jX cs la x u base S)):=by
 obtain⟨_,hop,_,⟨m,g1,⟨g2,g31⟩,g3,g4,g5⟩,_⟩:=hg
 have h31:=g31 rfl
 rcases g5 with⟨q0,_⟩|⟨_,_,rfl⟩
 ·rw[h31] at q0;cases q0
 refine PC.vw (cI Qh ⟨by simp,by decide⟩ ?_)
 simp only[aH,wH,dB]
 have x0:(0:Int)<=(x:Int):=by omega
 have xl:(x:Int)<(pt.length:Int):=by omega
 have hpm:iC pt x 0= .n .i64 m:=by rw[Wf,g1]
 have wx:IntKind.i64.wrap ((x:Int)+1)=((x+1:Nat):Int):=(am (by omega)).trans (by omega)
 repeat first|with_reducible refine GE.g ?_|simp only[go_sem,simprocAttr]
 refine bi la loc cs pt r ob (args2:=[.p 0 0,.n .i64 x,.n .i64 base,.s ⟨#[110]⟩]) (L:=[(0,.p 0 0),(1,.n .i64 x),(6,.p 3 0)]) (bl2:=[ae 0 130 [.n .i64 0,.n .i64 0]]) S [3,2,1,0] [] (pe la loc cs pt r ob x base [110] (by simp) (by omega) S (by have:=hS.st;omega)) ?_ ?_ ?_ ?_ (by simp) rfl (by rfl) (by rfl) (.cons .lq .nil) ?_ ?_
 ·exact ba
 ·exact .cr (.j2) (.cr (.k2 (λ_ _ _ _=>rfl)) (.cr (.k2 (λi j _ _=>aL _ i j)) (.cr .wk .nil)))
 ·exact⟨Wv.p rfl,Wv.n rfl,Wv.n rfl,Wv.same rfl,trivial⟩
 ·intro r x h
  simp only[go_sem,simprocAttr]
  exact h
 ·rintro v H' ⟨l,S1,hp,rfl,rfl⟩
  refine⟨S1,ob,rfl,?_⟩
  simp only[wH,dB,List.cons_append,List.nil_append]
  obtain⟨w1,w2,w3,w4,w5⟩:=ce hp hW
  have s1:=gi hp hS
  obtain⟨h,hh⟩:∃h,h=S1.st.length:=⟨_,rfl⟩
  have hh32:=s1.st
  have hl1:l.length=1:=by
   obtain⟨q1,q2,_⟩:=mC hp
   rw[q2,List.length_drop]
   simp only[List.length_cons,List.length_nil] at q1 ⊢
   omega
  have hmo2:cO (l.getD 0 v0).2:=du w2 0
  obtain⟨mo,hmo⟩:∃mo,mo=(l.getD 0 v0).2.2:=⟨_,rfl⟩
  rw[<-hh] at hh32
  have e2:sC l 0 2= .n .i64 mo:=by rw[C5,hmo]
  have hC1:jX cs la x u base S=(if mo<=65536 then(match gJ (λS'=>aW cs la u h h S' (0,0)) m h (stoF cs x (m-x)) 6 1 S1.loc S1 with
    |none=>none
    |some (.error e)=>some (.error e)
    |some (.ok (head,S2,bx))=>some (.ok ({S2 with loc:=S2.lv.foldl bL head,lv:=S1.lv,lp:=fM S2.lp x mo},bA (ft bx mo) (1,0))))
   else some (.error (x,18))):=by
   unfold jX
   rw[hp,g4.lastB,hh,hmo]
   rfl
  by_cases hle:mo<=65536
  rotate_left
  ·rw[if_neg hle] at hC1
   repeat first|with_reducible refine GE.g ?_|simp only[hl1,e2,hle,decide_false,go_sem,simprocAttr]
   exact aM [] (fargs:=[.b false,.n .i64 x,.n .i64 18]) (cm.same rfl) (cV x 18) ⟨(x,18),hC1,rfl⟩
  rw[if_pos hle] at hC1
  have hB:iG cs n (x+1) m (λS'=>aW cs la u h h S' (0,0)):=λS3 S4 b4 h3 h5=>aQ hA u (x+1) m _ _ g4 h3 h5 jE
  obtain⟨R,hR⟩:∃R,gJ (λS'=>aW cs la u h h S' (0,0)) m h (stoF cs x (m-x)) 6 1 S1.loc S1=some R:=
   kx hB (λS' hS'=>bU hA u (x+1) m h h S' (0,0) g4 hS' jE) (by omega) g4.le (Nat.le_refl _) 6 1 S1.loc S1 w1 w1.loc (λh4=>by omega) (by omega) (by omega)
  have hR0:=hR
  rw[hR] at hC1
  have hln:S1.loc.length=n:=w1.loc.1
  repeat first|with_reducible refine GE.g ?_|simp only[hl1,e2,hle,decide_true,go_sem,simprocAttr]
  refine dd ([.b true,.n .i64 x,.n .i64 18]) (cy x 18) ?_
  repeat first|with_reducible refine GE.g ?_|simp only[go_sem,simprocAttr]
  refine dd ([.n .i64 x,.n .i64 mo,.fs 2 S1.loc.length (vC S1.loc)]) (A9 x mo S1.loc) ?_
  repeat first|with_reducible refine GE.g ?_|simp only[x0,xl,hpm,Int.toNat_natCast,go_sem,simprocAttr]
  refine GE.loop (I:=λf e H=>∃(pass:Int) (head:List Iv) (Sx:WS) (b0:Bd) (obx:Nat->Option OB),(f:Int)+pass=7/\1<=pass/\sd n head/\WF n Sx/\(Sx.st.length<=32/\0<=Sx.ht/\Sx.ht<=32)/\gJ (λS'=>aW cs la u h h S' (0,0)) m h (stoF cs x (m-x)) f pass head Sx=some R/\lK r obx Sx.lp/\e=aB [(0,.p 0 0),(1,.n .i64 x),(6,.p 3 0),(8,.n .i64 mo),(9,.fs 2 head.length (vC head)),(10,.n .i64 m),(11,.n .i64 h),(12,.os 2 S1.lv.length),(13,.p 4 0),(14,.n .i64 pass)]/\H=az obx [ae 0 130 [.n .i64 b0.1,.n .i64 b0.2],ae 0 130 [.n .i64 0,.n .i64 0],ai 46 1 S1.lv.length 0 (vD S1.lv),ai 221 3 Sx.st.length 0 (sC Sx.st),ae 0 124 (ZM la loc cs pt r Sx)]) (m:=6) (b6.mkO [4,3,2,1,0] [] ?_ ?_ ?_ ?_ (aC rfl)) ⟨1,S1.loc,S1,(0,0),ob,rfl,by decide,w1.loc,w1,⟨s1.st,s1.ht⟩,hR,by rw[w5];exact hM,rfl,rfl⟩ ?_
  ·simp only[d9,cM,hh,go_sem,simprocAttr]
   repeat' refine a7 ?_ ?_
   all_goals first|exact iI|skip
  ·exact .cr (.j2) (.cr (.j2) (.cr (.k2 (λ_ _ _ _=>rfl)) (.cr (.k2 (λi j _ _=>aL _ i j)) (.cr (.wk (hg:=λi hi=>by rcases qS hi with rfl|rfl|rfl|rfl|rfl|rfl|rfl|rfl|rfl|rfl|rfl<;>(simp only[go_sem,simprocAttr];first|exact Wv.same rfl|exact Wv.os rfl|exact .cv (.ow rfl)))) .nil))))
  ·simp
  ·intro r x h
   simp only[go_sem,simprocAttr]
   exact h
  rintro f e H ⟨pass,head,Sx,b0,obx,hfp,hp1,hhd,hWx,hSx,hs,hMx,rfl,rfl⟩
  cases f with
  |zero=>cases hs
  |succ f=>
  rw[gJ] at hs
  have wb:WF n {Sx with loc:=head,lv:=[]}:=⟨hhd,hWx.st,λl hl=>by cases hl⟩
  have sb:Sm (x+1) {Sx with loc:=head,lv:=[]}:=⟨hSx.1,hSx.2,Nat.zero_le _⟩
  have hu:=hU (x+1) m h h {Sx with loc:=head,lv:=[]} obx g4 (by omega) (by omega) (by omega) wb sb hMx
  simp only[ZM]
  (try simp only[go_sem,simprocAttr])
  iterate 3 (with_reducible refine GE.go aF rfl ?_;try simp only[go_sem,simprocAttr])
  refine GE.cut (aB [(0,.p 0 0),(1,.n .i64 x),(6,.p 4 0),(8,.n .i64 mo),(9,.fs 2 head.length (vC head)),(10,.n .i64 m),(11,.n .i64 h),(12,.os 3 S1.lv.length),(13,.p 5 0),(14,.n .i64 pass)]) (az obx ([ae 0 130 [.n .i64 b0.1,.n .i64 b0.2],ae 0 130 [.n .i64 0,.n .i64 0],ai 46 1 S1.lv.length 0 (vD S1.lv)]++wH la loc cs pt r {Sx with loc:=head,lv:=[]})) ?_ ?_
  ·repeat first|with_reducible refine GE.g ?_|simp only[go_sem,simprocAttr]
   refine(b6.nilc 0 9 1 46 (x:=?x) ?hx ?hi (by decide) (by decide) ?hlv ?hv ?hn).trans (b6.mkO (ob:=obx) [4,3,2,5,1,0] [] ?_ ?_ ?_ ?_ (aC rfl))
   case hx=>simp only[go_sem,simprocAttr]<;>rfl
   case hi=>show 9<11;decide
   case hlv=>rfl
   case hv=>simp only[go_sem,simprocAttr]
   case hn=>simp only[go_sem,simprocAttr]<;>decide
   ·exact ba
   ·exact .cr (.j2) (.cr (.j2) (.cr (.k2 (λ_ _ _ _=>rfl)) (.cr (.rows (x:=_) (by simp only[go_sem,simprocAttr]<;>rfl) (by rfl) (by rfl) (by rfl) (Nat.zero_le _) (Nat.le_refl _) (by decide) (λi j h=>absurd h (Nat.not_lt_zero _)) (λi j h=>absurd h (Nat.not_lt_zero _))) (.cr (.k2 (λi j _ _=>aL _ i j)) (.cr .wk .nil)))))
   ·simp[wH]
   ·intro r x h
    simp only[go_sem,simprocAttr]
    exact h
  simp only[wH,dB,List.cons_append,List.nil_append]
  repeat first|with_reducible refine GE.g ?_|simp only[wx,go_sem,simprocAttr]
  refine bi la loc cs pt r obx (args2:=[.p 0 0,.n .i64 ((x+1:Nat)),.n .i64 m,.n .i64 h,.n .i64 h]) (L:=[(0,.p 0 0),(1,.n .i64 x),(6,.p 4 0),(8,.n .i64 mo),(9,.fs 2 head.length (vC head)),(10,.n .i64 m),(11,.n .i64 h),(12,.os 3 S1.lv.length),(13,.p 5 0),(14,.n .i64 pass)]) (bl2:=[ae 0 130 [.n .i64 b0.1,.n .i64 b0.2],ae 0 130 [.n .i64 0,.n .i64 0],ai 46 1 S1.lv.length 0 (vD S1.lv)]) {Sx with loc:=head,lv:=[]} [5,4,3,2,1,0] [] (hu) ?_ ?_ ?_ ?_ (by simp) rfl (by rfl) (by rfl) (.cons .lq (.cons .lq (.cons (.row (by decide) (λi j _ _=>rfl)) .nil))) ?_ ?_
  ·exact ba
  ·exact .cr (.j2) (.cr (.j2) (.cr (.k2 (λ_ _ _ _=>rfl)) (.cr (.k2 (λ_ _ _ _=>rfl)) (.cr (.k2 (λi j _ _=>aL _ i j)) (.cr .wk .nil)))))
  ·exact⟨Wv.p rfl,Wv.n rfl,Wv.n rfl,Wv.n rfl,Wv.n rfl,trivial⟩
  ·intro r x h
   simp only[go_sem,simprocAttr]
   exact h
  ·rintro v' H' ⟨S2,bx,ob2,hu2,rfl,hM2,rfl⟩
   refine⟨S2,ob2,rfl,?_⟩
   simp only[wH,dB,List.cons_append,List.nil_append,gP]
   rw[hu2] at hs
   dsimp only at hs
   have w6:=hB _ _ _ hu2 wb
   have s2:=ck u (x+1) m h h g4 hu2 sb
   have hlvl:=ij la loc cs pt r ob2 m h S2 (by have:=s2.st;omega)
   repeat first|with_reducible refine GE.g ?_|simp only[go_sem,simprocAttr]
   refine bi la loc cs pt r ob2 (args2:=[.p 0 0,.n .i64 m,.n .i64 h]) (L:=[(0,.p 0 0),(1,.n .i64 x),(6,.p 4 0),(8,.n .i64 mo),(9,.fs 2 head.length (vC head)),(10,.n .i64 m),(11,.n .i64 h),(12,.os 3 S1.lv.length),(13,.p 5 0),(14,.n .i64 pass)]) (bl2:=[ae 0 130 [.n .i64 bx.1,.n .i64 bx.2],ae 0 130 [.n .i64 0,.n .i64 0],ai 46 1 S1.lv.length 0 (vD S1.lv)]) S2 [5,4,3,2,1,0] [] (hlvl) ?_ ?_ ?_ ?_ (by simp) rfl (by rfl) (by rfl) (.cons .lq (.cons .lq (.cons (.row (by decide) (λi j _ _=>rfl)) .nil))) ?_ ?_
   ·exact ba
   ·exact .cr (.j2) (.cr (.j2) (.cr (.k2 (λ_ _ _ _=>rfl)) (.cr (.k2 (λ_ _ _ _=>rfl)) (.cr (.k2 (λi j _ _=>aL _ i j)) (.cr .wk .nil)))))
   ·exact⟨Wv.p rfl,Wv.n rfl,Wv.n rfl,trivial⟩
   ·intro r x h
    simp only[go_sem,simprocAttr]
    exact h
   ·rintro v' H' ⟨hl,rfl,rfl⟩
    refine⟨S2,ob2,rfl,?_⟩
    simp only[wH,dB,List.cons_append,List.nil_append]
    have hl2:S2.st.length=h:=by
     unfold lF at hl
     split at hl
     ·assumption
     ·cases hl
    rw[if_pos hl2] at hs
    have hS2n:S2.loc.length=n:=w6.1.wf.loc.1
    have hhn:head.length=n:=hhd.1
    repeat first|with_reducible refine GE.g ?_|simp only[go_sem,simprocAttr]
    refine dd ([.fs 2 S2.loc.length (vC S2.loc),.fs 2 head.length (vC head)]) (qi S2.loc head (by omega) (by omega)) ?_
    obtain⟨mx,hmx,hown,hget⟩:=hM2
    by_cases hw:b9 S2.loc head=true
    ·rw[if_pos hw] at hs
     obtain rfl:=Option.some.inj hs
     dsimp only at hC1
     repeat first|with_reducible refine GE.g ?_|simp only[hw,go_sem,simprocAttr]
     refine Kq ([.fs 2 head.length (vC head)]) (rG head (by omega)) ?_
     repeat first|with_reducible refine GE.g ?_|simp only[hmx,hown,nr,sG,go_sem,simprocAttr]
     obtain⟨obm,hobm⟩:∃obm,obm=(n9 (Cz ob2) r (.mp (mx.put x (.agg [.n .i64 x,.n .i64 mo,.ow])))):=⟨_,rfl⟩
     refine GE.loop (I:=λmm e H=>∃(k:Nat) (acc:List Iv),mm=S2.lv.length-k/\k<=S2.lv.length/\acc=(S2.lv.take k).foldl bL head/\e=aB [(0,.p 0 0),(6,.p 4 0),(8,.n .i64 mo),(10,.n .i64 m),(12,.os 3 S1.lv.length),(13,.p 5 0),(117,.os 2 S2.lv.length),(118,.n .i64 S2.lv.length),(119,.n .i64 k)]/\H=az obm ([ae 0 130 [.n .i64 bx.1,.n .i64 bx.2],ae 0 130 [.n .i64 0,.n .i64 0],ai 46 1 S1.lv.length 0 (vD S1.lv)]++wH la loc cs pt r {S2 with loc:=acc})) (m:=S2.lv.length) (b6.mkO (ob:=obm) [5,4,3,2,1,0] [] ?_ ?_ ?_ ?_ (aC rfl)) ⟨0,head,rfl,Nat.zero_le _,rfl,rfl,rfl⟩ ?_
     ·exact ba
     ·exact .cr (.j2) (.cr (.j2) (.cr (.k2 (λ_ _ _ _=>rfl)) (.cr (.k2 (λ_ _ _ _=>rfl)) (.cr (.k2 (λi j _ _=>aL _ i j)) (.cr .wk .nil)))))
     ·simp[wH]
     ·intro r x h
      simp only[go_sem,simprocAttr]
      rw[hobm] at h
      exact h
     rintro mm e H ⟨k,acc,rfl,hk,hacc,rfl,rfl⟩
     simp only[wH,dB,List.cons_append,List.nil_append]
     have k0:(0:Int)<=(k:Int):=by omega
     have hlv:=s2.lv
     have haccn:acc.length=n:=by rw[hacc];exact(ir _ _ hhd).1
     by_cases hkn:k<S2.lv.length
     ·have hki:(k:Int)<S2.lv.length:=by omega
      have hk1:k+1<=S2.lv.length:=hkn
      have wk:IntKind.i64.wrap ((k:Int)+1)=((k+1:Nat):Int):=(am (by omega)).trans (by omega)
      have hgk:(ai 46 1 S2.lv.length 0 (vD S2.lv)).get k= .fs 2 (S2.lv.getD k []).length (vC (S2.lv.getD k [])):=by
       have:=aK (ty:=46) (esz:=1) (n:=S2.lv.length) (z:=0) (row:=vD S2.lv) k 0 (by decide)
       rw[Nat.mul_one,Nat.add_zero] at this
       exact this
      have hlk:(S2.lv.getD k []).length=n:=by
       rw[List.getD_eq_getElem?_getD,List.getElem?_eq_getElem hkn]
       exact(w6.1.wf.lv _ (List.getElem_mem hkn)).1
      repeat first|with_reducible refine GE.g ?_|simp only[k0,hki,hkn,hk1,hgk,Nat.mul_one,Int.toNat_natCast,decide_true,go_sem,simprocAttr]
      refine dd ([.fs 2 acc.length (vC acc),.fs 2 (S2.lv.getD k []).length (vC (S2.lv.getD k []))]) (ks acc (S2.lv.getD k []) (by omega) (by omega)) ?_
      repeat first|with_reducible refine GE.g ?_|simp only[wk,go_sem,simprocAttr]
      refine⟨_,_,_,?_,b6.mkO (ob:=obm) (bl:=[ae 0 130 [.n .i64 bx.1,.n .i64 bx.2],ae 0 130 [.n .i64 0,.n .i64 0],ai 46 1 S1.lv.length 0 (vD S1.lv)]++wH la loc cs pt r {S2 with loc:=bL acc (S2.lv.getD k [])}) [5,4,3,2,1,0] [6] ?_ ?_ ?_ ?_ (aC rfl),k+1,_,rfl,by omega,?_,rfl,rfl⟩
      ·omega
      ·exact ba
      ·simp only[wH,dB,eC]
       exact .cr (.j2) (.cr (.j2) (.cr (.k2 (λ_ _ _ _=>rfl)) (.cr (.k2 (λ_ _ _ _=>rfl)) (.cr (.k2 (λi j _ _=>aL _ i j)) (.cr (.wk (hg:=λi hi=>by rcases qS hi with rfl|rfl|rfl|rfl|rfl|rfl|rfl|rfl|rfl|rfl|rfl<;>(simp only[go_sem,simprocAttr];first|exact Wv.same rfl|exact Wv.os rfl|exact .cv (.ownb (ty:=127) (z:=0) (by simp only[go_sem,simprocAttr]<;>rfl) (λi j _ _=>dk _ i j) (by simp))))) .nil)))))
      ·simp[wH]
      ·intro r x h
       simp only[go_sem,simprocAttr]
       exact h
      ·rw[hacc,List.take_add_one,List.getElem?_eq_getElem hkn,List.foldl_append,List.getD_eq_getElem?_getD,List.getElem?_eq_getElem hkn]
       rfl
     ·have hki:¬(k:Int)<S2.lv.length:=by omega
      have hall:acc=S2.lv.foldl bL head:=by rw[hacc,List.take_of_length_le (by omega)]
      repeat first|with_reducible refine GE.g ?_|simp only[hki,decide_false,go_sem,simprocAttr]
      refine dd ([gP bx,.n .i64 mo]) (sk bx mo w6.2 ⟨by rw[hmo];have:=hmo2.1;have:=hmo2.2.1;omega,hle⟩) ?_
      simp only[gP]
      repeat first|with_reducible refine GE.g ?_|simp only[go_sem,simprocAttr]
      refine dd ([gP (ft bx mo),gP (1,0)]) (iJ _ _ (Af w6.2 (by rw[hmo];have:=hmo2.1;have:=hmo2.2.1;omega)) kq) ?_
      simp only[gP]
      repeat first|with_reducible refine GE.g ?_|simp only[go_sem,simprocAttr]
      rw[<-hall] at hC1
      exact wZ (ob:=obm) [3,1,0] [] (.tup [gP (bA (ft bx mo) (1,0)),.n .i64 (m:Nat)]) (wH la loc cs pt r {S2 with loc:=acc,lv:=S1.lv,lp:=fM S2.lp x mo}) (.cr (.k2 (λ_ _ _ _=>rfl)) (.cr (.k2 (λi j _ _=>aL _ i j)) (.cr .wk .nil))) (.cv (.rfl rfl)) (by simp[wH]) (λr x h=>by simp only[go_sem,simprocAttr];exact h) (aC rfl) ⟨_,_,obm,hC1,rfl,by rw[hobm];exact lK.put hmx hown hget x mo,rfl⟩
    ·rw[if_neg hw] at hs
     have hw':b9 S2.loc head=false:=by simpa using hw
     repeat first|with_reducible refine GE.g ?_|simp only[hw',go_sem,simprocAttr]
     refine dd ([.n .i64 x,.n .i64 m,.n .i64 pass,.fs 2 head.length (vC head),.fs 2 S2.loc.length (vC S2.loc),.fp 3 (Ax la loc cs) 0]) (A8 la loc cs hcs x m (by omega) (by omega) pass head S2.loc (by omega) (by omega)) ?_
     have wp:IntKind.i64.wrap (pass+1)=pass+1:=am (by omega)
     repeat first|with_reducible refine GE.g ?_|simp only[wp,go_sem,simprocAttr]
     refine⟨f,_,_,Nat.lt_succ_self f,b6.mkO (ob:=ob2) (bl:=[ae 0 130 [.n .i64 bx.1,.n .i64 bx.2],ae 0 130 [.n .i64 0,.n .i64 0],ai 46 1 S1.lv.length 0 (vD S1.lv),ai 221 3 S2.st.length 0 (sC S2.st),ae 0 124 (ZM la loc cs pt r S2)]) [5,4,3,1,0] [6] ?_ ?_ ?_ ?_ (aC rfl),pass+1,dQ (stoF cs x (m-x)) pass 0 head S2.loc,S2,bx,ob2,by omega,by omega,gB hhd _ _ _ _,w6.1.wf,⟨s2.st,s2.ht⟩,hs,⟨mx,hmx,hown,hget⟩,rfl,rfl⟩
     ·simp only[d9,cM,jD,go_sem,simprocAttr]
      repeat' refine a7 ?_ ?_
      all_goals first|exact iI|skip
      exact .cv (.ownb (ty:=127) (z:=0) (by simp only[go_sem,simprocAttr]<;>rfl) (λi j _ _=>dk _ i j) (by simp))
     ·exact .cr (.j2) (.cr (.j2) (.cr (.k2 (λ_ _ _ _=>rfl)) (.cr (.k2 (λi j _ _=>aL _ i j)) (.cr (.wk (hg:=λi hi=>by rcases qS hi with rfl|rfl|rfl|rfl|rfl|rfl|rfl|rfl|rfl|rfl|rfl<;>(simp only[go_sem,simprocAttr];first|exact Wv.same rfl|exact Wv.os rfl|exact .cv (.ow rfl)))) .nil))))
     ·simp
     ·intro r x h
      simp only[go_sem,simprocAttr]
      exact h
   ·rintro c H' ⟨e,he,rfl⟩
    unfold lF at he
    split at he
    ·cases he
    ·rename_i hne
     rw[if_neg hne] at hs
     cases he
     obtain rfl:=Option.some.inj hs
     exact⟨_,hC1,rfl⟩
  ·rintro c H' ⟨e,he,rfl⟩
   rw[he] at hs
   obtain rfl:=Option.some.inj hs
   exact⟨e,hC1,rfl⟩
 ·rintro c H' ⟨e,he,rfl⟩
  exact⟨e,by unfold jX;rw[he],rfl⟩
end
end Go.Proofs.YtdpkgnmmikebdaaGreat