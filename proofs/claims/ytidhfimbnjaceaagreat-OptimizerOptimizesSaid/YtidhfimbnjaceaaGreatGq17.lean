/- A part of the proof of OptimizerOptimizes: FoM FrB FrC PrB PrC OpA OpB PsR FrD FvC OpC. No condition. -/
import Derived.Test.YtidhfimbnjaceaaGreatGq16
import Derived.Test.YtidhfimbnjaceaaGreatGq11
import Derived.Test.YtidhfimbnjaceaaGreatGq12
import Derived.Test.YtidhfimbnjaceaaGreatGq13
import Derived.Test.YtidhfimbnjaceaaGreatGq10
set_option linter.unusedSimpArgs false
set_option linter.unusedVariables false
set_option linter.constructorNameAsVariable false
set_option maxRecDepth 100000
set_option maxHeartbeats 4000000
namespace Go.Proofs.YtidhfimbnjaceaaGreat
open Go.RowKit
def iX(op a b:Int):Int×Int:=(if bg op b=0 then aR op a b else 0,bg op b)
theorem fE{op:Int}(h:bI op=true):8<=op/\op<=26:=by
 unfold bI at h
 split at h
 ·rename_i h1
  exact⟨by simpa using h1,by simpa using h⟩
 ·cases h
theorem vE(op a b:Int)(h:bI op=true)(ha:0<=a/\a<4294967296)(hb:0<=b/\b<4294967296):a7 Tryz.prog 92 [.n .i64 op,.n .u32 a,.n .u32 b] [.v (.n .u32 (iX op a b).1),.v (.n .i64 (iX op a b).2)]:=by
 refine xj ⟨_,Tryz.func92,by kernel_rfl,by kernel_rfl⟩ λw=>?_
 by_cases he:bg op b=0
 ·simp only[iX,if_pos he]
  rw[he]
  exact yu op a b ha.1 ha.2 hb.1 hb.2 he w
 ·simp only[iX,if_neg he]
  exact vF op a b ha.1 ha.2 hb.1 hb.2 he w
theorem me(op a b:Int)(h:bI op=true)(ha:0<=a/\a<4294967296)(hb:0<=b/\b<4294967296):a7 Tryz.prog 63 [.n .i64 op,.n .u32 a,.n .u32 b] [.v (.n .u32 (iX op a b).1),.v (.n .i64 (iX op a b).2)]:=by
 refine xj ⟨_,Tryz.func63,by kernel_rfl,by kernel_rfl⟩ λw=>?_
 refine(sf op a b (fE h) ha.1 ha.2 hb.1 hb.2 w).mono λe w' hq=>?_
 exact⟨hq.1,by rw[hq.2];exact Below.refl _ _⟩
theorem nH{n:Nat}(a1 a2:Nat->Bool)(v1 v2:Nat->Int)(hn:n<1000000):a7 Tryz.prog 32 [rL n a1 v1,rL n a2 v2] (u4 n (λi=>a1 i&&a2 i&&decide (v1 i=v2 i)) v1):=by
 refine af ay R7 ⟨by simp,by decide⟩ ?_
 simp only[aZ,rL]
 repeat first|with_reducible refine ab ?_|simp only[go_sem,simprocAttr]
 refine cV (eJ a1 v1 hn) ?_
 simp only[u4]
 repeat first|with_reducible refine ab ?_|simp only[go_sem,simprocAttr]
 refine GA.loop (I:=λmm e H=>∃(k:Nat),mm=n-k/\k<=n/\
   e=au [(2,.p 0 0),(3,.p 1 0),(4,.p 2 0),(5,.p 5 0),(6,.n .i64 k)]/\
   H=ao [aq 0 50 [.os 3 n,.os 4 n],am 35 1 n 0 (uF v1),am 4 1 n 0 (bF λi=>if i<k then a1 i&&a2 i&&decide (v1 i=v2 i) else a1 i),aq 0 50 [.sl0,.sl0],aq 0 50 [.fs 1 n (bF a2),.fs 1 n (uF v2)],aq 0 50 [.fs 1 n (bF a1),.fs 1 n (uF v1)]]) (Wk.mk [5,4,3,2,1,0] [] ?_ ?_ ?_) ⟨0,rfl,by omega,rfl,rfl⟩ ?_
 ·simp only[aB,aD,go_sem,simprocAttr]
  repeat' refine aa ?_ ?_
  all_goals first|exact bi|skip
 ·refine .cons rfl (.lstw (x:=_) (by simp only[go_sem,simprocAttr]<;>rfl) (by rfl) (by rfl) (by rfl) (by rfl) (by rfl) (by rfl) (by simp) (λi hi=>?_)) (.cons rfl (.k1) (.cons rfl (.same (by simp only[go_sem,simprocAttr]<;>rfl) rfl (by decide) (λi j h hj=>?_) (λi j _ hj=>rfl)) (.cons rfl (.ls) (.cons rfl (.ls) (.cons rfl (.ls) .nil)))))
  ·rcases tF hi with rfl|rfl
   ·simp only[go_sem,simprocAttr];exact Wv.os rfl
   ·simp only[go_sem,simprocAttr];exact Wv.os rfl
  ·show AV.b (a1 i)=AV.b (if i<0 then _ else _)
   rw[if_neg (by omega)]
 ·simp
 rintro mm e H ⟨k,rfl,hk,rfl,rfl⟩
 repeat first|with_reducible refine ab ?_|simp only[go_sem,simprocAttr]
 refine⟨λh=>?_,λh=>?_⟩
 ·have hkn:k<n:=by omega
  have h0:(0:Int)<=(k:Int):=by omega
  have hk1:k+1<=n:=hkn
  have e1:bF a1 k 0= .b (a1 k):=rfl
  have e2:bF a2 k 0= .b (a2 k):=rfl
  have e3:uF v1 k 0= .n .u32 (v1 k):=rfl
  have e4:uF v2 k 0= .n .u32 (v2 k):=rfl
  cases h1k:a1 k<;>cases h2k:a2 k
  all_goals
   rw[h1k] at e1
   rw[h2k] at e2
   repeat first|with_reducible refine ab ?_|simp only[h0,h,hkn,hk1,e1,e2,e3,e4,go_sem,simprocAttr]
   refine⟨_,_,_,?_,Wk.mk [5,4,3,2,1,0] [] ?_ ?_ ?_,k+1,rfl,by omega,rfl,rfl⟩
   ·omega
   ·simp only[aB,aD,go_sem,simprocAttr]
    repeat' refine aa ?_ ?_
    all_goals first|exact bi|skip
   ·refine .cons rfl (.lstw (x:=_) (by simp only[go_sem,simprocAttr]<;>rfl) (by rfl) (by rfl) (by rfl) (by rfl) (by rfl) (by rfl) (by simp) (λi hi=>?_)) (.cons rfl (.k1) (.cons rfl (.put (q:=k) (by simp only[go_sem,simprocAttr]<;>rfl) (by simp) rfl hkn rfl (by decide) (by omega) (λi j h hj=>?_) (λi j _ hj=>rfl)) (.cons rfl (.ls) (.cons rfl (.ls) (.cons rfl (.ls) .nil)))))
    ·rcases tF hi with rfl|rfl
     ·simp only[go_sem,simprocAttr];exact Wv.os rfl
     ·simp only[go_sem,simprocAttr];exact Wv.os rfl
    ·cases Nat.lt_one_iff.1 hj
     simp only[bF]
     by_cases e:i=k
     ·subst e
      rw[if_pos rfl,if_pos (by omega),h1k,h2k]
      simp
     ·rw[if_neg e]
      by_cases h9:i<k
      ·rw[if_pos h9,if_pos (by omega)]
      ·rw[if_neg h9,if_neg (by omega)]
   ·simp
 ·repeat first|with_reducible refine ab ?_|simp only[go_sem,simprocAttr]
  have hkn:k=n:=by omega
  subst hkn
  refine⟨[_],rfl,.a (by simp) (.o (x:=_) (by simp only[go_sem,simprocAttr];rfl) (by rfl) (by rfl) (by rfl) (by rfl) (by decide) (Nat.le_refl _) (Nat.le_refl _) (λi j hi hj=>?_) (λi j _ _=>rfl) (.o (x:=_) (by simp only[go_sem,simprocAttr];rfl) (by rfl) (by rfl) (by rfl) (by rfl) (by decide) (Nat.le_refl _) (Nat.le_refl _) (λi j hi hj=>aH i j hj) (λi j _ _=>rfl) .nil)) rfl .nil⟩
  rw[aH i j hj]
  simp only[bF]
  rw[if_pos hi]
def ua(op:Int):Bool:=(bL op.toNat).getD 2 false
def rV(op:Int):Bool:=(bL op.toNat).getD 3 false
def bk(is:Nat->Bool)(v:Nat->Int)(x:In):In:=
 if(!bI x.1&& !decide (x.1=36))=true then x
 else if(ua x.1&& !is x.2.2.1.toNat)=true then x
 else if(rV x.1&& !is x.2.2.2.1.toNat)=true then x
 else if bI x.1=true then
  (if(iX x.1 (v x.2.2.1.toNat) (if rV x.1=true then v x.2.2.2.1.toNat else 0)).2=0 then(0,x.2.1,-1,-1,(iX x.1 (v x.2.2.1.toNat) (if rV x.1=true then v x.2.2.2.1.toNat else 0)).1) else x)
 else(0,x.2.1,-1,-1,v x.2.2.1.toNat)
theorem pU:∀op:Nat,op<39->8<=op->op<=26->(bL op).getD 2 false=true:=by decide
theorem tm:(bL 36).getD 2 false=true/\(bL 36).getD 3 false=false:=by decide
theorem qh{n:Nat}(is:Nat->Bool)(v:Nat->Int)(x:In)(hn:n<1000000)(hx:0<=x.1/\x.1<39)(ha:ua x.1=true->0<=x.2.2.1/\x.2.2.1<n)(hb:rV x.1=true->0<=x.2.2.2.1/\x.2.2.2.1<n)(hv:∀i,i<n->0<=v i/\v i<4294967296):
  a7 Tryz.prog 33 [aY x,rL n is v] [.v (aY (bk is v x))]:=by
 obtain⟨op,to,a,b,arg⟩:=x
 obtain⟨hx0,hx1⟩:=hx
 simp only at ha hb hx0 hx1
 generalize hR:bk is v (op,to,a,b,arg)=R
 unfold bk at hR
 simp only at hR
 obtain⟨k,rfl⟩:∃k:Nat,op=(k:Int):=⟨op.toNat,by omega⟩
 have hk:k<39:=by omega
 obtain⟨x0,x1,x2,x3,hsh⟩:∃x0 x1 x2 x3,bL k=[x0,x1,x2,x3]:=by
  unfold bL
  repeat' split
  all_goals exact⟨_,_,_,_,rfl⟩
 have hpa:=nT k hk x0 x1 x2 x3 hsh
 have huA:ua (k:Int)=x2:=by unfold ua;rw[Int.toNat_natCast,hsh];rfl
 have huB:rV (k:Int)=x3:=by unfold rV;rw[Int.toNat_natCast,hsh];rfl
 rw[huA] at ha hR
 rw[huB] at hb hR
 refine af ay R0 ⟨by simp,by decide⟩ ?_
 simp only[aZ,aY,rL]
 repeat first|with_reducible refine ab ?_|simp only[go_sem,simprocAttr]
 refine cV hpa ?_
 by_cases h8:8<=(k:Int)
 ·by_cases h26:(k:Int)<=26
  ·have har:bI (k:Int)=true:=by unfold bI;simp[h8,h26]
   have hx2:x2=true:=by
    have:=pU k hk (by omega) (by omega)
    rw[hsh] at this;exact this
   subst hx2
   obtain⟨ha0,ha1⟩:=ha rfl
   obtain⟨qa,rfl⟩:∃q:Nat,a=(q:Int):=⟨a.toNat,by omega⟩
   have e1:bF is qa 0= .b (is qa):=rfl
   have e3:uF v qa 0= .n .u32 (v qa):=rfl
   simp only[har,Bool.not_true,Bool.false_and,Bool.false_eq_true,if_false,if_true,Bool.true_and,Int.toNat_natCast] at hR
   cases hia:is qa
   ·rw[hia] at e1 hR
    simp only[Bool.not_false,if_true] at hR
    subst hR
    repeat first|with_reducible refine ab ?_|simp only[h8,h26,ha0,ha1,e1,e3,decide_true,go_sem,simprocAttr]
    exact ah rfl rfl
   ·rw[hia] at e1 hR
    simp only[Bool.not_true,Bool.false_eq_true,if_false] at hR
    cases x3
    ·simp only[Bool.false_and,Bool.false_eq_true,if_false] at hR
     repeat first|with_reducible refine ab ?_|simp only[h8,h26,ha0,ha1,e1,e3,decide_true,go_sem,simprocAttr]
     refine ai [] (.cons (.rfl (by rfl)) (.cons (.rfl (by rfl)) (.cons (.rfl (by rfl)) .nil))) (me k (v qa) 0 har (hv qa (by omega)) (by decide)) (by simp only[go_sem,simprocAttr]) ?_
     generalize iX (k:Int) (v qa) 0=y at hR ⊢
     obtain⟨y1,y2⟩:=y
     simp only at hR ⊢
     repeat first|with_reducible refine ab ?_|simp only[go_sem,simprocAttr]
     refine⟨λhc=>?_,λhc=>?_⟩
     ·rw[if_neg hc] at hR
      subst hR
      repeat first|with_reducible refine ab ?_|simp only[go_sem,simprocAttr]
      exact ah rfl rfl
     ·rw[if_pos hc] at hR
      subst hR
      repeat first|with_reducible refine ab ?_|simp only[go_sem,simprocAttr]
      exact ah rfl rfl
    ·obtain⟨hb0,hb1⟩:=hb rfl
     obtain⟨qb,rfl⟩:∃q:Nat,b=(q:Int):=⟨b.toNat,by omega⟩
     have e2:bF is qb 0= .b (is qb):=rfl
     have e4:uF v qb 0= .n .u32 (v qb):=rfl
     simp only[Bool.true_and,if_true,Int.toNat_natCast] at hR
     cases hib:is qb
     ·rw[hib] at e2 hR
      simp only[Bool.not_false,if_true] at hR
      subst hR
      repeat first|with_reducible refine ab ?_|simp only[h8,h26,ha0,ha1,hb0,hb1,e1,e2,e3,decide_true,go_sem,simprocAttr]
      exact ah rfl rfl
     ·rw[hib] at e2 hR
      simp only[Bool.not_true,Bool.false_eq_true,if_false] at hR
      repeat first|with_reducible refine ab ?_|simp only[h8,h26,ha0,ha1,hb0,hb1,e1,e2,e3,e4,decide_true,go_sem,simprocAttr]
      refine ai [] (.cons (.rfl (by rfl)) (.cons (.rfl (by rfl)) (.cons (.rfl (by rfl)) .nil))) (me k (v qa) (v qb) har (hv qa (by omega)) (hv qb (by omega))) (by simp only[go_sem,simprocAttr]) ?_
      generalize iX (k:Int) (v qa) (v qb)=y at hR ⊢
      obtain⟨y1,y2⟩:=y
      simp only at hR ⊢
      repeat first|with_reducible refine ab ?_|simp only[go_sem,simprocAttr]
      refine⟨λhc=>?_,λhc=>?_⟩
      ·rw[if_neg hc] at hR
       subst hR
       repeat first|with_reducible refine ab ?_|simp only[go_sem,simprocAttr]
       exact ah rfl rfl
      ·rw[if_pos hc] at hR
       subst hR
       repeat first|with_reducible refine ab ?_|simp only[go_sem,simprocAttr]
       exact ah rfl rfl
  ·have har:bI (k:Int)=false:=by unfold bI;simp[h8,h26]<;>omega
   by_cases h36:k=36
   ·subst h36
    have hx23:x2=true/\x3=false:=by
     have:=tm
     rw[hsh] at this;exact this
    obtain⟨rfl,rfl⟩:=hx23
    obtain⟨ha0,ha1⟩:=ha rfl
    obtain⟨qa,rfl⟩:∃q:Nat,a=(q:Int):=⟨a.toNat,by omega⟩
    have e1:bF is qa 0= .b (is qa):=rfl
    have e3:uF v qa 0= .n .u32 (v qa):=rfl
    have h36':((36:Nat):Int)=36:=rfl
    have h8':(8:Int)<=36:=by decide
    have h26':¬(36:Int)<=26:=by decide
    simp only[har,h36',Bool.not_false,decide_true,Bool.not_true,Bool.and_false,Bool.false_and,Bool.false_eq_true,if_false,if_true,Bool.true_and,Int.toNat_natCast] at hR
    cases hia:is qa
    ·rw[hia] at e1 hR
     simp only[Bool.not_false,if_true] at hR
     subst hR
     repeat first|with_reducible refine ab ?_|simp only[h36',h8',h26',ha0,ha1,e1,e3,decide_true,decide_false,go_sem,simprocAttr]
     exact ah rfl rfl
    ·rw[hia] at e1 hR
     simp only[Bool.not_true,Bool.false_eq_true,if_false] at hR
     subst hR
     repeat first|with_reducible refine ab ?_|simp only[h36',h8',h26',ha0,ha1,e1,e3,decide_true,decide_false,go_sem,simprocAttr]
     exact ah rfl rfl
   ·have h36':¬(k:Int)=36:=by omega
    simp only[har,h36',Bool.not_false,decide_false,Bool.and_true,if_true] at hR
    subst hR
    repeat first|with_reducible refine ab ?_|simp only[h8,h26,h36',decide_true,decide_false,go_sem,simprocAttr]
    exact ah rfl rfl
 ·have har:bI (k:Int)=false:=by unfold bI;simp[h8]
  have h36':¬(k:Int)=36:=by omega
  simp only[har,h36',Bool.not_false,decide_false,Bool.and_true,if_true] at hR
  subst hR
  repeat first|with_reducible refine ab ?_|simp only[h8,h36',decide_true,decide_false,go_sem,simprocAttr]
  exact ah rfl rfl
theorem ez.snocw{r:Nat->Option Nat}{M:List Nat}{H:AH}{b ty esz n z o:Nat}{row row2:Nat->Nat->AV}{l:List AV}(hx:H.at b=some ((am ty esz n z row).app o (.li l)))(ho:o=n*esz)(hl:l.length=esz)(hM:M.contains b=false)(h0:0<esz)(hn:(n+1)*esz<2^40)
  (h1:∀i j,i<n->j<esz->row2 i j=row i j) (hc:∀i j,i<n->j<esz->(row i j).pu 3=true) (h2:∀j,j<esz->Wv r M H (l[j]?.getD .u) (row2 n j)):ez r M H b (am ty esz (n+1) z row2):=by
 subst ho
 have hsz:((am ty esz n z row).app (n*esz) (.li l)).size=(n+1)*esz:=by
  rw[AB.app_size];simp only[dm.len,hl,Nat.succ_mul]
 have hre:=AB.app_rest (am ty esz n z row) (n*esz) (.li l)
 refine⟨_,hx,hre.2.1.symm,hre.1.symm,hre.2.2.1.symm,rfl,.inl hsz.symm,?_,λi hi=>?_⟩
 ·rw[if_neg (by simpa using hM),(AB.app_rest _ _ _).2.2.2.2];exact Nat.le_refl _
 have hi':i<(n+1)*esz:=hi
 have hq:i / esz<n+1:=Nat.div_lt_of_lt_mul (by rw[Nat.mul_comm];exact hi')
 have hm:i%esz<esz:=Nat.mod_lt _ h0
 have hdm:i / esz*esz+i%esz=i:=by
  have:=Nat.div_add_mod i esz
  rw[Nat.mul_comm] at this
  exact this
 have e1:(am ty esz (n+1) z row2).get i=row2 (i / esz) (i%esz):=rfl
 have e2:=k8 (am ty esz n z row) n esz l hl hn _ _ hq hm
 rw[hdm] at e2
 rw[e1,e2]
 by_cases h:i / esz<n
 ·rw[if_pos h,h1 _ _ h hm]
  have:=aH (ty:=ty) (n:=n) (z:=z) (row:=row) (i / esz) (i%esz) hm
  rw[hdm] at this
  rw[this]
  exact .cv (.rfl (hc _ _ h hm))
 ·rw[if_neg h]
  have:i / esz=n:=by omega
  rw[this]
  exact h2 _ hm
theorem ez.putw{r:Nat->Option Nat}{M:List Nat}{H:AH}{b ty esz n z q o:Nat}{row row2:Nat->Nat->AV}{l:List AV}(hx:H.at b=some ((am ty esz n z row).putN o l))(ho:o=q*esz)(hl:l.length=esz)(hq:q<n)(hM:M.contains b=false)(h0:0<esz)(hn:n*esz<1000000)
  (h1:∀i j,i<n->i≠q->j<esz->row2 i j=row i j) (hc:∀i j,i<n->j<esz->(row i j).pu 3=true) (h2:∀j,j<esz->Wv r M H (l[j]?.getD .u) (row2 q j)):ez r M H b (am ty esz n z row2):=by
 subst ho
 refine⟨_,hx,rfl,rfl,rfl,rfl,.inl rfl,?_,λi hi=>?_⟩
 ·rw[if_neg (by simpa using hM)];exact Nat.le_refl _
 have hi':i<n*esz:=hi
 have hqi:i / esz<n:=Nat.div_lt_of_lt_mul (by rw[Nat.mul_comm];exact hi')
 have hm:i%esz<esz:=Nat.mod_lt _ h0
 have hdm:i / esz*esz+i%esz=i:=by
  have:=Nat.div_add_mod i esz
  rw[Nat.mul_comm] at this
  exact this
 have e1:(am ty esz n z row2).get i=row2 (i / esz) (i%esz):=rfl
 have e2:=lF (ty:=ty) (z:=z) (row:=row) hl hq hn _ _ hqi hm
 rw[hdm] at e2
 rw[e1,e2]
 by_cases h:i / esz=q
 ·rw[if_pos h,h]
  exact h2 _ hm
 ·rw[if_neg h,h1 _ _ hqi h hm]
  exact .cv (.rfl (hc _ _ hqi hm))
def upd{α:Type}(f:Nat->α)(r:Nat)(x:α):Nat->α:=λi=>if i=r then x else f i
structure yU where
 out:List In
 is:Nat->Bool
 v:Nat->Int
 st:List ((Nat->Bool)×(Nat->Int))
def fc(cs:List In)(pt:List Int)(i:Nat)(x:In)(s:yU):Option yU:=
 if x.1=27 then some {s with st:=(s.is,s.v)::s.st}
 else if x.1=28 then match s.st with
  |t::r=>some ⟨s.out,t.1,t.2,(s.is,s.v)::r⟩
  |[]=>none
 else if x.1=29 then(if(i:Int)<=pt.getD i 0/\pt.getD i 0<=cs.length then some {s with is:=λr=>s.is r&& !fg ((cs.take (pt.getD i 0).toNat).drop i) r} else none)
 else if x.1=31 then(if 0<=pt.getD i 0/\pt.getD i 0<=i then
   (if(cs.getD (pt.getD i 0).toNat (0,0,0,0,0)).1=29 then some {s with is:=λr=>s.is r&& !fg ((cs.take i).drop (pt.getD i 0).toNat) r}
   else match s.st with
    |t::r=>some {s with is:=λq=>s.is q&&t.1 q&&decide (s.v q=t.2 q),st:=r}
    |[]=>none)
  else none)
 else if 0<=ar (bk s.is s.v x).1 (bk s.is s.v x).2.1 then
  some {s with out:=s.out.set i (bk s.is s.v x),is:=upd s.is (ar (bk s.is s.v x).1 (bk s.is s.v x).2.1).toNat (decide ((bk s.is s.v x).1=0)),v:=upd s.v (ar (bk s.is s.v x).1 (bk s.is s.v x).2.1).toNat (bk s.is s.v x).2.2.2.2}
 else some {s with out:=s.out.set i (bk s.is s.v x)}
def AJ(cs:List In)(pt:List Int):List In->Nat->yU->Option yU
 |[],_,s=>some s
 |x::l,i,s=>(fc cs pt i x s).bind (AJ cs pt l (i+1))
def kO(n:Nat)(st:List ((Nat->Bool)×(Nat->Int)))(i j:Nat):AV:=if j=0 then .fs 1 n (bF (st.reverse.getD i (λ_=>false,λ_=>0)).1) else .fs 1 n (uF (st.reverse.getD i (λ_=>false,λ_=>0)).2)
theorem jj(n:Nat)(st:List ((Nat->Bool)×(Nat->Int)))(i j:Nat):(kO n st i j).pu 3=true:=by unfold kO;split<;>rfl
theorem lJ(n:Nat)(st:List ((Nat->Bool)×(Nat->Int)))(t:(Nat->Bool)×(Nat->Int))(i j:Nat)(hi:i<st.length):kO n (t::st) i j=kO n st i j:=by
 unfold kO;rw[List.reverse_cons,aF (by simpa using hi)]
theorem kA(n:Nat)(st:List ((Nat->Bool)×(Nat->Int)))(t:(Nat->Bool)×(Nat->Int))(j:Nat):kO n (t::st) st.length j=if j=0 then .fs 1 n (bF t.1) else .fs 1 n (uF t.2):=by
 unfold kO;rw[List.reverse_cons]
 have:=aG (l:=st.reverse) (x:=t) (d:=(λ_=>false,λ_=>0))
 rw[List.length_reverse] at this
 rw[this]
def HK(v:Nat->Int):Prop:=∀i,0<=v i/\v i<4294967296
structure y8(n k:Nat)(s:yU):Prop where
 out:s.out.length=n
 st:s.st.length<=k
 v:HK s.v
 vst:∀t ∈ s.st,HK t.2
structure lA(regs:Nat)(x:In):Prop where
 op:0<=x.1/\x.1<39
 a:ua x.1=true->0<=x.2.2.1/\x.2.2.1<regs
 b:rV x.1=true->0<=x.2.2.2.1/\x.2.2.2.1<regs
 to:ar x.1 x.2.1<regs
 arg:0<=x.2.2.2.2/\x.2.2.2.2<4294967296
theorem pS:∀op:Nat,op<39->((8<=op/\op<=26)\/op=36)->(bL op).getD 1 false=true:=by decide
theorem HC:(bL 0).getD 1 false=true:=by decide
theorem kq{regs:Nat}{is:Nat->Bool}{v:Nat->Int}{x:In}(hx:lA regs x)(hap:∀op a b:Int,(0<=a/\a<4294967296)->(0<=b/\b<4294967296)->0<=(iX op a b).1/\(iX op a b).1<4294967296)(hv:HK v):
  (0<=(bk is v x).1/\(bk is v x).1<39)/\ar (bk is v x).1 (bk is v x).2.1<regs/\0<=(bk is v x).2.2.2.2/\(bk is v x).2.2.2.2<4294967296:=by
 have same:(0<=x.1/\x.1<39)/\ar x.1 x.2.1<regs/\0<=x.2.2.2.2/\x.2.2.2.2<4294967296:=⟨hx.op,hx.to,hx.arg⟩
 unfold bk
 by_cases h1:(!bI x.1&& !decide (x.1=36))=true
 ·rw[if_pos h1];exact same
 rw[if_neg h1]
 split
 ·exact same
 split
 ·exact same
 have hw:ar 0 x.2.1<regs:=by
  obtain⟨k,hk⟩:∃k:Nat,x.1=(k:Int):=⟨x.1.toNat,by have:=hx.op;omega⟩
  have hto:=hx.to
  unfold ar at hto ⊢
  rw[hk,Int.toNat_natCast] at hto
  rw[show((0:Int).toNat)=0 from rfl,if_pos HC]
  rw[if_pos (pS k (by have:=hx.op;omega) ?_)] at hto
  ·exact hto
  ·simp only[Bool.and_eq_true,Bool.not_eq_true',decide_eq_false_iff_not,not_and,Classical.not_not] at h1
   cases ha:bI x.1
   ·have:=h1 ha;omega
   ·have:=fE ha;omega
 have hmr:0<=(if rV x.1=true then v x.2.2.2.1.toNat else 0)/\(if rV x.1=true then v x.2.2.2.1.toNat else 0)<4294967296:=by
  split
  ·exact hv _
  ·decide
 generalize (if rV x.1=true then v x.2.2.2.1.toNat else 0)=m at hmr
 split
 ·split
  ·exact⟨⟨by simp,by simp⟩,hw,hap _ _ _ (hv _) hmr⟩
  ·exact same
 ·exact⟨⟨by simp,by simp⟩,hw,hv _⟩
theorem nQ{regs:Nat}{cs:List In}{pt:List Int}{n k i:Nat}{x:In}{s s2:yU}(h:y8 n k s)(hx:lA regs x)(hap:∀op a b:Int,(0<=a/\a<4294967296)->(0<=b/\b<4294967296)->0<=(iX op a b).1/\(iX op a b).1<4294967296)(hst:fc cs pt i x s=some s2):y8 n (k+1) s2:=by
 obtain⟨out,is,v,st⟩:=s
 obtain⟨h1,h2,h3,h4⟩:=h
 simp only at h1 h2 h3 h4
 have hk:=kq (is:=is) hx hap h3
 unfold fc at hst
 simp only at hst
 split at hst
 ·cases hst
  refine⟨h1,by simp;omega,h3,λt ht=>?_⟩
  rcases List.mem_cons.1 ht with rfl|ht
  ·exact h3
  ·exact h4 t ht
 split at hst
 ·split at hst
  ·rename_i t r
   cases hst
   refine⟨h1,by simp at h2 ⊢;omega,h4 t (List.mem_cons_self ..),λt' ht=>?_⟩
   rcases List.mem_cons.1 ht with rfl|ht
   ·exact h3
   ·exact h4 t' (List.mem_cons_of_mem _ ht)
  ·cases hst
 split at hst
 ·split at hst
  ·cases hst;exact⟨h1,by simp only;omega,h3,h4⟩
  ·cases hst
 split at hst
 ·split at hst
  ·split at hst
   ·cases hst;exact⟨h1,by simp only;omega,h3,h4⟩
   ·split at hst
    ·rename_i t r
     cases hst
     exact⟨h1,by simp at h2 ⊢;omega,h3,λt' ht=>h4 t' (List.mem_cons_of_mem _ ht)⟩
    ·cases hst
  ·cases hst
 split at hst
 ·cases hst
  refine⟨by simp[h1],by simp only;omega,λq=>?_,h4⟩
  simp only[upd]
  split
  ·exact hk.2.2
  ·exact h3 q
 ·cases hst
  exact⟨by simp[h1],by simp only;omega,h3,h4⟩
abbrev Lv:=Nat->Nat->Bool
def lC(regs:Nat)(L:Lv)(i _j:Nat):AV:= .fs 1 regs (bF (L i))
def gm(L:Lv)(to:Int)(base:Nat->Bool)(l:List Int)(r:Nat):Bool:=base r||l.any λnx=>L nx.toNat r&& !decide ((r:Int)=to)
def gl(base:Nat->Bool)(l:List Int)(r:Nat):Bool:=base r||l.any λq=>decide (q=(r:Int))
def lg(cs:List In)(pt:List Int)(L:Lv)(i:Nat):Nat->Bool:=
 gl (gm L (ar (cs.getD i (0,0,0,0,0)).1 (cs.getD i (0,0,0,0,0)).2.1) (L i) (ff cs pt i)) (cD (cs.getD i (0,0,0,0,0)).1 (cs.getD i (0,0,0,0,0)).2.2.1 (cs.getD i (0,0,0,0,0)).2.2.2.1)
def fh(cs:List In)(pt:List Int)(regs i:Nat)(s:Lv×Bool):Lv×Bool:=
 if mL regs (lg cs pt s.1 i) (s.1 i)=true then s else(upd s.1 i (lg cs pt s.1 i),true)
def fX(cs:List In)(pt:List Int)(regs:Nat):Nat->Lv×Bool->Lv×Bool
 |0,s=>s
 |i+1,s=>fX cs pt regs i (fh cs pt regs i s)
def rounds(cs:List In)(pt:List Int)(regs:Nat):Nat->Lv->Option Lv
 |0,_=>none
 |f+1,L=>if(fX cs pt regs cs.length (L,false)).2=true then rounds cs pt regs f (fX cs pt regs cs.length (L,false)).1 else some (fX cs pt regs cs.length (L,false)).1
theorem nY(L:Lv)(to:Int)(base:Nat->Bool)(l:List Int)(x:Int)(r:Nat):gm L to base (l++[x]) r=(gm L to base l r||(L x.toNat r&& !decide ((r:Int)=to))):=by
 unfold gm
 rw[List.any_append]
 simp[Bool.or_assoc]
theorem nX(base:Nat->Bool)(l:List Int)(x:Int)(r:Nat):gl base (l++[x]) r=(gl base l r||decide (x=(r:Int))):=by
 unfold gl
 rw[List.any_append]
 simp[Bool.or_assoc]
theorem wZ{na:Nat}{ra:Nat->Nat->AV}{regs:Nat}{par:Int}{cs:List In}{pt:List Int}{fuel:Nat}{Lf:Lv}(hcs:cs.length<100000)(hr:regs<1000000)(hpt:eU cs=some pt)(hptl:pt.length=cs.length)
  (hin:∀x ∈ cs,lA regs x) (hp:∀i,i<cs.length->(-1<=pt.getD i 0/\pt.getD i 0<cs.length)/\((cs.getD i (0,0,0,0,0)).1=31->0<=pt.getD i 0)) (hfo:∀i,i<cs.length->∀nx ∈ ff cs pt i,0<=nx/\nx<=cs.length)
  (hL:rounds cs pt regs fuel (λ_ _=>false)=some Lf):
  a7 Tryz.prog 75 [ae na ra regs par cs] [.o 47 1 (cs.length+1) 0 (lC regs Lf)]:=by
 have hpa:=i6 cs (by omega) pt hpt
 have hw1:IntKind.wrap .i64 ((cs.length:Int)+1)=((cs.length+1:Nat):Int):=by rw[b8 (by omega)];omega
 have hg1:(0:Int)<=((cs.length+1:Nat):Int):=by omega
 have hg2:((cs.length+1:Nat):Int)<=16777216:=by omega
 have hg3:24*(cs.length+1)<=140737488355328/\(cs.length+1)<1099511627776:=by omega
 have hb1:(0:Int)<=(regs:Int):=by omega
 have hb2:(regs:Int)<=16777216:=by omega
 have hb3:1*regs<=140737488355328/\regs<=140737488355328/\regs<1099511627776:=by omega
 refine af ay Ol ⟨by simp,by decide⟩ ?_
 simp only[aZ,ae]
 repeat first|with_reducible refine ab ?_|simp only[go_sem,simprocAttr]
 refine cV hpa ?_
 simp only[go_sem,simprocAttr]
 refine GA.wk (Wk.mk (L:=[(1,.p 0 0),(3,.fs 1 pt.length (iC .i64 pt))]) (bl:=[aq 0 25 [.fs 2 na ra,.n .i64 regs,.n .i64 par,.fs 5 cs.length (cC cs)]]) [0] [1] ?_ ?_ ?_) ?_
 ·simp only[aB,aD,go_sem,simprocAttr]
  repeat' refine aa ?_ ?_
  all_goals first|exact True.intro|exact Wv.same rfl|exact Wv.p rfl|skip
  refine Wv.cv (Cv.own (ty:=3) (z:=0) (by simp) (by simp only[go_sem,simprocAttr]) (λi j _ _=>rfl))
 ·refine .cons rfl (.ls) .nil
 ·simp
 repeat first|with_reducible refine ab ?_|simp only[hw1,hg1,hg2,hg3.1,hg3.2,Int.le_refl,decide_true,go_sem,simprocAttr]
 refine GA.loop (I:=λmm e H=>∃k:Nat,mm=cs.length+1-k/\k<=cs.length+1/\e=au [(1,.p 0 0),(3,.fs 1 pt.length (iC .i64 pt)),(4,.os 1 (cs.length+1)),(26,.n .i64 ((cs.length+1:Nat):Int)),(27,.n .i64 k)]/\
   H=ao [am 47 1 (cs.length+1) 0 (λi _=>if i<k then .fs 1 regs (bF λ_=>false) else .sl0),aq 0 25 [.fs 2 na ra,.n .i64 regs,.n .i64 par,.fs 5 cs.length (cC cs)]]) (Wk.mk [1,0] [] ?_ ?_ ?_) ⟨0,rfl,by omega,rfl,rfl⟩ ?_
 ·simp only[aB,aD,go_sem,simprocAttr]
  repeat' refine aa ?_ ?_
  all_goals first|exact dn|skip
 ·refine .cons rfl (.same (by simp only[go_sem,simprocAttr]<;>rfl) rfl (by decide) (λi j h hj=>by cases Nat.lt_one_iff.1 hj;rw[if_neg (by omega)];rfl) (λi j _ hj=>by split<;>rfl)) (.cons rfl (.ls) .nil)
 ·simp
 rintro mm e H ⟨k,rfl,hk,rfl,rfl⟩
 repeat first|with_reducible refine ab ?_|simp only[go_sem,simprocAttr]
 refine⟨λh=>?_,λh=>?_⟩
 ·have hkn:k<cs.length+1:=by omega
  have h0:(0:Int)<=(k:Int):=by omega
  have hk1:k+1<=cs.length+1:=hkn
  repeat first|with_reducible refine ab ?_|simp only[h0,h,hkn,hk1,hb1,hb2,hb3.1,hb3.2.1,hb3.2.2,Int.le_refl,decide_true,go_sem,simprocAttr]
  refine⟨_,_,_,?_,Wk.mk [1,0] [2] ?_ ?_ ?_,k+1,rfl,by omega,rfl,rfl⟩
  ·omega
  ·simp only[aB,aD,go_sem,simprocAttr]
   repeat' refine aa ?_ ?_
   all_goals first|exact dn|skip
  ·refine .cons rfl (.putw (q:=k) (by simp only[go_sem,simprocAttr]<;>rfl) (by simp) (by rfl) hkn rfl (by decide) (by omega) (λi j hi hne hj=>?_) (λi j _ _=>by split<;>rfl) (λj hj=>?_)) (.cons rfl (.ls) .nil)
   ·by_cases h9:i<k
    ·rw[if_pos h9,if_pos (by omega)]
    ·rw[if_neg h9,if_neg (by omega)]
   ·cases Nat.lt_one_iff.1 hj
    rw[if_pos (by omega)]
    refine Wv.cv (Cv.os (x:=_) (by simp) (by simp only[go_sem,simprocAttr]<;>rfl) (by simp only[go_sem,simprocAttr]<;>exact Nat.le_refl _) (λi j hi hj=>?_) (λ_ _ _ _=>rfl))
    cases Nat.lt_one_iff.1 hj
    rw[Nat.mul_one,Nat.add_zero,bH]
    rfl
  ·simp
 have hkn:k=cs.length+1:=by omega
 subst hkn
 repeat first|with_reducible refine ab ?_|simp only[go_sem,simprocAttr]
 refine GA.loop (I:=λmm e H=>∃(f:Nat) (L:Lv) (ch:Bool),mm=f/\(ch=true->rounds cs pt regs f L=some Lf)/\(ch=false->L=Lf)/\e=au [(1,.p 0 0),(3,.fs 1 pt.length (iC .i64 pt)),(4,.os 1 (cs.length+1)),(6,.b ch)]/\
   H=ao [am 47 1 (cs.length+1) 0 (lC regs L),aq 0 25 [.fs 2 na ra,.n .i64 regs,.n .i64 par,.fs 5 cs.length (cC cs)]]) (Wk.mk [1,0] [] ?_ ?_ ?_) ⟨fuel,λ_ _=>false,true,rfl,λ_=>hL,λh=>(by cases h),rfl,rfl⟩ ?_
 ·simp only[aB,aD,go_sem,simprocAttr]
  repeat' refine aa ?_ ?_
  all_goals first|exact dn|skip
 ·refine .cons rfl (.same (by simp only[go_sem,simprocAttr]<;>rfl) rfl (by decide) (λi j h hj=>by rw[if_pos h];rfl) (λi j _ hj=>rfl)) (.cons rfl (.ls) .nil)
 ·simp
 rintro mm e H ⟨f,L,ch,rfl,hch1,hch2,rfl,rfl⟩
 cases ch
 ·repeat first|with_reducible refine ab ?_|simp only[go_sem,simprocAttr]
  have:=hch2 rfl
  subst this
  refine⟨[_],rfl,.o (x:=_) (by simp only[go_sem,simprocAttr];rfl) (by rfl) (by rfl) (by rfl) (by decide) (Nat.le_refl _) (Nat.le_refl _) (λi j _ hj=>aH i j hj) (λi j _ hj=>rfl) rfl .nil⟩
 have hro:=hch1 rfl
 cases mm with
 |zero=>cases hro
 |succ f=>
 rw[rounds] at hro
 generalize hsw:fX cs pt regs cs.length (L,false)=S at hro
 have hw2:IntKind.wrap .i64 ((cs.length:Int)-1)=(cs.length:Int)-1:=b8 (by omega)
 repeat first|with_reducible refine ab ?_|simp only[hw2,go_sem,simprocAttr]
 refine GA.loop (I:=λmm e H=>∃(j:Nat) (L:Lv) (ch:Bool),mm=j/\j<=cs.length/\fX cs pt regs j (L,ch)=S/\e=au [(1,.p 0 0),(3,.fs 1 pt.length (iC .i64 pt)),(4,.os 1 (cs.length+1)),(6,.b ch),(7,.n .i64 ((j:Int)-1))]/\
   H=ao [am 47 1 (cs.length+1) 0 (lC regs L),aq 0 25 [.fs 2 na ra,.n .i64 regs,.n .i64 par,.fs 5 cs.length (cC cs)]]) (Wk.mk [1,0] [] ?_ ?_ ?_) ⟨cs.length,L,false,rfl,Nat.le_refl _,hsw,rfl,rfl⟩ ?_
 ·simp only[aB,aD,go_sem,simprocAttr]
  repeat' refine aa ?_ ?_
  all_goals first|exact dn|skip
 ·refine .cons rfl (.k1) (.cons rfl (.ls) .nil)
 ·simp
 rintro mm e H ⟨j,L,ch,rfl,hj,hS,rfl,rfl⟩
 repeat first|with_reducible refine ab ?_|simp only[go_sem,simprocAttr]
 refine⟨λh=>?_,λh=>?_⟩
 rotate_left
 ·have hj0:mm=0:=by omega
  subst hj0
  rw[fX] at hS
  subst hS
  repeat first|with_reducible refine ab ?_|simp only[go_sem,simprocAttr]
  refine⟨_,_,_,?_,Wk.mk [1,0] [] ?_ ?_ ?_,f,L,ch,rfl,λhc=>?_,λhc=>?_,rfl,rfl⟩
  ·omega
  ·simp only[aB,aD,go_sem,simprocAttr]
   repeat' refine aa ?_ ?_
   all_goals first|exact dn|skip
  ·refine .cons rfl (.k1) (.cons rfl (.ls) .nil)
  ·simp
  ·rw[hc] at hro;simpa using hro
  ·rw[hc] at hro;simpa using hro
 obtain⟨i,rfl⟩:∃i,mm=i+1:=⟨mm-1,by omega⟩
 have hii:((i+1:Nat):Int)-1=(i:Int):=by omega
 rw[fX] at hS
 refine GA.wk (Wk.mk (L:=[(1,.p 0 0),(3,.fs 1 pt.length (iC .i64 pt)),(4,.os 1 (cs.length+1)),(6,.b ch),(7,.n .i64 i)]) (bl:=[am 47 1 (cs.length+1) 0 (lC regs L),aq 0 25 [.fs 2 na ra,.n .i64 regs,.n .i64 par,.fs 5 cs.length (cC cs)]]) [1,0] [] ?_ ?_ ?_) ?_
 ·simp only[aB,aD,go_sem,simprocAttr]
  repeat' refine aa ?_ ?_
  all_goals first|exact dn|skip
 ·exact(.cons rfl (.k1) (.cons rfl (.ls) .nil))
 ·simp
 have hin0:i<cs.length:=by omega
 have hi0:(0:Int)<=(i:Int):=by omega
 have hi1:(i:Int)<(cs.length:Int):=by omega
 have hi2:(i:Int)<((cs.length+1:Nat):Int):=by omega
 have hi3:i<cs.length+1:=by omega
 have hm:cs.getD i (0,0,0,0,0) ∈ cs:=by rw[List.getD_eq_getElem?_getD,List.getElem?_eq_getElem hin0];exact List.getElem_mem _
 have hx:=hin _ hm
 have hgl:∀(L:Lv) (q:Nat),(am 47 1 (cs.length+1) 0 (lC regs L)).get q= .fs 1 regs (bF (L q)):=λL q=>by rw[bH];rfl
 have hfw:=nB cs pt i hin0 (by omega) (by omega) (hp i hin0).1 (hp i hin0).2
 have hF:=hfo i hin0
 have hsA:fh cs pt regs i (L,ch)=if mL regs (lg cs pt L i) (L i)=true then(L,ch) else(upd L i (lg cs pt L i),true):=rfl
 rw[hsA] at hS
 clear hsA
 unfold lg at hS
 have hcc0:=gG cs i
 have hcc1:=kG cs i
 have hcc2:=lQ cs i
 have hcc3:=lP cs i
 have hcc4:=lu cs i
 generalize cs.getD i (0,0,0,0,0)=x at hS hx hcc0 hcc1 hcc2 hcc3 hcc4
 obtain⟨op,uto,a,b,arg⟩:=x
 generalize hFe:ff cs pt i=F at hS hfw hF
 have hFl:F.length<=2:=by
  rw[<-hFe];unfold ff
  split
  ·simp
  split<;>simp
 have hrq:∀q ∈ cD op a b,0<=q/\q<regs:=by
  intro q hq
  unfold cD at hq
  rcases List.mem_append.1 hq with hq|hq
  ·split at hq
   ·rename_i hu
    rw[List.mem_singleton.1 hq];exact hx.a hu
   ·cases hq
  ·split at hq
   ·rename_i hu
    rw[List.mem_singleton.1 hq];exact hx.b hu
   ·cases hq
 have hus:=lV op uto a b arg hx.op
 have hrl:=mc op a b
 simp only at hS
 generalize cD op a b=rd at hS hus hrq hrl
 generalize ar op uto=to at hS hus
 repeat first|with_reducible refine ab ?_|simp only[hi0,hi1,hcc0,hcc1,hcc2,hcc3,hcc4,go_sem,simprocAttr]
 refine cV hus ?_
 repeat first|with_reducible refine ab ?_|simp only[hi0,hi2,hi3,hgl,go_sem,simprocAttr]
 refine cV (sY (row:=bF (L i)) hr (λ_ _ _ _=>rfl)) ?_
 repeat first|with_reducible refine ab ?_|simp only[go_sem,simprocAttr]
 refine ai [] (.cons (.rfl (by rfl)) (.cons (.rfl (by rfl)) (.cons (.rfl (by rfl)) .nil))) hfw (by simp only[go_sem,simprocAttr]) ?_
 repeat first|with_reducible refine ab ?_|simp only[go_sem,simprocAttr]
 refine GA.loop (I:=λmm e H=>∃k:Nat,mm=F.length-k/\k<=F.length/\e=au [(1,.p 0 0),(3,.fs 1 pt.length (iC .i64 pt)),(4,.os 1 (cs.length+1)),(6,.b ch),(7,.n .i64 i),(8,.os 2 rd.length),(9,.n .i64 to),(10,.os 3 regs),(64,.fs 1 F.length (iC .i64 F)),(65,.n .i64 F.length),(66,.n .i64 k)]/\H=ao [am 4 1 regs 0 (bF (gm L to (L i) (F.take k))),am 3 1 rd.length 0 (iC .i64 rd),am 47 1 (cs.length+1) 0 (lC regs L),aq 0 25 [.fs 2 na ra,.n .i64 regs,.n .i64 par,.fs 5 cs.length (cC cs)]]) (Wk.mk [3,2,1,0] [] ?_ ?_ ?_) ⟨0,rfl,by omega,rfl,rfl⟩ ?_
 ·simp only[aB,aD,go_sem,simprocAttr]
  repeat' refine aa ?_ ?_
  all_goals first|exact dn|skip
 ·refine(.cons rfl (.same (by simp only[go_sem,simprocAttr]<;>rfl) rfl (by decide) (λz j h hj=>?_) (λi j _ hj=>rfl)) (.cons rfl (.k1) (.cons rfl (.k1) (.cons rfl (.ls) .nil))))
  cases Nat.lt_one_iff.1 hj
  show AV.b (L i z)=AV.b (gm L to (L i) (F.take 0) z)
  unfold gm;simp
 ·simp
 rintro mm e H ⟨k,rfl,hk,rfl,rfl⟩
 repeat first|with_reducible refine ab ?_|simp only[go_sem,simprocAttr]
 refine⟨λh=>?_,λh=>?_⟩
 ·have hkn:k<F.length:=by omega
  have h0:(0:Int)<=(k:Int):=by omega
  have hmF:F.getD k 0 ∈ F:=by rw[List.getD_eq_getElem?_getD,List.getElem?_eq_getElem hkn];exact List.getElem_mem _
  have hFq:=hF _ hmF
  have htk:F.take (k+1)=F.take k++[F.getD k 0]:=c9 hkn
  have hic:iC .i64 F k 0= .n .i64 (F.getD k 0):=rfl
  generalize F.getD k 0=nx at hFq htk hic
  obtain⟨q,rfl⟩:∃q:Nat,nx=(q:Int):=⟨nx.toNat,by omega⟩
  have hq0:(0:Int)<=(q:Int):=hFq.1
  have hq1:(q:Int)<((cs.length+1:Nat):Int):=by omega
  have hq2:q<cs.length+1:=by omega
  generalize hbase:gm L to (L i) (F.take k)=base
  repeat first|with_reducible refine ab ?_|simp only[h0,h,hic,hq0,hq1,hq2,hgl,go_sem,simprocAttr]
  refine GA.loop (I:=λmm e H=>∃r:Nat,mm=regs-r/\r<=regs/\e=au [(1,.p 0 0),(3,.fs 1 pt.length (iC .i64 pt)),(4,.os 1 (cs.length+1)),(6,.b ch),(7,.n .i64 i),(8,.os 2 rd.length),(9,.n .i64 to),(10,.os 3 regs),(64,.fs 1 F.length (iC .i64 F)),(65,.n .i64 F.length),(66,.n .i64 k),(73,.fs 1 regs (bF (L q))),(74,.n .i64 regs),(75,.n .i64 r)]/\H=ao [am 4 1 regs 0 (bF λz=>if z<r then(base z||(L q z&& !decide ((z:Int)=to))) else base z),am 3 1 rd.length 0 (iC .i64 rd),am 47 1 (cs.length+1) 0 (lC regs L),aq 0 25 [.fs 2 na ra,.n .i64 regs,.n .i64 par,.fs 5 cs.length (cC cs)]]) (Wk.mk [3,2,1,0] [] ?_ ?_ ?_) ⟨0,rfl,by omega,rfl,rfl⟩ ?_
  ·simp only[aB,aD,go_sem,simprocAttr]
   repeat' refine aa ?_ ?_
   all_goals first|exact dn|skip
  ·refine(.cons rfl (.same (by simp only[go_sem,simprocAttr]<;>rfl) rfl (by decide) (λz j h hj=>?_) (λi j _ hj=>rfl)) (.cons rfl (.k1) (.cons rfl (.k1) (.cons rfl (.ls) .nil))))
   cases Nat.lt_one_iff.1 hj
   show AV.b (base z)=AV.b (if z<0 then _ else _)
   rw[if_neg (by omega)]
  ·simp
  rintro mm e H ⟨r,rfl,hrr,rfl,rfl⟩
  repeat first|with_reducible refine ab ?_|simp only[go_sem,simprocAttr]
  refine⟨λhlr=>?_,λhlr=>?_⟩
  ·have hrn:r<regs:=by omega
   have hr0:(0:Int)<=(r:Int):=by omega
   have hr1:r+1<=regs:=hrn
   have e1:(am 4 1 regs 0 (bF λz=>if z<r then(base z||(L q z&& !decide ((z:Int)=to))) else base z)).get r= .b (base r):=by
    rw[bH]
    show AV.b (if r<r then _ else _)=_
    rw[if_neg (by omega)]
   have e2:bF (L q) r 0= .b (L q r):=rfl
   have hfin:∀(val:Bool),val=(base r||(L q r&& !decide ((r:Int)=to)))->∀z,(if z=r then AV.b val else AV.b (if z<r then(base z||(L q z&& !decide ((z:Int)=to))) else base z))=AV.b (if z<r+1 then(base z||(L q z&& !decide ((z:Int)=to))) else base z):=by
    intro val hval z
    by_cases e:z=r
    ·subst e;rw[if_pos rfl,if_pos (by omega),hval]
    ·rw[if_neg e]
     by_cases h9:z<r
     ·rw[if_pos h9,if_pos (by omega)]
     ·rw[if_neg h9,if_neg (by omega)]
   cases hbr:base r<;>cases hLr:L q r
   all_goals
    rw[hbr] at e1 hfin
    rw[hLr] at e2 hfin
    repeat first|with_reducible refine ab ?_|simp only[hr0,hlr,hrn,hr1,e1,e2,go_sem,simprocAttr]
    refine⟨_,_,_,?_,Wk.mk [3,2,1,0] [] ?_ ?_ ?_,r+1,rfl,by omega,rfl,rfl⟩
    ·omega
    ·simp only[aB,aD,go_sem,simprocAttr]
     repeat' refine aa ?_ ?_
     all_goals first|exact dn|skip
    ·refine(.cons rfl (.put (q:=r) (by simp only[go_sem,simprocAttr]<;>rfl) (by simp) (by rfl) hrn rfl (by decide) (by omega) (λz j h hj=>?_) (λi j _ hj=>rfl)) (.cons rfl (.k1) (.cons rfl (.k1) (.cons rfl (.ls) .nil))))
     cases Nat.lt_one_iff.1 hj
     exact hfin _ (by simp) _
    ·simp
  ·have hrn:r=regs:=by omega
   subst hrn
   repeat first|with_reducible refine ab ?_|simp only[go_sem,simprocAttr]
   refine⟨_,_,_,?_,Wk.mk [3,2,1,0] [] ?_ ?_ ?_,k+1,rfl,by omega,rfl,rfl⟩
   ·omega
   ·simp only[aB,aD,go_sem,simprocAttr]
    repeat' refine aa ?_ ?_
    all_goals first|exact dn|skip
   ·refine(.cons rfl (.same (by simp only[go_sem,simprocAttr]<;>rfl) rfl (by decide) (λz j h hj=>?_) (λi j _ hj=>rfl)) (.cons rfl (.k1) (.cons rfl (.k1) (.cons rfl (.ls) .nil))))
    cases Nat.lt_one_iff.1 hj
    show AV.b (if z<r then _ else _)=AV.b (gm L to (L i) (F.take (k+1)) z)
    rw[if_pos h,htk,nY,hbase]
    rfl
   ·simp
 have hkn:k=F.length:=by omega
 subst hkn
 rw[List.take_length]
 generalize hA:gm L to (L i) F=NA at hS ⊢
 repeat first|with_reducible refine ab ?_|simp only[go_sem,simprocAttr]
 refine GA.loop (I:=λmm e H=>∃k:Nat,mm=rd.length-k/\k<=rd.length/\e=au [(1,.p 0 0),(3,.fs 1 pt.length (iC .i64 pt)),(4,.os 1 (cs.length+1)),(6,.b ch),(7,.n .i64 i),(10,.os 3 regs),(97,.os 2 rd.length),(98,.n .i64 rd.length),(99,.n .i64 k)]/\H=ao [am 4 1 regs 0 (bF (gl NA (rd.take k))),am 3 1 rd.length 0 (iC .i64 rd),am 47 1 (cs.length+1) 0 (lC regs L),aq 0 25 [.fs 2 na ra,.n .i64 regs,.n .i64 par,.fs 5 cs.length (cC cs)]]) (Wk.mk [3,2,1,0] [] ?_ ?_ ?_) ⟨0,rfl,by omega,rfl,rfl⟩ ?_
 ·simp only[aB,aD,go_sem,simprocAttr]
  repeat' refine aa ?_ ?_
  all_goals first|exact dn|skip
 ·refine(.cons rfl (.same (by simp only[go_sem,simprocAttr]<;>rfl) rfl (by decide) (λz j h hj=>?_) (λi j _ hj=>rfl)) (.cons rfl (.k1) (.cons rfl (.k1) (.cons rfl (.ls) .nil))))
  cases Nat.lt_one_iff.1 hj
  show AV.b (NA z)=AV.b (gl NA (rd.take 0) z)
  unfold gl;simp
 ·simp
 rintro mm e H ⟨k,rfl,hk,rfl,rfl⟩
 repeat first|with_reducible refine ab ?_|simp only[go_sem,simprocAttr]
 refine⟨λh=>?_,λh=>?_⟩
 ·have hkn:k<rd.length:=by omega
  have h0:(0:Int)<=(k:Int):=by omega
  have hmR:rd.getD k 0 ∈ rd:=by rw[List.getD_eq_getElem?_getD,List.getElem?_eq_getElem hkn];exact List.getElem_mem _
  have hRq:=hrq _ hmR
  have htk:rd.take (k+1)=rd.take k++[rd.getD k 0]:=c9 hkn
  have hic:(am 3 1 rd.length 0 (iC .i64 rd)).get k= .n .i64 (rd.getD k 0):=by rw[bH];rfl
  generalize rd.getD k 0=nx at hRq htk hic
  obtain⟨q,rfl⟩:∃q:Nat,nx=(q:Int):=⟨nx.toNat,by omega⟩
  have hq0:(0:Int)<=(q:Int):=hRq.1
  have hq1:(q:Int)<(regs:Int):=hRq.2
  have hq2:q<regs:=by omega
  have hq3:q+1<=regs:=hq2
  repeat first|with_reducible refine ab ?_|simp only[h0,h,hkn,hic,hq0,hq1,hq2,hq3,go_sem,simprocAttr]
  refine⟨_,_,_,?_,Wk.mk [3,2,1,0] [] ?_ ?_ ?_,k+1,rfl,by omega,rfl,rfl⟩
  ·omega
  ·simp only[aB,aD,go_sem,simprocAttr]
   repeat' refine aa ?_ ?_
   all_goals first|exact dn|skip
  ·refine(.cons rfl (.put (q:=q) (by simp only[go_sem,simprocAttr]<;>rfl) (by simp) (by rfl) hq2 rfl (by decide) (by omega) (λz j h hj=>?_) (λi j _ hj=>rfl)) (.cons rfl (.k1) (.cons rfl (.k1) (.cons rfl (.ls) .nil))))
   cases Nat.lt_one_iff.1 hj
   show(if z=q then AV.b true else AV.b (gl NA (rd.take k) z))=AV.b (gl NA (rd.take (k+1)) z)
   rw[htk,nX]
   by_cases e:z=q
   ·subst e;rw[if_pos rfl];simp
   ·have:decide ((q:Int)=(z:Int))=false:=by simp;omega
    rw[if_neg e,this,Bool.or_false]
  ·simp
 have hkn:k=rd.length:=by omega
 subst hkn
 rw[List.take_length]
 generalize gl NA rd=N at hS ⊢
 repeat first|with_reducible refine ab ?_|simp only[hi0,hi2,hi3,hgl,go_sem,simprocAttr]
 refine ai [3] (fargs:=[.fs 1 regs (bF N),.fs 1 regs (bF (L i))]) (.cons (Cv.own (ty:=4) (z:=0) (by simp) (by simp only[go_sem,simprocAttr]<;>rfl) (λ_ _ _ _=>rfl)) (.cons (.rfl (by rfl)) .nil)) (sS N (L i) hr) (by simp only[go_sem,simprocAttr]) ?_
 cases heq:mL regs N (L i)
 ·rw[heq,if_neg (by simp)] at hS
  have hi4:i<=cs.length:=by omega
  repeat first|with_reducible refine ab ?_|simp only[hi0,hi2,hi3,hi4,Nat.le_refl,go_sem,simprocAttr]
  refine⟨_,_,_,?_,Wk.mk [1,0] [3] ?_ ?_ ?_,i,upd L i N,true,rfl,by omega,hS,rfl,rfl⟩
  ·omega
  ·simp only[aB,aD,go_sem,simprocAttr]
   repeat' refine aa ?_ ?_
   all_goals first|exact dn|skip
  ·refine .cons rfl (.putw (q:=i) (by simp only[go_sem,simprocAttr]<;>rfl) (by simp) (by rfl) hi3 rfl (by decide) (by omega) (λz j hz hne hj=>?_) (λ_ _ _ _=>rfl) (λj hj=>?_)) (.cons rfl (.ls) .nil)
   ·unfold lC upd;rw[if_neg hne]
   ·cases Nat.lt_one_iff.1 hj
    unfold lC upd;rw[if_pos rfl]
    refine Wv.cv (Cv.os (x:=_) (by simp) (by simp only[go_sem,simprocAttr]<;>rfl) (by simp only[go_sem,simprocAttr]<;>exact Nat.le_refl _) (λz j hi hj=>?_) (λ_ _ _ _=>rfl))
    cases Nat.lt_one_iff.1 hj
    rw[Nat.mul_one,Nat.add_zero,xv,bH]
  ·simp
 ·rw[heq,if_pos rfl] at hS
  repeat first|with_reducible refine ab ?_|simp only[go_sem,simprocAttr]
  refine⟨_,_,_,?_,Wk.mk [1,0] [] ?_ ?_ ?_,i,L,ch,rfl,by omega,hS,rfl,rfl⟩
  ·omega
  ·simp only[aB,aD,go_sem,simprocAttr]
   repeat' refine aa ?_ ?_
   all_goals first|exact dn|skip
  ·exact(.cons rfl (.k1) (.cons rfl (.ls) .nil))
  ·simp
def fL(op:Int):Bool:=di op||decide (op=0)||decide (op=36)||decide (op=38)
def eM(L:Lv)(i:Nat)(x:In):Bool:= !fL x.1||L (i+1) x.2.1.toNat
def cL(L:Lv):List In->Nat->List In
 |[],_=>[]
 |x::l,i=>(if eM L i x=true then[x] else[])++cL L l (i+1)
def fq(cs:List In)(i d:Nat):List In:=cs.take i++cs.drop (i+d)
def ke(cs:List In)(i:Nat):Nat:=if(cs.getD i (0,0,0,0,0)).1=28 then 1 else 2
def gz:Nat->List In->List In
 |0,l=>l
 |f+1,l=>match jc l with
  |none=>l
  |some i=>gz f (fq l i (ke l i))
theorem qs(L:Lv):∀(l:List In) (i:Nat),(cL L l i).length<=l.length
 |[],_=>Nat.le_refl _
 |x::l,i=>by
  unfold cL
  rw[List.length_append,List.length_cons]
  have:=qs L l (i+1)
  split<;>simp<;>omega
theorem j4{cs:List In}:∀{f k i:Nat},fM cs f k=some i->i+1<cs.length
 |0,k,i,h=>by cases h
 |f+1,k,i,h=>by
  rw[fM] at h
  split at h
  ·rename_i hk
   split at h
   ·cases h;exact hk
   ·exact j4 h
  ·cases h
theorem de{cs:List In}{i d:Nat}(h:i+d<=cs.length):(fq cs i d).length=cs.length-d:=by
 unfold fq
 rw[List.length_append,List.length_take,List.length_drop]
 omega
def oB(P:Program)(g:FuncId)(ty:TypeId):Prop:=∀(cs:List In) (i d b:Nat) (H:AH) (Q:AV->AH->Prop),cs.length<1000000->H.at b=some (am ty 5 cs.length 0 (cC cs))->b<1000000->0<d->i+d<=cs.length->
 (∀x2:AB,x2.ty=ty->x2.esz=5->x2.opn=true->x2.live=true->x2.fzn=0->(cs.length-d)*5<=x2.size->(∀q j,q<cs.length-d->j<5->x2.get (q*5+j)=cC (fq cs i d) q j)->Q (.os b (cs.length-d)) (H.upd b x2))->k9 P g [.os b cs.length,.n .i64 i,.n .i64 ((i+d:Nat):Int)] H Q
theorem uI{na:Nat}{ra:Nat->Nat->AV}{regs:Nat}{par:Int}{cs:List In}{Lf:Lv}(hcs:cs.length<100000)(hr:regs<1000000)(hin:∀x ∈ cs,lA regs x)(hto:∀x ∈ cs,fL x.1=true->0<=x.2.1/\x.2.1<regs)
  (hlv:a7 Tryz.prog 75 [ae na ra regs par cs] [.o 47 1 (cs.length+1) 0 (lC regs Lf)])
  (hdel:jc (cL Lf cs 0)≠none->oB Tryz.prog 77 37):
  a7 Tryz.prog 47 [ae na ra regs par cs] [.o 37 5 (gz (cL Lf cs 0).length (cL Lf cs 0)).length 0 (cC (gz (cL Lf cs 0).length (cL Lf cs 0)))]:=by
 refine af ay OA ⟨by simp,by decide⟩ ?_
 simp only[aZ,ae] at hlv ⊢
 repeat first|with_reducible refine ab ?_|simp only[go_sem,simprocAttr]
 refine cV hlv ?_
 simp only[go_sem,simprocAttr]
 refine GA.wk (Wk.mk (L:=[(1,.p 0 0),(3,.fs 1 (cs.length+1) (lC regs Lf))]) (bl:=[aq 0 25 [.fs 2 na ra,.n .i64 regs,.n .i64 par,.fs 5 cs.length (cC cs)]]) [0] [1] ?_ ?_ ?_) ?_
 ·simp only[aB,aD,go_sem,simprocAttr]
  repeat' refine aa ?_ ?_
  all_goals first|exact True.intro|exact Wv.same rfl|exact Wv.p rfl|skip
  refine Wv.cv (Cv.own (ty:=47) (z:=0) (by simp) (by simp only[go_sem,simprocAttr]) (λi j _ _=>rfl))
 ·refine .cons rfl (.ls) .nil
 ·simp
 with_reducible refine GA.seq ?_
 with_reducible refine GA.reg ?_
 simp only[go_sem,simprocAttr]
 refine GA.wk (Wk.nil 4 5 37 (by simp only[go_sem,simprocAttr]) (by decide) (by simp only[go_sem,simprocAttr])) ?_
 simp only[cA]
 repeat first|with_reducible refine ab ?_|simp only[go_sem,simprocAttr]
 refine GA.loop (I:=λmm e H=>∃(k:Nat) (out:List In),mm=cs.length-k/\k<=cs.length/\out.length<=k/\cL Lf cs 0=out++cL Lf (cs.drop k) k/\e=au [(1,.p 0 0),(3,.fs 1 (cs.length+1) (lC regs Lf)),(4,.os 1 out.length),(14,.fs 5 cs.length (cC cs)),(15,.n .i64 cs.length),(16,.n .i64 k)]/\
   H=ao [am 37 5 out.length 0 (cC out),aq 0 25 [.fs 2 na ra,.n .i64 regs,.n .i64 par,.fs 5 cs.length (cC cs)]]) (Wk.mk [1,0] [] ?_ ?_ ?_) ⟨0,[],rfl,by omega,by simp,by simp,rfl,rfl⟩ ?_
 ·simp only[aB,aD,go_sem,simprocAttr]
  repeat' refine aa ?_ ?_
  all_goals first|exact dn|skip
 ·refine .cons rfl (.r0) (.cons rfl (.ls) .nil)
 ·simp
 rintro mm e H ⟨k,out,rfl,hk,hol,hs,rfl,rfl⟩
 repeat first|with_reducible refine ab ?_|simp only[go_sem,simprocAttr]
 refine⟨λh=>?_,λh=>?_⟩
 ·have hkn:k<cs.length:=by omega
  have h0:(0:Int)<=(k:Int):=by omega
  have hm:cs.getD k (0,0,0,0,0) ∈ cs:=by rw[List.getD_eq_getElem?_getD,List.getElem?_eq_getElem hkn];exact List.getElem_mem _
  rw[bw (d:=(0,0,0,0,0)) hkn,cL] at hs
  have hcc0:=gG cs k
  have hcc1:=kG cs k
  have hcc2:=lQ cs k
  have hcc3:=lP cs k
  have hcc4:=lu cs k
  have hxt:=hto _ hm
  generalize cs.getD k (0,0,0,0,0)=x at hs hm hxt hcc0 hcc1 hcc2 hcc3 hcc4
  obtain⟨op,to,a,b,arg⟩:=x
  simp only at hs hxt hcc0 hcc1 hcc2 hcc3 hcc4
  have hlim:(out.length+1)*5<1099511627776/\(out.length+1)*40<=140737488355328/\out.length+1<=9223372036854775807:=by omega
  have hkeep:eM Lf k (op,to,a,b,arg)=(!fL op||Lf (k+1) to.toNat):=rfl
  have hid:fL op=(di op||decide (op=0)||decide (op=36)||decide (op=38)):=rfl
  have hw:IntKind.wrap .i64 ((k:Int)+1)=((k+1:Nat):Int):=by rw[b8 (by omega)];omega
  repeat first|with_reducible refine ab ?_|simp only[h0,h,hcc0,hcc1,hcc2,hcc3,hcc4,go_sem,simprocAttr]
  refine cV (iM op) ?_
  have fin1:∀(hk1:eM Lf k (op,to,a,b,arg)=true),cL Lf cs 0=(out++[(op,to,a,b,arg)])++cL Lf (cs.drop (k+1)) (k+1):=λhk1=>by
   rw[hs,if_pos hk1,List.append_assoc]
  have fin0:∀(hk1:eM Lf k (op,to,a,b,arg)=false),cL Lf cs 0=out++cL Lf (cs.drop (k+1)) (k+1):=λhk1=>by
   rw[hs,if_neg (by rw[hk1];simp),List.nil_append]
  generalize hkv:eM Lf k (op,to,a,b,arg)=kv at hkeep fin1 fin0
  cases hi:fL op
  ·rw[hi] at hid hkeep
   simp only[Bool.not_false,Bool.true_or] at hkeep
   have d:di op=false/\decide (op=0)=false/\decide (op=36)=false/\decide (op=38)=false:=by
    cases h1:di op<;>cases h2:decide (op=0)<;>cases h3:decide (op=36)<;>cases h4:decide (op=38)<;>simp[h1,h2,h3,h4] at hid ⊢
   rw[d.1]
   repeat first|with_reducible refine ab ?_|simp only[d.2.1,d.2.2.1,d.2.2.2,hlim.1,hlim.2.1,hlim.2.2,decide_true,go_sem,simprocAttr]
   refine⟨_,_,_,?_,Wk.mk [4,0] [] ?_ ?_ ?_,k+1,out++[(op,to,a,b,arg)],rfl,by omega,by simp;omega,fin1 hkeep,rfl,rfl⟩
   ·omega
   ·simp only[aB,aD,go_sem,simprocAttr]
    repeat' refine aa ?_ ?_
    all_goals first|exact dn|skip
   ·rw[show(out++[(op,to,a,b,arg)]).length=out.length+1 from by simp]
    refine .cons rfl (.snoc (by simp only[go_sem,simprocAttr]<;>rfl) (by simp) (by rfl) rfl (by decide) (by omega) (λi j hi _=>by unfold cC;rw[aF hi]) (λj hj=>by
     unfold cC
     rw[aG]
     rcases cJ hj with rfl|rfl|rfl|rfl|rfl<;>rfl) (λi j _ hj=>by rcases cJ hj with rfl|rfl|rfl|rfl|rfl<;>rfl)) (.cons rfl (.ls) .nil)
   ·simp
  ·rw[hi] at hid hkeep
   obtain⟨ht0,ht1⟩:=hxt hi
   obtain⟨q,rfl⟩:∃q:Nat,to=(q:Int):=⟨to.toNat,by omega⟩
   simp only[Bool.not_true,Bool.false_or,Int.toNat_natCast] at hkeep
   have e1:lC regs Lf (k+1) 0= .fs 1 regs (bF (Lf (k+1))):=rfl
   have e2:bF (Lf (k+1)) q 0= .b (Lf (k+1) q):=rfl
   have hq0:(0:Int)<=((k+1:Nat):Int):=by omega
   have hq1:((k+1:Nat):Int)<((cs.length+1:Nat):Int):=by omega
   have hq2:(0:Int)<=(q:Int):=ht0
   have hq3:(q:Int)<(regs:Int):=ht1
   have alt:di op=true\/(di op=false/\decide (op=0)=true)\/(di op=false/\decide (op=0)=false/\decide (op=36)=true)\/(di op=false/\decide (op=0)=false/\decide (op=36)=false/\decide (op=38)=true):=by
    cases h1:di op<;>cases h2:decide (op=0)<;>cases h3:decide (op=36)<;>cases h4:decide (op=38)<;>simp[h1,h2,h3,h4] at hid ⊢
   rcases alt with h1|⟨h1,h2⟩|⟨h1,h2,h3⟩|⟨h1,h2,h3,h4⟩
   ·rw[h1]
    cases hv:Lf (k+1) q
    ·have hkk:eM Lf k (op,(q:Int),a,b,arg)=false:=by rw[hkv,hkeep,hv]
     rw[hv] at e2
     repeat first|with_reducible refine ab ?_|simp only[h1,hq0,hq1,hq2,hq3,e1,e2,hw,go_sem,simprocAttr]
     refine⟨_,_,_,?_,Wk.mk [1,0] [] ?_ ?_ ?_,k+1,out,rfl,by omega,by omega,fin0 (by rw[<-hkv];exact hkk),rfl,rfl⟩
     ·omega
     ·simp only[aB,aD,go_sem,simprocAttr]
      repeat' refine aa ?_ ?_
      all_goals first|exact dn|skip
     ·refine .cons rfl (.k5) (.cons rfl (.ls) .nil)
     ·simp
    ·have hkk:eM Lf k (op,(q:Int),a,b,arg)=true:=by rw[hkv,hkeep,hv]
     rw[hv] at e2
     repeat first|with_reducible refine ab ?_|simp only[h1,hq0,hq1,hq2,hq3,e1,e2,hw,hlim.1,hlim.2.1,hlim.2.2,decide_true,go_sem,simprocAttr]
     refine⟨_,_,_,?_,Wk.mk [4,0] [] ?_ ?_ ?_,k+1,out++[(op,(q:Int),a,b,arg)],rfl,by omega,by simp;omega,fin1 (by rw[<-hkv];exact hkk),rfl,rfl⟩
     ·omega
     ·simp only[aB,aD,go_sem,simprocAttr]
      repeat' refine aa ?_ ?_
      all_goals first|exact dn|skip
     ·rw[show(out++[(op,(q:Int),a,b,arg)]).length=out.length+1 from by simp]
      refine .cons rfl (.snoc (by simp only[go_sem,simprocAttr]<;>rfl) (by simp) (by rfl) rfl (by decide) (by omega) (λi j hi _=>by unfold cC;rw[aF hi]) (λj hj=>by
       unfold cC
       rw[aG]
       rcases cJ hj with rfl|rfl|rfl|rfl|rfl<;>rfl) (λi j _ hj=>by rcases cJ hj with rfl|rfl|rfl|rfl|rfl<;>rfl)) (.cons rfl (.ls) .nil)
     ·simp
   ·rw[h1]
    cases hv:Lf (k+1) q
    ·have hkk:eM Lf k (op,(q:Int),a,b,arg)=false:=by rw[hkv,hkeep,hv]
     rw[hv] at e2
     repeat first|with_reducible refine ab ?_|simp only[h2,hq0,hq1,hq2,hq3,e1,e2,hw,go_sem,simprocAttr]
     refine⟨_,_,_,?_,Wk.mk [1,0] [] ?_ ?_ ?_,k+1,out,rfl,by omega,by omega,fin0 (by rw[<-hkv];exact hkk),rfl,rfl⟩
     ·omega
     ·simp only[aB,aD,go_sem,simprocAttr]
      repeat' refine aa ?_ ?_
      all_goals first|exact dn|skip
     ·refine .cons rfl (.k5) (.cons rfl (.ls) .nil)
     ·simp
    ·have hkk:eM Lf k (op,(q:Int),a,b,arg)=true:=by rw[hkv,hkeep,hv]
     rw[hv] at e2
     repeat first|with_reducible refine ab ?_|simp only[h2,hq0,hq1,hq2,hq3,e1,e2,hw,hlim.1,hlim.2.1,hlim.2.2,decide_true,go_sem,simprocAttr]
     refine⟨_,_,_,?_,Wk.mk [4,0] [] ?_ ?_ ?_,k+1,out++[(op,(q:Int),a,b,arg)],rfl,by omega,by simp;omega,fin1 (by rw[<-hkv];exact hkk),rfl,rfl⟩
     ·omega
     ·simp only[aB,aD,go_sem,simprocAttr]
      repeat' refine aa ?_ ?_
      all_goals first|exact dn|skip
     ·rw[show(out++[(op,(q:Int),a,b,arg)]).length=out.length+1 from by simp]
      refine .cons rfl (.snoc (by simp only[go_sem,simprocAttr]<;>rfl) (by simp) (by rfl) rfl (by decide) (by omega) (λi j hi _=>by unfold cC;rw[aF hi]) (λj hj=>by
       unfold cC
       rw[aG]
       rcases cJ hj with rfl|rfl|rfl|rfl|rfl<;>rfl) (λi j _ hj=>by rcases cJ hj with rfl|rfl|rfl|rfl|rfl<;>rfl)) (.cons rfl (.ls) .nil)
     ·simp
   ·rw[h1]
    cases hv:Lf (k+1) q
    ·have hkk:eM Lf k (op,(q:Int),a,b,arg)=false:=by rw[hkv,hkeep,hv]
     rw[hv] at e2
     repeat first|with_reducible refine ab ?_|simp only[h2,h3,hq0,hq1,hq2,hq3,e1,e2,hw,go_sem,simprocAttr]
     refine⟨_,_,_,?_,Wk.mk [1,0] [] ?_ ?_ ?_,k+1,out,rfl,by omega,by omega,fin0 (by rw[<-hkv];exact hkk),rfl,rfl⟩
     ·omega
     ·simp only[aB,aD,go_sem,simprocAttr]
      repeat' refine aa ?_ ?_
      all_goals first|exact dn|skip
     ·refine .cons rfl (.k5) (.cons rfl (.ls) .nil)
     ·simp
    ·have hkk:eM Lf k (op,(q:Int),a,b,arg)=true:=by rw[hkv,hkeep,hv]
     rw[hv] at e2
     repeat first|with_reducible refine ab ?_|simp only[h2,h3,hq0,hq1,hq2,hq3,e1,e2,hw,hlim.1,hlim.2.1,hlim.2.2,decide_true,go_sem,simprocAttr]
     refine⟨_,_,_,?_,Wk.mk [4,0] [] ?_ ?_ ?_,k+1,out++[(op,(q:Int),a,b,arg)],rfl,by omega,by simp;omega,fin1 (by rw[<-hkv];exact hkk),rfl,rfl⟩
     ·omega
     ·simp only[aB,aD,go_sem,simprocAttr]
      repeat' refine aa ?_ ?_
      all_goals first|exact dn|skip
     ·rw[show(out++[(op,(q:Int),a,b,arg)]).length=out.length+1 from by simp]
      refine .cons rfl (.snoc (by simp only[go_sem,simprocAttr]<;>rfl) (by simp) (by rfl) rfl (by decide) (by omega) (λi j hi _=>by unfold cC;rw[aF hi]) (λj hj=>by
       unfold cC
       rw[aG]
       rcases cJ hj with rfl|rfl|rfl|rfl|rfl<;>rfl) (λi j _ hj=>by rcases cJ hj with rfl|rfl|rfl|rfl|rfl<;>rfl)) (.cons rfl (.ls) .nil)
     ·simp
   ·rw[h1]
    cases hv:Lf (k+1) q
    ·have hkk:eM Lf k (op,(q:Int),a,b,arg)=false:=by rw[hkv,hkeep,hv]
     rw[hv] at e2
     repeat first|with_reducible refine ab ?_|simp only[h2,h3,h4,hq0,hq1,hq2,hq3,e1,e2,hw,go_sem,simprocAttr]
     refine⟨_,_,_,?_,Wk.mk [1,0] [] ?_ ?_ ?_,k+1,out,rfl,by omega,by omega,fin0 (by rw[<-hkv];exact hkk),rfl,rfl⟩
     ·omega
     ·simp only[aB,aD,go_sem,simprocAttr]
      repeat' refine aa ?_ ?_
      all_goals first|exact dn|skip
     ·refine .cons rfl (.k5) (.cons rfl (.ls) .nil)
     ·simp
    ·have hkk:eM Lf k (op,(q:Int),a,b,arg)=true:=by rw[hkv,hkeep,hv]
     rw[hv] at e2
     repeat first|with_reducible refine ab ?_|simp only[h2,h3,h4,hq0,hq1,hq2,hq3,e1,e2,hw,hlim.1,hlim.2.1,hlim.2.2,decide_true,go_sem,simprocAttr]
     refine⟨_,_,_,?_,Wk.mk [4,0] [] ?_ ?_ ?_,k+1,out++[(op,(q:Int),a,b,arg)],rfl,by omega,by simp;omega,fin1 (by rw[<-hkv];exact hkk),rfl,rfl⟩
     ·omega
     ·simp only[aB,aD,go_sem,simprocAttr]
      repeat' refine aa ?_ ?_
      all_goals first|exact dn|skip
     ·rw[show(out++[(op,(q:Int),a,b,arg)]).length=out.length+1 from by simp]
      refine .cons rfl (.snoc (by simp only[go_sem,simprocAttr]<;>rfl) (by simp) (by rfl) rfl (by decide) (by omega) (λi j hi _=>by unfold cC;rw[aF hi]) (λj hj=>by
       unfold cC
       rw[aG]
       rcases cJ hj with rfl|rfl|rfl|rfl|rfl<;>rfl) (λi j _ hj=>by rcases cJ hj with rfl|rfl|rfl|rfl|rfl<;>rfl)) (.cons rfl (.ls) .nil)
     ·simp
 ·have hkn:k=cs.length:=by omega
  subst hkn
  rw[List.drop_length,cL,List.append_nil] at hs
  rw[hs] at hdel ⊢
  generalize hR:gz out.length out=R
  repeat first|with_reducible refine ab ?_|simp only[go_sem,simprocAttr]
  refine GA.loop (I:=λmm e H=>∃(f:Nat) (l:List In),mm=f/\l.length<=f/\l.length<1000000/\gz f l=R/\(jc l≠none->oB Tryz.prog 77 37)/\e=au [(4,.os 0 l.length)]/\H=ao [am 37 5 l.length 0 (cC l)]) (Wk.mk [1] [] ?_ ?_ ?_) ⟨out.length,out,rfl,Nat.le_refl _,by omega,hR,hdel,rfl,rfl⟩ ?_
  ·simp only[aB,aD,go_sem,simprocAttr]
   repeat' refine aa ?_ ?_
   all_goals first|exact dn|skip
  ·refine .cons rfl (.k5) .nil
  ·simp
  rintro mm e H ⟨f,l,rfl,hlf,hll,hd,hdl,rfl,rfl⟩
  repeat first|with_reducible refine ab ?_|simp only[go_sem,simprocAttr]
  refine eG [0] (fargs:=[.fs 5 l.length (cC l)]) (.cons (Cv.own (ty:=37) (z:=0) (by simp) (by simp only[go_sem,simprocAttr]<;>rfl) (λ_ _ _ hj=>bh _ hj)) .nil) (sJ l hll) (by simp only[go_sem,simprocAttr]) ?_ ?_
  ·intro r hr
   unfold zJ at hr
   split at hr<;>(simp only[List.mem_cons,List.not_mem_nil,or_false] at hr;rcases hr with rfl|rfl<;>rfl)
  cases hh:jc l with
  |none=>
   have hRl:l=R:=by
    rw[<-hd]
    cases mm with
    |zero=>rfl
    |succ f=>rw[gz,hh]
   subst hRl
   simp only[zJ]
   repeat first|with_reducible refine ab ?_|simp only[go_sem,simprocAttr]
   refine⟨[_],rfl,.o (x:=_) (by simp only[go_sem,simprocAttr];rfl) (by rfl) (by rfl) (by rfl) (by decide) (Nat.le_refl _) (Nat.le_refl _) (λi j _ hj=>aH i j hj) (λi j _ hj=>bh i hj) rfl .nil⟩
  |some i=>
   have hil:=j4 hh
   obtain⟨f,rfl⟩:∃f,mm=f+1:=⟨mm-1,by omega⟩
   rw[gz,hh] at hd
   simp only at hd
   have hDel:=hdl (by rw[hh];simp)
   have hg:(am 37 5 l.length 0 (cC l)).get (i*5)= .n .i64 (l.getD i (0,0,0,0,0)).1:=by
    have:=aH (ty:=37) (n:=l.length) (z:=0) (row:=cC l) i 0 (by decide:0<5)
    exact this
   have hi0:(0:Int)<=(i:Int):=by omega
   have hi1:(i:Int)<(l.length:Int):=by omega
   have hi2:i*5<l.length*5:=by omega
   have hw1:IntKind.wrap .i64 ((i:Int)+1)=((i+1:Nat):Int):=by rw[b8 (by omega)];omega
   have hw2:IntKind.wrap .i64 ((i:Int)+2)=((i+2:Nat):Int):=by rw[b8 (by omega)];omega
   unfold ke at hd
   generalize (l.getD i (0,0,0,0,0)).1=op at hg hd
   simp only[zJ]
   repeat first|with_reducible refine ab ?_|simp only[hi0,hi1,hi2,hg,go_sem,simprocAttr]
   refine⟨λh1=>?_,λh1=>?_⟩
   ·rw[if_pos h1] at hd
    repeat first|with_reducible refine ab ?_|simp only[hw1,go_sem,simprocAttr]
    refine hDel l i 1 0 _ _ hll (by simp only[go_sem,simprocAttr]) (by decide) (by decide) (by omega) (λx2 q1 q2 q3 q4 q5 q6 q7=>?_)
    repeat first|with_reducible refine ab ?_|simp only[go_sem,simprocAttr]
    refine⟨_,_,_,?_,Wk.mk [0] [] ?_ ?_ ?_,f,fq l i 1,rfl,by rw[de (by omega)];omega,by rw[de (by omega)];omega,hd,λ_=>hDel,rfl,rfl⟩
    ·omega
    ·rw[de (by omega)]
     simp only[aB,aD,go_sem,simprocAttr]
     repeat' refine aa ?_ ?_
     all_goals first|exact dn|skip
    ·rw[de (by omega)]
     refine .cons rfl (.rows (x:=x2) (by simp only[q4,go_sem,simprocAttr]) q1 q2 q3 q6 (by simp[q5]) (by decide) q7 (λi j _ hj=>by rcases cJ hj with rfl|rfl|rfl|rfl|rfl<;>rfl)) .nil
    ·simp
   ·rw[if_neg h1] at hd
    repeat first|with_reducible refine ab ?_|simp only[hw2,go_sem,simprocAttr]
    refine hDel l i 2 0 _ _ hll (by simp only[go_sem,simprocAttr]) (by decide) (by decide) (by omega) (λx2 q1 q2 q3 q4 q5 q6 q7=>?_)
    repeat first|with_reducible refine ab ?_|simp only[go_sem,simprocAttr]
    refine⟨_,_,_,?_,Wk.mk [0] [] ?_ ?_ ?_,f,fq l i 2,rfl,by rw[de (by omega)];omega,by rw[de (by omega)];omega,hd,λ_=>hDel,rfl,rfl⟩
    ·omega
    ·rw[de (by omega)]
     simp only[aB,aD,go_sem,simprocAttr]
     repeat' refine aa ?_ ?_
     all_goals first|exact dn|skip
    ·rw[de (by omega)]
     refine .cons rfl (.rows (x:=x2) (by simp only[q4,go_sem,simprocAttr]) q1 q2 q3 q6 (by simp[q5]) (by decide) q7 (λi j _ hj=>by rcases cJ hj with rfl|rfl|rfl|rfl|rfl<;>rfl)) .nil
    ·simp
def sU:List In->List In->Bool
 |[],[]=>true
 |x::l,y::m=>dL x y&&sU l m
 |_,_=>false
theorem tQ:∀{l m:List In},¬l.length=m.length->sU l m=false
 |[],[],h=>absurd rfl h
 |[],_::_,_=>rfl
 |_::_,[],_=>rfl
 |x::l,y::m,h=>by
  rw[sU,tQ (by simpa using h),Bool.and_false]
theorem pk:∀{l m:List In},sU l m=true↔l=m
 |[],[]=>by simp[sU]
 |[],_::_=>by simp[sU]
 |_::_,[]=>by simp[sU]
 |x::l,y::m=>by
  rw[sU,Bool.and_eq_true,pk]
  simp[dL]
theorem sR(l m:List In)(hl:l.length<1000000):a7 Tryz.prog 53 [.fs 5 l.length (cC l),.fs 5 m.length (cC m)] [.v (.b (sU l m))]:=by
 by_cases hlm:l.length=m.length
 ·have hll:(l.length:Int)=(m.length:Int):=by omega
  refine af ay Ao ⟨by simp,by decide⟩ ?_
  simp only[aZ]
  repeat first|with_reducible refine ab ?_|simp only[hll,decide_true,go_sem,simprocAttr]
  refine GA.loop (I:=λmm e H=>∃k:Nat,mm=l.length-k/\k<=l.length/\sU l m=sU (l.drop k) (m.drop k)/\e=au [(0,.fs 5 l.length (cC l)),(1,.fs 5 m.length (cC m)),(11,.fs 5 l.length (cC l)),(12,.n .i64 m.length),(13,.n .i64 k)]/\H=ao []) (Wk.mk [] [] ?_ ?_ ?_) ⟨0,rfl,by omega,rfl,rfl,rfl⟩ ?_
  ·simp only[aB,aD,go_sem,simprocAttr]
   repeat' refine aa ?_ ?_
   all_goals first|exact dn|skip
  ·exact True.intro
  ·simp
  rintro mm e H ⟨k,rfl,hk,hs,rfl,rfl⟩
  repeat first|with_reducible refine ab ?_|simp only[go_sem,simprocAttr]
  refine⟨λh=>?_,λh=>?_⟩
  ·have hk':k<l.length:=by omega
   have hkm:k<m.length:=by omega
   have h0:(0:Int)<=(k:Int):=by omega
   have h2:(k:Int)<(m.length:Int):=by omega
   have h3:(k:Int)<(l.length:Int):=by omega
   rw[bw (d:=(0,0,0,0,0)) hk',bw (d:=(0,0,0,0,0)) hkm,sU] at hs
   have c0:=gG l k
   have c1:=kG l k
   have c2:=lQ l k
   have c3:=lP l k
   have c4:=lu l k
   have e0:=gG m k
   have e1:=kG m k
   have e2:=lQ m k
   have e3:=lP m k
   have e4:=lu m k
   generalize l.getD k (0,0,0,0,0)=x at hs c0 c1 c2 c3 c4
   generalize m.getD k (0,0,0,0,0)=y at hs e0 e1 e2 e3 e4
   have hxy:=ka x y
   repeat first|with_reducible refine ab ?_|simp only[h0,h,h2,h3,hll,c0,c1,c2,c3,c4,e0,e1,e2,e3,e4,pj,lq,iG,pF,SH.row,go_sem,simprocAttr]
   refine⟨λh1=>?_,λh1=>?_⟩
   ·have he:dL x y=false:=by
     rw[hxy]
     first
      |exact h1
      |simpa using h1
    rw[he,Bool.false_and] at hs
    repeat first|with_reducible refine ab ?_|simp only[go_sem,simprocAttr]
    exact ah (by rw[hs]) rfl
   ·have he:dL x y=true:=by
     rw[hxy]
     first
      |exact h1
      |simpa using h1
    rw[he,Bool.true_and] at hs
    repeat first|with_reducible refine ab ?_|simp only[go_sem,simprocAttr]
    refine⟨_,_,_,?_,Wk.mk [] [] ?_ ?_ ?_,k+1,rfl,by omega,hs,rfl,rfl⟩
    ·omega
    ·simp only[aB,aD,go_sem,simprocAttr]
     repeat' refine aa ?_ ?_
     all_goals first|exact dn|skip
    ·exact True.intro
    ·simp
  ·have:k=l.length:=by omega
   rw[this,List.drop_length,hlm,List.drop_length] at hs
   repeat first|with_reducible refine ab ?_|simp only[go_sem,simprocAttr]
   exact ah (by rw[hs];rfl) rfl
 ·have hll:¬((l.length:Int)=(m.length:Int)):=by omega
  have hf:sU l m=false:=tQ hlm
  refine af ay Ao ⟨by simp,by decide⟩ ?_
  simp only[aZ]
  repeat first|with_reducible refine ab ?_|simp only[hll,decide_false,go_sem,simprocAttr]
  exact ah (by rw[hf]) rfl
def gj(p:List In->List In):Nat->List In->List In
 |0,c=>c
 |f+1,c=>if sU c (p c)=true then c else gj p f (p c)
def pK(na:Nat)(ra:Nat->Nat->AV)(regs:Nat)(par:Int)(Good:List In->Prop)(g:FuncId)(p:List In->List In):Prop:=
 ∀c,Good c->a7 Tryz.prog g [ae na ra regs par c] [.v (.fs 5 (p c).length (cC (p c)))]/\Good (p c)
def eZ(p1 p2 p3 p4:List In->List In):Nat->List In->List In
 |0,c=>c
 |1,c=>p1 c
 |2,c=>p2 (p1 c)
 |3,c=>p3 (p2 (p1 c))
 |_,c=>p4 (p3 (p2 (p1 c)))
theorem Iv{i:Nat}(h:i<4):i=0\/i=1\/i=2\/i=3:=by omega
theorem wG{na:Nat}{ra:Nat->Nat->AV}{regs:Nat}{par:Int}{cs:List In}{Good:List In->Prop}{p1 p2 p3 p4:List In->List In}(hna:na<1000000)(hra:∀i j,i<na->j<2->(ra i j).cell=true)
  (hlen:∀c,Good c->c.length<1000000) (h1:pK na ra regs par Good 25 p1) (h2:pK na ra regs par Good 36 p2) (h3:pK na ra regs par Good 41 p3) (h4:pK na ra regs par Good 47 p4) (hg:Good cs):
  a7 Tryz.prog 51 [ae na ra regs par cs] [.v (.fs 5 (gj (λc=>p4 (p3 (p2 (p1 c)))) 8 cs).length (cC (gj (λc=>p4 (p3 (p2 (p1 c)))) 8 cs)))]:=by
 generalize hR:gj (λc=>p4 (p3 (p2 (p1 c)))) 8 cs=R
 have hgood:∀k c,Good c->Good (eZ p1 p2 p3 p4 k c):=λk c hc=>by
  match k with
  |0=>exact hc
  |1=>exact(h1 c hc).2
  |2=>exact(h2 _ (h1 c hc).2).2
  |3=>exact(h3 _ (h2 _ (h1 c hc).2).2).2
  |k+4=>exact(h4 _ (h3 _ (h2 _ (h1 c hc).2).2).2).2
 refine af ay JQ ⟨by simp,by decide⟩ ?_
 simp only[aZ,ae]
 repeat first|with_reducible refine ab ?_|simp only[go_sem,simprocAttr]
 refine GA.loop (I:=λmm e H=>∃(f:Nat) (k:Nat) (c:List In),mm=f/\k+f=8/\Good c/\gj (λc=>p4 (p3 (p2 (p1 c)))) f c=R/\e=au [(1,.p 0 0),(6,.n .i64 k)]/\H=ao [aq 0 25 [.fs 2 na ra,.n .i64 regs,.n .i64 par,.fs 5 c.length (cC c)]]) (Wk.mk [0] [] ?_ ?_ ?_) ⟨8,0,cs,rfl,rfl,hg,hR,rfl,rfl⟩ ?_
 ·simp only[aB,aD,go_sem,simprocAttr]
  repeat' refine aa ?_ ?_
  all_goals first|exact dn|skip
 ·exact .cons rfl (.ls) .nil
 ·simp
 rintro mm e H ⟨f,k,c,rfl,hkf,hc,hr,rfl,rfl⟩
 repeat first|with_reducible refine ab ?_|simp only[go_sem,simprocAttr]
 refine⟨λh=>?_,λh=>?_⟩
 rotate_left
 ·have hf0:mm=0:=by omega
  subst hf0
  rw[gj] at hr
  subst hr
  repeat first|with_reducible refine ab ?_|simp only[go_sem,simprocAttr]
  exact ah rfl rfl
 obtain⟨f,rfl⟩:∃f,mm=f+1:=⟨mm-1,by omega⟩
 rw[gj] at hr
 repeat first|with_reducible refine ab ?_|simp only[go_sem,simprocAttr]
 refine GA.loop (I:=λmm e H=>∃q:Nat,mm=4-q/\q<=4/\e=au [(1,.p 0 0),(3,.p 1 0),(6,.n .i64 k),(9,.sl 2 0 4 4),(10,.n .i64 4),(11,.n .i64 q)]/\H=ao [aq 1 40 [.f 25 [] [],.f 36 [] [],.f 41 [] [],.f 47 [] []],
   aq 0 25 [.fs 2 na ra,.n .i64 regs,.n .i64 par,.fs 5 (eZ p1 p2 p3 p4 q c).length (cC (eZ p1 p2 p3 p4 q c))],aq 0 25 [.fs 2 na ra,.n .i64 regs,.n .i64 par,.fs 5 c.length (cC c)]]) (Wk.mk [2,1,0] [] ?_ ?_ ?_) ⟨0,rfl,by omega,rfl,rfl⟩ ?_
 ·simp only[aB,aD,go_sem,simprocAttr]
  repeat' refine aa ?_ ?_
  all_goals first|exact dn|skip
 ·refine .cons rfl (.l4) (.cons rfl (.lsti (x:=_) (by simp only[go_sem,simprocAttr]<;>rfl) (by rfl) (by rfl) (by rfl) (by rfl) (by rfl) (by rfl) (by simp) (λi hi=>by rcases Iv hi with rfl|rfl|rfl|rfl<;>(simp only[go_sem,simprocAttr];first|done|rfl)) (by rfl)) (.cons rfl (.ls) .nil))
 ·simp
 rintro mm e H ⟨q,rfl,hq,rfl,rfl⟩
 repeat first|with_reducible refine ab ?_|simp only[go_sem,simprocAttr]
 refine⟨λhq4=>?_,λhq4=>?_⟩
 ·have hq0:(0:Int)<=(q:Int):=by omega
  have hq5:(q:Int)<((4:Nat):Int):=by omega
  have hgq:=hgood q c hc
  have hcases:q=0\/q=1\/q=2\/q=3:=by omega
  rcases hcases with rfl|rfl|rfl|rfl
  ·have hpass:=h1 _ hgq
   have hlp:=hlen _ hpass.2
   have hnx:eZ p1 p2 p3 p4 1 c=p1 (eZ p1 p2 p3 p4 0 c):=rfl
   generalize eZ p1 p2 p3 p4 0 c=d at hpass hlp hnx ⊢
   simp only[ae] at hpass
   repeat first|with_reducible refine ab ?_|simp only[hq0,hq5,go_sem,simprocAttr]
   refine cV hpass.1 ?_
   repeat first|with_reducible refine ab ?_|simp only[go_sem,simprocAttr]
   refine fm (iQ (regs:=regs) (par:=par) (cs:=d) hna hra hlp) ?_
   simp only[ae]
   repeat first|with_reducible refine ab ?_|simp only[go_sem,simprocAttr]
   refine⟨_,_,_,?_,Wk.mk [2,1,0] [] ?_ ?_ ?_,1,rfl,by omega,rfl,rfl⟩
   ·omega
   ·simp only[aB,aD,go_sem,simprocAttr]
    repeat' refine aa ?_ ?_
    all_goals first|exact dn|skip
   ·rw[hnx]
    refine .cons rfl (.ls) (.cons rfl (.l4) (.cons rfl (.ls) .nil))
   ·simp
  ·have hpass:=h2 _ hgq
   have hlp:=hlen _ hpass.2
   have hnx:eZ p1 p2 p3 p4 2 c=p2 (eZ p1 p2 p3 p4 1 c):=rfl
   generalize eZ p1 p2 p3 p4 1 c=d at hpass hlp hnx ⊢
   simp only[ae] at hpass
   repeat first|with_reducible refine ab ?_|simp only[hq0,hq5,go_sem,simprocAttr]
   refine cV hpass.1 ?_
   repeat first|with_reducible refine ab ?_|simp only[go_sem,simprocAttr]
   refine fm (iQ (regs:=regs) (par:=par) (cs:=d) hna hra hlp) ?_
   simp only[ae]
   repeat first|with_reducible refine ab ?_|simp only[go_sem,simprocAttr]
   refine⟨_,_,_,?_,Wk.mk [2,1,0] [] ?_ ?_ ?_,2,rfl,by omega,rfl,rfl⟩
   ·omega
   ·simp only[aB,aD,go_sem,simprocAttr]
    repeat' refine aa ?_ ?_
    all_goals first|exact dn|skip
   ·rw[hnx]
    refine .cons rfl (.ls) (.cons rfl (.l4) (.cons rfl (.ls) .nil))
   ·simp
  ·have hpass:=h3 _ hgq
   have hlp:=hlen _ hpass.2
   have hnx:eZ p1 p2 p3 p4 3 c=p3 (eZ p1 p2 p3 p4 2 c):=rfl
   generalize eZ p1 p2 p3 p4 2 c=d at hpass hlp hnx ⊢
   simp only[ae] at hpass
   repeat first|with_reducible refine ab ?_|simp only[hq0,hq5,go_sem,simprocAttr]
   refine cV hpass.1 ?_
   repeat first|with_reducible refine ab ?_|simp only[go_sem,simprocAttr]
   refine fm (iQ (regs:=regs) (par:=par) (cs:=d) hna hra hlp) ?_
   simp only[ae]
   repeat first|with_reducible refine ab ?_|simp only[go_sem,simprocAttr]
   refine⟨_,_,_,?_,Wk.mk [2,1,0] [] ?_ ?_ ?_,3,rfl,by omega,rfl,rfl⟩
   ·omega
   ·simp only[aB,aD,go_sem,simprocAttr]
    repeat' refine aa ?_ ?_
    all_goals first|exact dn|skip
   ·rw[hnx]
    refine .cons rfl (.ls) (.cons rfl (.l4) (.cons rfl (.ls) .nil))
   ·simp
  ·have hpass:=h4 _ hgq
   have hlp:=hlen _ hpass.2
   have hnx:eZ p1 p2 p3 p4 4 c=p4 (eZ p1 p2 p3 p4 3 c):=rfl
   generalize eZ p1 p2 p3 p4 3 c=d at hpass hlp hnx ⊢
   simp only[ae] at hpass
   repeat first|with_reducible refine ab ?_|simp only[hq0,hq5,go_sem,simprocAttr]
   refine cV hpass.1 ?_
   repeat first|with_reducible refine ab ?_|simp only[go_sem,simprocAttr]
   refine fm (iQ (regs:=regs) (par:=par) (cs:=d) hna hra hlp) ?_
   simp only[ae]
   repeat first|with_reducible refine ab ?_|simp only[go_sem,simprocAttr]
   refine⟨_,_,_,?_,Wk.mk [2,1,0] [] ?_ ?_ ?_,4,rfl,by omega,rfl,rfl⟩
   ·omega
   ·simp only[aB,aD,go_sem,simprocAttr]
    repeat' refine aa ?_ ?_
    all_goals first|exact dn|skip
   ·rw[hnx]
    refine .cons rfl (.ls) (.cons rfl (.l4) (.cons rfl (.ls) .nil))
   ·simp
 ·have hq':q=4:=by omega
  subst hq'
  have hd:eZ p1 p2 p3 p4 4 c=p4 (p3 (p2 (p1 c))):=rfl
  have hgd:=hgood 4 c hc
  rw[hd] at hgd ⊢
  generalize p4 (p3 (p2 (p1 c)))=d at hgd hr ⊢
  repeat first|with_reducible refine ab ?_|simp only[go_sem,simprocAttr]
  refine fm (sR c d (hlen c hc)) ?_
  cases hcd:sU c d
  ·rw[hcd,if_neg (by simp)] at hr
   repeat first|with_reducible refine ab ?_|simp only[go_sem,simprocAttr]
   refine⟨_,_,_,?_,Wk.mk [0] [] ?_ ?_ ?_,f,k+1,d,rfl,by omega,hgd,hr,rfl,rfl⟩
   ·omega
   ·simp only[aB,aD,go_sem,simprocAttr]
    repeat' refine aa ?_ ?_
    all_goals first|exact dn|skip
   ·refine .cons rfl (.l4) .nil
   ·simp
  ·rw[hcd,if_pos rfl] at hr
   subst hr
   repeat first|with_reducible refine ab ?_|simp only[go_sem,simprocAttr]
   exact ah rfl rfl
theorem ti{na na2:Nat}{ra ra2:Nat->Nat->AV}{regs par regs2 par2 er:Int}{cs cs2:List In}(h:a7 Tryz.prog 24 [ae na ra regs par cs,.f 36 [] []] [.v (ae na2 ra2 regs2 par2 cs2),.v (.n .i64 er)]):
  a7 Tryz.prog 13 [ae na ra regs par cs] [.v (ae na2 ra2 regs2 par2 cs2),.v (.n .i64 er)]:=by
 refine af ay QJ ⟨by simp,by decide⟩ ?_
 simp only[aZ,ae]
 repeat first|with_reducible refine ab ?_|simp only[go_sem,simprocAttr]
 refine fm h ?_
 simp only[ae]
 repeat first|with_reducible refine ab ?_|simp only[go_sem,simprocAttr]
 exact bB (.v rfl rfl (.v rfl rfl .nil))
theorem vM{na na2:Nat}{ra ra2:Nat->Nat->AV}{regs par regs2 par2 er:Int}{cs cs2:List In}(h:a7 Tryz.prog 24 [ae na ra regs par cs,.f 41 [] []] [.v (ae na2 ra2 regs2 par2 cs2),.v (.n .i64 er)]):
  a7 Tryz.prog 15 [ae na ra regs par cs] [.v (ae na2 ra2 regs2 par2 cs2),.v (.n .i64 er)]:=by
 refine af ay MF ⟨by simp,by decide⟩ ?_
 simp only[aZ,ae]
 repeat first|with_reducible refine ab ?_|simp only[go_sem,simprocAttr]
 refine fm h ?_
 simp only[ae]
 repeat first|with_reducible refine ab ?_|simp only[go_sem,simprocAttr]
 exact bB (.v rfl rfl (.v rfl rfl .nil))
theorem vO{na na2:Nat}{ra ra2:Nat->Nat->AV}{regs par regs2 par2 er:Int}{cs cs2:List In}(h:a7 Tryz.prog 24 [ae na ra regs par cs,.f 47 [] []] [.v (ae na2 ra2 regs2 par2 cs2),.v (.n .i64 er)]):
  a7 Tryz.prog 17 [ae na ra regs par cs] [.v (ae na2 ra2 regs2 par2 cs2),.v (.n .i64 er)]:=by
 refine af ay OG ⟨by simp,by decide⟩ ?_
 simp only[aZ,ae]
 repeat first|with_reducible refine ab ?_|simp only[go_sem,simprocAttr]
 refine fm h ?_
 simp only[ae]
 repeat first|with_reducible refine ab ?_|simp only[go_sem,simprocAttr]
 exact bB (.v rfl rfl (.v rfl rfl .nil))
theorem pL{na na2:Nat}{ra ra2:Nat->Nat->AV}{regs par regs2 par2 er:Int}{cs cs2:List In}(h:a7 Tryz.prog 24 [ae na ra regs par cs,.f 51 [] []] [.v (ae na2 ra2 regs2 par2 cs2),.v (.n .i64 er)]):
  a7 Tryz.prog 19 [ae na ra regs par cs] [.v (ae na2 ra2 regs2 par2 cs2),.v (.n .i64 er)]:=by
 refine af ay Aq ⟨by simp,by decide⟩ ?_
 simp only[aZ,ae]
 repeat first|with_reducible refine ab ?_|simp only[go_sem,simprocAttr]
 refine fm h ?_
 simp only[ae]
 repeat first|with_reducible refine ab ?_|simp only[go_sem,simprocAttr]
 exact bB (.v rfl rfl (.v rfl rfl .nil))
def eP:AV:= .agg [.sl0,.n .i64 0,.n .i64 0,.sl0]
theorem qZ{na:Nat}{ra:Nat->Nat->AV}{regs par er:Int}{cs:List In}{x:AV}{g:FuncId}(he:¬er=0)(hc:a7 Tryz.prog 54 [ae na ra regs par cs] [.v x,.v (.n .i64 er)]):
  a7 Tryz.prog 24 [ae na ra regs par cs,.f g [] []] [.v eP,.v (.n .i64 er)]:=by
 refine af ay Ay ⟨by simp,by decide⟩ ?_
 simp only[aZ,ae] at hc ⊢
 repeat first|with_reducible refine ab ?_|simp only[go_sem,simprocAttr]
 refine cV hc ?_
 repeat first|with_reducible refine ab ?_|simp only[he,decide_false,go_sem,simprocAttr]
 exact bB (.v rfl rfl (.v rfl rfl .nil))
theorem y6{na:Nat}{ra:Nat->Nat->AV}{regs par er:Int}{cs:List In}(h:a7 Tryz.prog 24 [ae na ra regs par cs,.f 25 [] []] [.v eP,.v (.n .i64 er)]):
  a7 Tryz.prog 10 [ae na ra regs par cs] [.v eP,.v (.n .i64 er)]:=by
 refine af ay Ax ⟨by simp,by decide⟩ ?_
 simp only[aZ,ae,eP] at h ⊢
 repeat first|with_reducible refine ab ?_|simp only[go_sem,simprocAttr]
 refine fm h ?_
 repeat first|with_reducible refine ab ?_|simp only[go_sem,simprocAttr]
 exact bB (.v rfl rfl (.v rfl rfl .nil))
theorem pM{na:Nat}{ra:Nat->Nat->AV}{regs par er:Int}{cs:List In}(h:a7 Tryz.prog 24 [ae na ra regs par cs,.f 51 [] []] [.v eP,.v (.n .i64 er)]):
  a7 Tryz.prog 19 [ae na ra regs par cs] [.v eP,.v (.n .i64 er)]:=by
 refine af ay Aq ⟨by simp,by decide⟩ ?_
 simp only[aZ,ae,eP] at h ⊢
 repeat first|with_reducible refine ab ?_|simp only[go_sem,simprocAttr]
 refine fm h ?_
 repeat first|with_reducible refine ab ?_|simp only[go_sem,simprocAttr]
 exact bB (.v rfl rfl (.v rfl rfl .nil))
def jq(x:Int):Prop:=0<=x/\x<4294967296
theorem iZ(x:Int):jq (IntKind.u32.wrap x):=by unfold jq;rw[IntKind.wrap_u32];omega
theorem fC(b:Bool):jq (aN b):=by cases b<;>simp[aN,jq]
theorem s8(op a b:Int)(ha:jq a)(hb:jq b)(h:bg op b=0):jq (aR op a b):=by
 unfold jq at ha hb
 unfold bg at h
 split at h
 ·simp at h
 rename_i hop
 split at h
 ·simp at h
 rename_i hdiv
 unfold aR
 by_cases o8:op=8
 ·rw[if_pos o8]
  unfold jq;omega
 rw[if_neg o8]
 by_cases o9:op=9
 ·rw[if_pos o9]
  unfold jq;omega
 rw[if_neg o9]
 by_cases o10:op=10
 ·rw[if_pos o10]
  unfold jq;omega
 rw[if_neg o10]
 by_cases o11:op=11
 ·rw[if_pos o11]
  have hb0:b≠0:=λe0=>hdiv ⟨e0,.inl o11⟩
  refine⟨Int.ediv_nonneg ha.1 hb.1,?_⟩
  have:=Int.ediv_le_self (a:=a) b ha.1
  omega
 rw[if_neg o11]
 by_cases o12:op=12
 ·rw[if_pos o12]
  have hb0:b≠0:=λe0=>hdiv ⟨e0,.inr o12⟩
  have h1:=Int.emod_nonneg a hb0
  have h2:=Int.emod_lt_of_pos a (show 0<b by omega)
  unfold jq;omega
 rw[if_neg o12]
 by_cases o13:op=13
 ·rw[if_pos o13]
  exact iZ _
 rw[if_neg o13]
 by_cases o14:op=14
 ·rw[if_pos o14]
  exact iZ _
 rw[if_neg o14]
 by_cases o15:op=15
 ·rw[if_pos o15]
  exact iZ _
 rw[if_neg o15]
 by_cases o16:op=16
 ·rw[if_pos o16]
  unfold jq;omega
 rw[if_neg o16]
 by_cases o17:op=17
 ·rw[if_pos o17]
  have hp:(0:Int)<2^(b%32).toNat:=Int.pow_pos (by decide)
  refine⟨Int.ediv_nonneg ha.1 (by omega),?_⟩
  have:=Int.ediv_le_self (a:=a) (2^(b%32).toNat) ha.1
  omega
 rw[if_neg o17]
 by_cases o18:op=18
 ·rw[if_pos o18]
  unfold jq;omega
 rw[if_neg o18]
 by_cases o19:op=19
 ·rw[if_pos o19]
  unfold jq;omega
 rw[if_neg o19]
 by_cases o20:op=20
 ·rw[if_pos o20]
  exact iZ _
 rw[if_neg o20]
 by_cases o21:op=21
 ·rw[if_pos o21]
  exact fC _
 rw[if_neg o21]
 by_cases o22:op=22
 ·rw[if_pos o22]
  exact fC _
 rw[if_neg o22]
 by_cases o23:op=23
 ·rw[if_pos o23]
  exact fC _
 rw[if_neg o23]
 by_cases o24:op=24
 ·rw[if_pos o24]
  exact fC _
 rw[if_neg o24]
 by_cases o25:op=25
 ·rw[if_pos o25]
  exact fC _
 rw[if_neg o25]
 exact fC _
theorem pD(op a b:Int)(ha:0<=a/\a<4294967296)(hb:0<=b/\b<4294967296):0<=(iX op a b).1/\(iX op a b).1<4294967296:=by
 unfold iX
 simp only
 split
 ·rename_i h
  exact s8 op a b ha hb h
 ·omega
theorem Iw{i:Nat}(h:i<4):i=0\/i=1\/i=2\/i=3:=by omega
theorem Cv.own2{M:List Nat}{H:AH}{a b n ty1 ty2 z1 z2:Nat}{r1 r2:Nat->Nat->AV}(ha:a ∈ M)(hb:b ∈ M)(h1:H.at a=some (am ty1 1 n z1 r1))(h2:H.at b=some (am ty2 1 n z2 r2))(c1:∀i j,i<n->j<1->(r1 i j).cell=true)(c2:∀i j,i<n->j<1->(r2 i j).cell=true):
  Cv M H (.agg [.os a n,.os b n]) (.agg [.fs 1 n r1,.fs 1 n r2]):=by
 refine .agg (_root_.rfl) (λi v v' h h'=>?_)
 match i with
 |0=>
  simp only[List.getElem?_cons_zero,Option.some.injEq] at h h'
  subst h h'
  exact Cv.own ha h1 c1
 |1=>
  simp only[List.getElem?_cons_succ,List.getElem?_cons_zero,Option.some.injEq] at h h'
  subst h h'
  exact Cv.own hb h2 c2
 |i+2=>simp at h
theorem wF(cs:List In)(k:Nat)(y:In){n:Nat}(hk:k<n)(hl:cs.length=n)(i j:Nat)(u:AV)(hi:i<n)(hu:u=qG y j):(if i=k then u else cC cs i j)=cC (cs.set k y) i j:=by
 unfold cC
 simp only[List.getD_eq_getElem?_getD,List.getElem?_set]
 by_cases e:i=k
 ·subst e
  simp[hl,hi,hu]
 ·simp[e,Ne.symm e]
theorem UR{n:Nat}{is:Nat->Bool}{v:Nat->Int}:∀r ∈ u4 n is v,gR (λa=>a.sc 3=true) r:=by
 intro r hr
 simp only[u4,List.mem_singleton] at hr
 subst hr
 intro r hr
 simp only[List.mem_cons,List.not_mem_nil,or_false] at hr
 rcases hr with rfl|rfl<;>intro i j _ _<;>rfl
theorem Iz{x:In}:∀r ∈ [RT.v (aY x)],gR (λa=>a.sc 3=true) r:=by
 intro r hr
 simp only[List.mem_singleton] at hr
 subst hr
 rfl
theorem uG{na:Nat}{ra:Nat->Nat->AV}{regs:Nat}{par:Int}{cs:List In}{pt:List Int}{xc p2 p3:AV}{fin:yU}(hna:na<1000000)(hra:∀i j,i<na->j<2->(ra i j).cell=true)(hcs:cs.length<100000)(hr:regs<1000000)
  (hck:a7 Tryz.prog 26 [ae na ra regs par cs] [.v xc,.v (.n .i64 0)])
  (hpt:a7 Tryz.prog 27 [.fs 5 cs.length (cC cs)] [.v (.fs 1 pt.length (iC .i64 pt)),.v p2,.v p3]) (hptl:pt.length=cs.length)
  (hap:∀op a b:Int,(0<=a/\a<4294967296)->(0<=b/\b<4294967296)->0<=(iX op a b).1/\(iX op a b).1<4294967296)
  (hin:∀x ∈ cs,lA regs x) (hgo:AJ cs pt cs 0 ⟨cs,λ_=>true,λ_=>0,[]⟩=some fin):
  a7 Tryz.prog 11 [ae na ra regs par cs] [.a [.v (.fs 2 na ra),.v (.n .i64 regs),.v (.n .i64 par),.o 37 5 cs.length 0 (cC fin.out)],.v (.n .i64 0)]:=by
 have hcp:=gg (na:=na) (ra:=ra) (regs:=regs) (par:=par) (cs:=cs) hna hra (by omega)
 refine af ay Aw ⟨by simp,by decide⟩ ?_
 simp only[aZ,ae] at hck hcp ⊢
 repeat first|with_reducible refine ab ?_|simp only[go_sem,simprocAttr]
 refine cV hck ?_
 repeat first|with_reducible refine ab ?_|simp only[decide_true,go_sem,simprocAttr]
 refine cV hpt ?_
 repeat first|with_reducible refine ab ?_|simp only[go_sem,simprocAttr]
 refine cV hcp ?_
 simp only[go_sem,simprocAttr]
 refine GA.wk (Wk.mk (L:=[(1,.p 0 0),(2,.p 1 0),(3,.n .i64 0),(6,.fs 1 pt.length (iC .i64 pt)),(9,.p 3 0)]) (bl:=[aq 0 25 [.fs 2 na ra,.n .i64 regs,.n .i64 par,.os 2 cs.length],am 37 5 cs.length 0 (cC cs),aq 0 25 [.sl0,.n .i64 0,.n .i64 0,.sl0],aq 0 25 [.fs 2 na ra,.n .i64 regs,.n .i64 par,.fs 5 cs.length (cC cs)]]) [4,3,1,0] [2] ?_ ?_ ?_) ?_
 ·simp only[aB,aD,go_sem,simprocAttr]
  repeat' refine aa ?_ ?_
  all_goals first|exact bi|skip
 ·refine(.cons rfl (.lstw (x:=_) (by simp only[go_sem,simprocAttr]<;>rfl) (by rfl) (by rfl) (by rfl) (by rfl) (by rfl) (by rfl) (by simp) (λi hi=>by rcases Iw hi with rfl|rfl|rfl|rfl<;>(simp only[go_sem,simprocAttr];first|exact Wv.same rfl|exact Wv.os rfl|exact Wv.cv (Cv.own (ty:=93) (z:=0) (by simp) (by simp only[go_sem,simprocAttr]) hra)))) (.cons rfl (.k5) (.cons rfl (.ls) (.cons rfl (.ls) .nil))))
 ·simp
 have hg1:(0:Int)<=(regs:Int):=by omega
 have hg2:(regs:Int)<=16777216:=by omega
 have hg3:1*regs<=140737488355328/\4*regs<=140737488355328/\regs<=140737488355328/\regs<1099511627776:=by omega
 with_reducible refine GA.seq ?_
 refine GA.cut' (au [(1,.p 0 0),(2,.p 1 0),(3,.n .i64 0),(6,.fs 1 pt.length (iC .i64 pt)),(9,.p 3 0),(10,.p 5 0)]) (ao [am 4 1 regs 0 (bF λ_=>false),aq 0 50 [.os 6 regs,.os 4 regs],am 35 1 regs 0 (uF λ_=>0),aq 0 25 [.fs 2 na ra,.n .i64 regs,.n .i64 par,.os 2 cs.length],am 37 5 cs.length 0 (cC cs),aq 0 25 [.sl0,.n .i64 0,.n .i64 0,.sl0],aq 0 25 [.fs 2 na ra,.n .i64 regs,.n .i64 par,.fs 5 cs.length (cC cs)]]) ?_ ?_
 ·refine GA.frkm ay 4 (by simp only[eC,go_sem,simprocAttr]) ?_
  simp only[hg1,hg2,hg3.1,hg3.2.1,hg3.2.2.1,hg3.2.2.2,Int.le_refl,decide_true,go_sem,simprocAttr]
  repeat' refine aa ?_ ?_
  all_goals try decide
  ·refine Wk.mk [4,6,5,3,2,1,0] [] ?_ ?_ ?_
   ·simp only[aB,aD,go_sem,simprocAttr]
    repeat' refine aa ?_ ?_
    all_goals first|exact bi|skip
   ·exact(.cons rfl (.s1) (.cons rfl (.w2) (.cons rfl (.s1) (.cons rfl (.w4) (.cons rfl (.k5) (.cons rfl (.ls) (.cons rfl (.ls) .nil)))))))
   ·simp
  ·refine Wk.mk [4,6,5,3,2,1,0] [] ?_ ?_ ?_
   ·simp only[aB,aD,go_sem,simprocAttr]
    repeat' refine aa ?_ ?_
    all_goals first|exact bi|skip
   ·exact(.cons rfl (.s1) (.cons rfl (.w2) (.cons rfl (.s1) (.cons rfl (.w4) (.cons rfl (.k5) (.cons rfl (.ls) (.cons rfl (.ls) .nil)))))))
   ·simp
  ·refine Wk.mk [4,5,6,3,2,1,0] [] ?_ ?_ ?_
   ·simp only[aB,aD,go_sem,simprocAttr]
    repeat' refine aa ?_ ?_
    all_goals first|exact bi|skip
   ·exact(.cons rfl (.s1) (.cons rfl (.w2) (.cons rfl (.s1) (.cons rfl (.w4) (.cons rfl (.k5) (.cons rfl (.ls) (.cons rfl (.ls) .nil)))))))
   ·simp
  ·refine Wk.mk [5,6,4,3,2,1,0] [] ?_ ?_ ?_
   ·simp only[aB,aD,go_sem,simprocAttr]
    repeat' refine aa ?_ ?_
    all_goals first|exact bi|skip
   ·exact(.cons rfl (.s1) (.cons rfl (.w2) (.cons rfl (.s1) (.cons rfl (.w4) (.cons rfl (.k5) (.cons rfl (.ls) (.cons rfl (.ls) .nil)))))))
   ·simp
  ·refine Wk.mk [5,6,4,3,2,1,0] [] ?_ ?_ ?_
   ·simp only[aB,aD,go_sem,simprocAttr]
    repeat' refine aa ?_ ?_
    all_goals first|exact bi|skip
   ·exact(.cons rfl (.s1) (.cons rfl (.w2) (.cons rfl (.s1) (.cons rfl (.w4) (.cons rfl (.k5) (.cons rfl (.ls) (.cons rfl (.ls) .nil)))))))
   ·simp
  ·refine Wk.mk [6,5,4,3,2,1,0] [] ?_ ?_ ?_
   ·simp only[aB,aD,go_sem,simprocAttr]
    repeat' refine aa ?_ ?_
    all_goals first|exact bi|skip
   ·exact(.cons rfl (.s1) (.cons rfl (.w2) (.cons rfl (.s1) (.cons rfl (.w4) (.cons rfl (.k5) (.cons rfl (.ls) (.cons rfl (.ls) .nil)))))))
   ·simp
  ·refine Wk.mk [5,4,6,3,2,1,0] [] ?_ ?_ ?_
   ·simp only[aB,aD,go_sem,simprocAttr]
    repeat' refine aa ?_ ?_
    all_goals first|exact bi|skip
   ·exact(.cons rfl (.s1) (.cons rfl (.w2) (.cons rfl (.s1) (.cons rfl (.w4) (.cons rfl (.k5) (.cons rfl (.ls) (.cons rfl (.ls) .nil)))))))
   ·simp
  ·refine Wk.mk [6,4,5,3,2,1,0] [] ?_ ?_ ?_
   ·simp only[aB,aD,go_sem,simprocAttr]
    repeat' refine aa ?_ ?_
    all_goals first|exact bi|skip
   ·exact(.cons rfl (.s1) (.cons rfl (.w2) (.cons rfl (.s1) (.cons rfl (.w4) (.cons rfl (.k5) (.cons rfl (.ls) (.cons rfl (.ls) .nil)))))))
   ·simp
 repeat first|with_reducible refine ab ?_|simp only[go_sem,simprocAttr]
 refine GA.loop (I:=λmm e H=>∃k:Nat,mm=regs-k/\k<=regs/\e=au [(1,.p 0 0),(2,.p 1 0),(3,.n .i64 0),(6,.fs 1 pt.length (iC .i64 pt)),(9,.p 3 0),(10,.p 5 0),(11,.n .i64 k)]/\H=ao [am 4 1 regs 0 (bF λi=>decide (i<k)),aq 0 50 [.os 6 regs,.os 4 regs],am 35 1 regs 0 (uF λ_=>0),aq 0 25 [.fs 2 na ra,.n .i64 regs,.n .i64 par,.os 2 cs.length],am 37 5 cs.length 0 (cC cs),aq 0 25 [.sl0,.n .i64 0,.n .i64 0,.sl0],aq 0 25 [.fs 2 na ra,.n .i64 regs,.n .i64 par,.fs 5 cs.length (cC cs)]]) (Wk.mk [6,5,4,3,2,1,0] [] ?_ ?_ ?_) ⟨0,rfl,by omega,rfl,rfl⟩ ?_
 ·simp only[aB,aD,go_sem,simprocAttr]
  repeat' refine aa ?_ ?_
  all_goals first|exact bi|skip
 ·exact(.cons rfl (.s1) (.cons rfl (.w2) (.cons rfl (.k1) (.cons rfl (.w4) (.cons rfl (.k5) (.cons rfl (.ls) (.cons rfl (.ls) .nil)))))))
 ·simp
 rintro mm e H ⟨k,rfl,hk,rfl,rfl⟩
 repeat first|with_reducible refine ab ?_|simp only[go_sem,simprocAttr]
 refine⟨λh=>?_,λh=>?_⟩
 ·have hkn:k<regs:=by omega
  have h0:(0:Int)<=(k:Int):=by omega
  have hk1:k+1<=regs:=hkn
  repeat first|with_reducible refine ab ?_|simp only[h0,h,hkn,hk1,go_sem,simprocAttr]
  refine⟨_,_,_,?_,Wk.mk [6,5,4,3,2,1,0] [] ?_ ?_ ?_,k+1,rfl,by omega,rfl,rfl⟩
  ·omega
  ·simp only[aB,aD,go_sem,simprocAttr]
   repeat' refine aa ?_ ?_
   all_goals first|exact bi|skip
  ·refine(.cons rfl (.put (q:=k) (by simp only[go_sem,simprocAttr]<;>rfl) (by simp) rfl hkn rfl (by decide) (by omega) (λi j h hj=>?_) (λi j _ hj=>rfl)) (.cons rfl (.w2) (.cons rfl (.k1) (.cons rfl (.w4) (.cons rfl (.k5) (.cons rfl (.ls) (.cons rfl (.ls) .nil)))))))
   cases Nat.lt_one_iff.1 hj
   simp only[bF]
   by_cases e:i=k
   ·subst e;rw[if_pos rfl];simp
   ·rw[if_neg e]
    have:decide (i<k+1)=decide (i<k):=by rw[Bool.eq_iff_iff];simp;omega
    rw[this]
  ·simp
 have hkn:regs=k:=by omega
 subst hkn
 repeat first|with_reducible refine ab ?_|simp only[go_sem,simprocAttr]
 refine GA.wk (Wk.nil 12 2 50 (by simp only[go_sem,simprocAttr]) (by decide) (by simp only[go_sem,simprocAttr])) ?_
 simp only[cA]
 refine GA.loop (I:=λmm e H=>∃(i:Nat) (s:yU),mm=cs.length-i/\i<=cs.length/\y8 cs.length i s/\AJ cs pt (cs.drop i) i s=some fin/\e=au [(1,.p 0 0),(2,.p 1 0),(3,.n .i64 0),(6,.fs 1 pt.length (iC .i64 pt)),(9,.p 3 0),(10,.p 5 0),(12,.os 7 s.st.length),(13,.n .i64 i)]/\H=ao [am 50 2 s.st.length 0 (kO regs s.st),am 4 1 regs 0 (bF s.is),aq 0 50 [.os 6 regs,.os 4 regs],am 35 1 regs 0 (uF s.v),aq 0 25 [.fs 2 na ra,.n .i64 regs,.n .i64 par,.os 2 cs.length],am 37 5 cs.length 0 (cC s.out),aq 0 25 [.sl0,.n .i64 0,.n .i64 0,.sl0],aq 0 25 [.fs 2 na ra,.n .i64 regs,.n .i64 par,.fs 5 cs.length (cC cs)]]) (Wk.mk [7,6,5,4,3,2,1,0] [] ?_ ?_ ?_) ⟨0,⟨cs,λ_=>true,λ_=>0,[]⟩,rfl,by omega,⟨rfl,by simp,λi=>by simp,by simp⟩,hgo,rfl,rfl⟩ ?_
 ·simp only[aB,aD,go_sem,simprocAttr]
  repeat' refine aa ?_ ?_
  all_goals first|exact bi|skip
 ·refine(.cons rfl (.r0) (.cons rfl (.same (by simp only[go_sem,simprocAttr]<;>rfl) rfl (by decide) (λi j h hj=>?_) (λi j _ hj=>rfl)) (.cons rfl (.w2) (.cons rfl (.k1) (.cons rfl (.w4) (.cons rfl (.k5) (.cons rfl (.ls) (.cons rfl (.ls) .nil))))))))
  ·cases Nat.lt_one_iff.1 hj
   simp only[bF]
   rw[decide_eq_true h]
 ·simp
 rintro mm e H ⟨k,⟨out,is,v,st⟩,rfl,hk,hinv,hs,rfl,rfl⟩
 have⟨ho,hst,hv,hvst⟩:=hinv
 simp only at ho hst hv hvst
 repeat first|with_reducible refine ab ?_|simp only[go_sem,simprocAttr]
 refine⟨λh=>?_,λh=>?_⟩
 ·have hkn:k<cs.length:=by omega
  have h0:(0:Int)<=(k:Int):=by omega
  have hk1:k+1<=cs.length:=hkn
  have hkp:k<pt.length:=by omega
  have hkpi:(k:Int)<(pt.length:Int):=by omega
  have hm:cs.getD k (0,0,0,0,0) ∈ cs:=by rw[List.getD_eq_getElem?_getD,List.getElem?_eq_getElem hkn];exact List.getElem_mem _
  rw[bw (d:=(0,0,0,0,0)) hkn,AJ] at hs
  obtain⟨s2,hsw,hs⟩:=Option.bind_eq_some_iff.1 hs
  have hcc0:=gG cs k
  have hcc1:=kG cs k
  have hcc2:=lQ cs k
  have hcc3:=lP cs k
  have hcc4:=lu cs k
  generalize cs.getD k (0,0,0,0,0)=x at hsw hcc0 hcc1 hcc2 hcc3 hcc4 hm
  have hxok:=hin x hm
  have key:=nQ hinv hxok hap hsw
  have hyok:=kq (is:=is) hxok hap hv
  have hfo:=qh is v x hr hxok.op hxok.a hxok.b (λi _=>hv i)
  unfold fc at hsw
  simp only at hsw
  generalize hy:bk is v x=y at hsw hyok hfo
  obtain⟨opc,to,a,b,arg⟩:=x
  obtain⟨yopc,yto,ya,yb,yarg⟩:=y
  simp only[aY] at hsw hcc0 hcc1 hcc2 hcc3 hcc4 hyok hfo
  (try simp only[h0,h,hcc0,hcc1,hcc2,hcc3,hcc4,go_sem,simprocAttr])
  iterate 9 (with_reducible refine GA.go ay rfl ?_;try simp only[h0,h,hcc0,hcc1,hcc2,hcc3,hcc4,go_sem,simprocAttr])
  have hin':∀x ∈ cs,(0<=x.1/\x.1<39)/\ar x.1 x.2.1<regs:=λx hx=>⟨(hin x hx).op,(hin x hx).to⟩
  have hls:(st.length+1)*2<1099511627776/\(st.length+1)*48<=140737488355328/\st.length+1<=9223372036854775807:=by omega
  refine GA.wk (Wk.mk (L:=[(1,.p 0 0),(2,.p 1 0),(3,.n .i64 0),(6,.fs 1 pt.length (iC .i64 pt)),(9,.p 3 0),(10,.p 5 0),(12,.os 7 st.length),(13,.n .i64 k),(14,.p 8 0),(15,.n .i64 st.length),(69,.n .i64 opc)]) (bl:=[aq 0 37 [.n .i64 opc,.n .i64 to,.n .i64 a,.n .i64 b,.n .u32 arg],am 50 2 st.length 0 (kO regs st),am 4 1 regs 0 (bF is),aq 0 50 [.os 6 regs,.os 4 regs],am 35 1 regs 0 (uF v),aq 0 25 [.fs 2 na ra,.n .i64 regs,.n .i64 par,.os 2 cs.length],am 37 5 cs.length 0 (cC out),aq 0 25 [.sl0,.n .i64 0,.n .i64 0,.sl0],aq 0 25 [.fs 2 na ra,.n .i64 regs,.n .i64 par,.fs 5 cs.length (cC cs)]]) [8,7,6,5,4,3,2,1,0] [] ?_ ?_ ?_) ?_
  ·simp only[aB,aD,go_sem,simprocAttr]
   repeat' refine aa ?_ ?_
   all_goals first|exact bi|skip
  ·refine(.cons rfl (.l5) (.cons rfl (.k2 (λi j _ hj=>jj _ _ _ _)) (.cons rfl (.k1) (.cons rfl (.w2) (.cons rfl (.k1) (.cons rfl (.w4) (.cons rfl (.k5) (.cons rfl (.ls) (.cons rfl (.ls) .nil)))))))))
  ·simp
  refine GA.cutQ (au [(1,.p 0 0),(2,.p 1 0),(3,.n .i64 0),(6,.fs 1 pt.length (iC .i64 pt)),(9,.p 3 0),(10,.p 5 0),(12,.os 7 s2.st.length),(13,.n .i64 k)]) (ao [am 50 2 s2.st.length 0 (kO regs s2.st),am 4 1 regs 0 (bF s2.is),aq 0 50 [.os 6 regs,.os 4 regs],am 35 1 regs 0 (uF s2.v),aq 0 25 [.fs 2 na ra,.n .i64 regs,.n .i64 par,.os 2 cs.length],am 37 5 cs.length 0 (cC s2.out),aq 0 25 [.sl0,.n .i64 0,.n .i64 0,.sl0],aq 0 25 [.fs 2 na ra,.n .i64 regs,.n .i64 par,.fs 5 cs.length (cC cs)]]) ?_ ?_
  rotate_left
  ·intro e' H' hw
   refine GA.wk hw ?_
   repeat first|with_reducible refine ab ?_|simp only[go_sem,simprocAttr]
   refine⟨_,_,_,?_,Wk.mk [7,6,5,4,3,2,1,0] [] ?_ ?_ ?_,k+1,s2,rfl,by omega,key,hs,rfl,rfl⟩
   ·omega
   ·simp only[aB,aD,go_sem,simprocAttr]
    repeat' refine aa ?_ ?_
    all_goals first|exact bi|skip
   ·exact(.cons rfl (.k2 (λi j _ hj=>jj _ _ _ _)) (.cons rfl (.k1) (.cons rfl (.w2) (.cons rfl (.k1) (.cons rfl (.w4) (.cons rfl (.k5) (.cons rfl (.ls) (.cons rfl (.ls) .nil))))))))
   ·simp
  repeat first|with_reducible refine ab ?_|simp only[go_sem,simprocAttr]
  refine⟨λh1=>?_,λh1=>?_⟩
  ·rw[if_pos h1] at hsw
   cases hsw
   repeat first|with_reducible refine ab ?_|simp only[go_sem,simprocAttr]
   refine eG [6,4] (fargs:=[rL regs is v]) (.cons (Cv.own2 (ty1:=4) (ty2:=35) (z1:=0) (z2:=0) (by simp) (by simp) (by simp only[go_sem,simprocAttr]<;>rfl) (by simp only[go_sem,simprocAttr]<;>rfl) (λ_ _ _ _=>rfl) (λ_ _ _ _=>rfl)) .nil) (eJ is v hr) (by simp only[go_sem,simprocAttr]) UR ?_
   simp only[u4]
   repeat first|with_reducible refine ab ?_|simp only[hls.1,hls.2.1,hls.2.2,decide_true,go_sem,simprocAttr]
   refine Wk.mk [12,6,5,4,3,2,1,0] [9,10] ?_ ?_ ?_
   ·simp only[aB,aD,go_sem,simprocAttr]
    repeat' refine aa ?_ ?_
    all_goals first|exact bi|skip
   ·refine(.cons rfl (.snocw (by simp only[go_sem,simprocAttr]<;>rfl) (by simp) (by rfl) rfl (by decide) (by omega) (λi j hi _=>lJ _ _ _ _ _ hi) (λi j _ _=>jj _ _ _ _) (λj hj=>?_)) (.cons rfl (.k1) (.cons rfl (.w2) (.cons rfl (.k1) (.cons rfl (.w4) (.cons rfl (.k5) (.cons rfl (.ls) (.cons rfl (.ls) .nil))))))))
    rw[kA]
    rcases tF hj with rfl|rfl
    ·exact Wv.cv (Cv.own (ty:=4) (z:=0) (by simp) (by simp only[go_sem,simprocAttr]) (λ_ _ _ _=>rfl))
    ·exact Wv.cv (Cv.own (ty:=35) (z:=0) (by simp) (by simp only[go_sem,simprocAttr]) (λ_ _ _ _=>rfl))
   ·simp
  rw[if_neg h1] at hsw
  repeat first|with_reducible refine ab ?_|simp only[go_sem,simprocAttr]
  refine⟨λh2=>?_,λh2=>?_⟩
  ·rw[if_pos h2] at hsw
   cases st with
   |nil=>cases hsw
   |cons t r=>
   simp only at hsw
   cases hsw
   have hrl:r.length<=k:=by simp only[List.length_cons] at hst;omega
   have hsub:IntKind.wrap .i64 (((r.length+1:Nat):Int)-1)=(r.length:Int):=by rw[b8 (by omega)];omega
   have hz0:(0:Int)<=(r.length:Int):=by omega
   have hz1:(r.length:Int)<((r.length+1:Nat):Int):=by omega
   have hz2:r.length*2<(r.length+1)*2/\r.length*2+1<(r.length+1)*2/\r.length*2+2<=(r.length+1)*2:=by omega
   have hg0:(am 50 2 (r.length+1) 0 (kO regs (t::r))).get (r.length*2)= .fs 1 regs (bF t.1):=by
    have:=aH (ty:=50) (n:=r.length+1) (z:=0) (row:=kO regs (t::r)) r.length 0 (by decide:0<2)
    rw[kA] at this
    exact this
   have hg1:(am 50 2 (r.length+1) 0 (kO regs (t::r))).get (r.length*2+1)= .fs 1 regs (uF t.2):=by
    have:=aH (ty:=50) (n:=r.length+1) (z:=0) (row:=kO regs (t::r)) r.length 1 (by decide:1<2)
    rw[kA] at this
    exact this
   repeat first|with_reducible refine ab ?_|simp only[hsub,hz0,hz1,hz2.1,hz2.2.1,hz2.2.2,hg0,hg1,go_sem,simprocAttr]
   refine ai [] (fargs:=[rL regs t.1 t.2]) (.cons (.rfl (by rfl)) .nil) (eJ t.1 t.2 hr) (by simp only[go_sem,simprocAttr]) ?_
   simp only[u4]
   repeat first|with_reducible refine ab ?_|simp only[hsub,hz0,hz1,hz2.1,hz2.2.1,hz2.2.2,go_sem,simprocAttr]
   refine Wk.mk [7,9,5,10,3,2,1,0] [6,4] ?_ ?_ ?_
   ·simp only[aB,aD,go_sem,simprocAttr]
    repeat' refine aa ?_ ?_
    all_goals first|exact bi|skip
   ·refine(.cons rfl (.putw (n:=r.length+1) (q:=r.length) (by simp only[go_sem,simprocAttr]<;>rfl) (by simp) rfl (by omega) rfl (by decide) (by omega) (λi j hi hne hj=>?_) (λi j _ _=>jj _ _ _ _) (λj hj=>?_)) (.cons rfl (.k1) (.cons rfl (.w2) (.cons rfl (.k1) (.cons rfl (.w4) (.cons rfl (.k5) (.cons rfl (.ls) (.cons rfl (.ls) .nil))))))))
    ·rw[lJ _ _ _ _ _ (by omega),lJ _ _ _ _ _ (by omega)]
    ·rw[kA]
     rcases tF hj with rfl|rfl
     ·exact Wv.cv (Cv.own (ty:=4) (z:=0) (by simp) (by simp only[go_sem,simprocAttr]) (λ_ _ _ _=>rfl))
     ·exact Wv.cv (Cv.own (ty:=35) (z:=0) (by simp) (by simp only[go_sem,simprocAttr]) (λ_ _ _ _=>rfl))
   ·simp
  rw[if_neg h2] at hsw
  repeat first|with_reducible refine ab ?_|simp only[go_sem,simprocAttr]
  refine⟨λh3=>?_,λh3=>?_⟩
  ·rw[if_pos h3] at hsw
   split at hsw
   rotate_left
   ·cases hsw
   rename_i hrg
   obtain⟨q,hq⟩:∃q:Nat,pt.getD k 0=(q:Int):=⟨(pt.getD k 0).toNat,by omega⟩
   rw[hq] at hrg hsw
   rw[Int.toNat_natCast] at hsw
   cases hsw
   have hpk:iC .i64 pt k 0= .n .i64 (q:Int):=by unfold iC;rw[hq]
   repeat first|with_reducible refine ab ?_|simp only[h0,hkpi,hpk,go_sem,simprocAttr]
   refine ai [] (.cons (.rfl (by rfl)) (.cons (.rfl (by rfl)) (.cons (.rfl (by rfl)) .nil))) (dN na ra regs par cs k q (by omega) (by omega) (by omega) hr hin') (by simp only[go_sem,simprocAttr]) ?_
   repeat first|with_reducible refine ab ?_|simp only[go_sem,simprocAttr]
   refine ai [6,4,9] (fargs:=[rL regs is v,.fs 1 regs (bF (fg ((cs.take q).drop k)))]) (.cons (Cv.own2 (ty1:=4) (ty2:=35) (z1:=0) (z2:=0) (by simp) (by simp) (by simp only[go_sem,simprocAttr]<;>rfl) (by simp only[go_sem,simprocAttr]<;>rfl) (λ_ _ _ _=>rfl) (λ_ _ _ _=>rfl)) (.cons (Cv.own (ty:=4) (z:=0) (by simp) (by simp only[go_sem,simprocAttr]<;>rfl) (λ_ _ _ _=>rfl)) .nil)) (mF is v (fg ((cs.take q).drop k)) hr) (by simp only[go_sem,simprocAttr]) ?_
   simp only[u4]
   repeat first|with_reducible refine ab ?_|simp only[go_sem,simprocAttr]
   refine Wk.mk [7,10,5,11,3,2,1,0] [] ?_ ?_ ?_
   ·simp only[aB,aD,go_sem,simprocAttr]
    repeat' refine aa ?_ ?_
    all_goals first|exact bi|skip
   ·exact(.cons rfl (.k2 (λi j _ hj=>jj _ _ _ _)) (.cons rfl (.k1) (.cons rfl (.w2) (.cons rfl (.k1) (.cons rfl (.w4) (.cons rfl (.k5) (.cons rfl (.ls) (.cons rfl (.ls) .nil))))))))
   ·simp
  rw[if_neg h3] at hsw
  repeat first|with_reducible refine ab ?_|simp only[go_sem,simprocAttr]
  refine⟨λh4=>?_,λh4=>?_⟩
  ·rw[if_pos h4] at hsw
   split at hsw
   rotate_left
   ·cases hsw
   rename_i hrg
   obtain⟨q,hq⟩:∃q:Nat,pt.getD k 0=(q:Int):=⟨(pt.getD k 0).toNat,by omega⟩
   rw[hq] at hrg hsw
   rw[Int.toNat_natCast] at hsw
   have hpk:iC .i64 pt k 0= .n .i64 (q:Int):=by unfold iC;rw[hq]
   have hq0:(0:Int)<=(q:Int):=by omega
   have hq2:(q:Int)<(cs.length:Int):=by omega
   have hcq:=gG cs q
   repeat first|with_reducible refine ab ?_|simp only[h0,hkpi,hpk,hq0,hq2,hcq,go_sem,simprocAttr]
   refine⟨λh5=>?_,λh5=>?_⟩
   ·rw[if_pos h5] at hsw
    cases hsw
    repeat first|with_reducible refine ab ?_|simp only[h0,hkpi,hpk,go_sem,simprocAttr]
    refine ai [] (.cons (.rfl (by rfl)) (.cons (.rfl (by rfl)) (.cons (.rfl (by rfl)) .nil))) (dN na ra regs par cs q k (by omega) (by omega) (by omega) hr hin') (by simp only[go_sem,simprocAttr]) ?_
    repeat first|with_reducible refine ab ?_|simp only[go_sem,simprocAttr]
    refine ai [6,4,9] (fargs:=[rL regs is v,.fs 1 regs (bF (fg ((cs.take k).drop q)))]) (.cons (Cv.own2 (ty1:=4) (ty2:=35) (z1:=0) (z2:=0) (by simp) (by simp) (by simp only[go_sem,simprocAttr]<;>rfl) (by simp only[go_sem,simprocAttr]<;>rfl) (λ_ _ _ _=>rfl) (λ_ _ _ _=>rfl)) (.cons (Cv.own (ty:=4) (z:=0) (by simp) (by simp only[go_sem,simprocAttr]<;>rfl) (λ_ _ _ _=>rfl)) .nil)) (mF is v (fg ((cs.take k).drop q)) hr) (by simp only[go_sem,simprocAttr]) ?_
    simp only[u4]
    repeat first|with_reducible refine ab ?_|simp only[go_sem,simprocAttr]
    refine Wk.mk [7,10,5,11,3,2,1,0] [] ?_ ?_ ?_
    ·simp only[aB,aD,go_sem,simprocAttr]
     repeat' refine aa ?_ ?_
     all_goals first|exact bi|skip
    ·exact(.cons rfl (.k2 (λi j _ hj=>jj _ _ _ _)) (.cons rfl (.k1) (.cons rfl (.w2) (.cons rfl (.k1) (.cons rfl (.w4) (.cons rfl (.k5) (.cons rfl (.ls) (.cons rfl (.ls) .nil))))))))
    ·simp
   ·rw[if_neg h5] at hsw
    cases st with
    |nil=>cases hsw
    |cons t r=>
    simp only at hsw
    cases hsw
    have hrl:r.length<=k:=by simp only[List.length_cons] at hst;omega
    have hsub:IntKind.wrap .i64 (((r.length+1:Nat):Int)-1)=(r.length:Int):=by rw[b8 (by omega)];omega
    have hz0:(0:Int)<=(r.length:Int):=by omega
    have hz1:(r.length:Int)<((r.length+1:Nat):Int):=by omega
    have hz3:(r.length:Int)<=((r.length+1:Nat):Int):=by omega
    have hz2:r.length*2<(r.length+1)*2/\r.length*2+1<(r.length+1)*2/\r.length*2+2<=(r.length+1)*2:=by omega
    have hg0:(am 50 2 (r.length+1) 0 (kO regs (t::r))).get (r.length*2)= .fs 1 regs (bF t.1):=by
     have:=aH (ty:=50) (n:=r.length+1) (z:=0) (row:=kO regs (t::r)) r.length 0 (by decide:0<2)
     rw[kA] at this
     exact this
    have hg1:(am 50 2 (r.length+1) 0 (kO regs (t::r))).get (r.length*2+1)= .fs 1 regs (uF t.2):=by
     have:=aH (ty:=50) (n:=r.length+1) (z:=0) (row:=kO regs (t::r)) r.length 1 (by decide:1<2)
     rw[kA] at this
     exact this
    repeat first|with_reducible refine ab ?_|simp only[hsub,hz0,hz1,hz2.1,hz2.2.1,hz2.2.2,hg0,hg1,go_sem,simprocAttr]
    refine ai [6,4] (fargs:=[rL regs is v,rL regs t.1 t.2]) (.cons (Cv.own2 (ty1:=4) (ty2:=35) (z1:=0) (z2:=0) (by simp) (by simp) (by simp only[go_sem,simprocAttr]<;>rfl) (by simp only[go_sem,simprocAttr]<;>rfl) (λ_ _ _ _=>rfl) (λ_ _ _ _=>rfl)) (.cons (.rfl (by rfl)) .nil)) (nH is t.1 v t.2 hr) (by simp only[go_sem,simprocAttr]) ?_
    simp only[u4]
    repeat first|with_reducible refine ab ?_|simp only[hsub,hz0,hz3,Int.le_refl,go_sem,simprocAttr]
    refine Wk.mk [7,9,5,10,3,2,1,0] [] ?_ ?_ ?_
    ·simp only[aB,aD,go_sem,simprocAttr]
     repeat' refine aa ?_ ?_
     all_goals first|exact bi|skip
    ·exact(.cons rfl (.pop (n:=r.length+1) (by simp only[go_sem,simprocAttr]<;>rfl) rfl (by decide) (by omega) (λi j hi _=>lJ _ _ _ _ _ hi) (λi j _ _=>jj _ _ _ _)) (.cons rfl (.k1) (.cons rfl (.w2) (.cons rfl (.k1) (.cons rfl (.w4) (.cons rfl (.k5) (.cons rfl (.ls) (.cons rfl (.ls) .nil))))))))
    ·simp
  rw[if_neg h4] at hsw
  have hk5:k*5+5<=cs.length*5:=by omega
  repeat first|with_reducible refine ab ?_|simp only[go_sem,simprocAttr]
  refine eG [6,4] (fargs:=[aY (opc,to,a,b,arg),rL regs is v]) (.cons (.rfl (by rfl)) (.cons (Cv.own2 (ty1:=4) (ty2:=35) (z1:=0) (z2:=0) (by simp) (by simp) (by simp only[go_sem,simprocAttr]<;>rfl) (by simp only[go_sem,simprocAttr]<;>rfl) (λ_ _ _ _=>rfl) (λ_ _ _ _=>rfl)) .nil)) hfo (by simp only[go_sem,simprocAttr]) (Iz (x:=(yopc,yto,ya,yb,yarg))) ?_
  repeat first|with_reducible refine ab ?_|simp only[h0,h,hk5,go_sem,simprocAttr]
  refine cV (i3 yopc yto ya yb yarg hyok.1) ?_
  repeat first|with_reducible refine ab ?_|simp only[go_sem,simprocAttr]
  refine⟨λh6=>?_,λh6=>?_⟩
  ·rw[if_pos h6] at hsw
   obtain⟨q,hq⟩:∃q:Nat,ar yopc yto=(q:Int):=⟨(ar yopc yto).toNat,by omega⟩
   rw[hq,Int.toNat_natCast] at hsw
   have hqr:q<regs:=by have:=hyok.2.1;rw[hq] at this;omega
   have hqi:(q:Int)<(regs:Int):=by omega
   have hq0:(0:Int)<=(q:Int):=by omega
   have hq1:q+1<=regs:=hqr
   cases hsw
   refine GA.wk (Wk.mk (L:=[(1,.p 0 0),(2,.p 1 0),(3,.n .i64 0),(6,.fs 1 pt.length (iC .i64 pt)),(9,.p 3 0),(10,.p 5 0),(12,.os 6 st.length),(13,.n .i64 k),(16,.p 7 0),(18,.n .i64 q)]) (bl:=[am 4 1 regs 0 (bF is),aq 0 37 [.n .i64 yopc,.n .i64 yto,.n .i64 ya,.n .i64 yb,.n .u32 yarg],am 50 2 st.length 0 (kO regs st),aq 0 50 [.os 8 regs,.os 4 regs],am 35 1 regs 0 (uF v),aq 0 25 [.fs 2 na ra,.n .i64 regs,.n .i64 par,.os 2 cs.length],am 37 5 cs.length 0 (cC (out.set k (yopc,yto,ya,yb,yarg))),aq 0 25 [.sl0,.n .i64 0,.n .i64 0,.sl0],aq 0 25 [.fs 2 na ra,.n .i64 regs,.n .i64 par,.fs 5 cs.length (cC cs)]]) [6,9,7,5,4,3,2,1,0] [] ?_ ?_ ?_) ?_
   ·simp only[aB,aD,hq,go_sem,simprocAttr]
    repeat' refine aa ?_ ?_
    all_goals first|exact bi|skip
   ·refine(.cons rfl (.k1) (.cons rfl (.l5) (.cons rfl (.k2 (λi j _ hj=>jj _ _ _ _)) (.cons rfl (.w2) (.cons rfl (.k1) (.cons rfl (.w4) (.cons rfl (.put (q:=k) (by simp only[go_sem,simprocAttr]<;>rfl) (by simp) (by rfl) hkn rfl (by decide) (by omega) (λi j h hj=>?_) (λi j _ hj=>by rcases cJ hj with rfl|rfl|rfl|rfl|rfl<;>rfl)) (.cons rfl (.ls) (.cons rfl (.ls) .nil)))))))))
    rcases cJ hj with rfl|rfl|rfl|rfl|rfl<;>exact wF _ _ _ hkn ho _ _ _ (by omega) rfl
   ·simp
   refine GA.mixm ay 8 (by simp only[eC,go_sem,simprocAttr]) ?_
   simp only[hqi,hq0,hq1,hqr,go_sem,simprocAttr]
   refine⟨.inr (by decide),?_⟩
   refine Wk.mk [6,8,5,4,3,2,1,0] [] ?_ ?_ ?_
   ·simp only[aB,aD,go_sem,simprocAttr]
    repeat' refine aa ?_ ?_
    all_goals first|exact bi|skip
   ·refine(.cons rfl (.k2 (λi j _ hj=>jj _ _ _ _)) (.cons rfl (.put (q:=q) (by simp only[go_sem,simprocAttr]<;>rfl) (by simp) (by rfl) hqr rfl (by decide) (by omega) (λi j h hj=>?_) (λi j _ hj=>rfl)) (.cons rfl (.w2) (.cons rfl (.put (q:=q) (by simp only[go_sem,simprocAttr]<;>rfl) (by simp) (by rfl) hqr rfl (by decide) (by omega) (λi j h hj=>?_) (λi j _ hj=>rfl)) (.cons rfl (.w4) (.cons rfl (.k5) (.cons rfl (.ls) (.cons rfl (.ls) .nil))))))))
    ·cases Nat.lt_one_iff.1 hj
     simp only[bF,upd]
     split<;>rfl
    ·cases Nat.lt_one_iff.1 hj
     simp only[uF,upd]
     split<;>rfl
   ·simp
  ·rw[if_neg (by omega)] at hsw
   cases hsw
   repeat first|with_reducible refine ab ?_|simp only[go_sem,simprocAttr]
   refine Wk.mk [7,6,5,4,3,2,1,0] [] ?_ ?_ ?_
   ·simp only[aB,aD,go_sem,simprocAttr]
    repeat' refine aa ?_ ?_
    all_goals first|exact bi|skip
   ·refine(.cons rfl (.k2 (λi j _ hj=>jj _ _ _ _)) (.cons rfl (.k1) (.cons rfl (.w2) (.cons rfl (.k1) (.cons rfl (.w4) (.cons rfl (.put (q:=k) (by simp only[go_sem,simprocAttr]<;>rfl) (by simp) (by rfl) hkn rfl (by decide) (by omega) (λi j h hj=>?_) (λi j _ hj=>by rcases cJ hj with rfl|rfl|rfl|rfl|rfl<;>rfl)) (.cons rfl (.ls) (.cons rfl (.ls) .nil))))))))
    rcases cJ hj with rfl|rfl|rfl|rfl|rfl<;>exact wF _ _ _ hkn ho _ _ _ (by omega) rfl
   ·simp
 ·have hkn:k=cs.length:=by omega
  subst hkn
  rw[List.drop_length,AJ] at hs
  cases hs
  repeat first|with_reducible refine ab ?_|simp only[go_sem,simprocAttr]
  refine⟨[_,_],rfl,.a (by simp) (.v rfl rfl (.v rfl rfl (.v rfl rfl (.o (x:=_) (by simp only[go_sem,simprocAttr];rfl) (by rfl) (by rfl) (by rfl) (by rfl) (by decide) (Nat.le_refl _) (Nat.le_refl _) (λi j _ hj=>aH i j hj) (λi j _ hj=>bh i hj) .nil)))) rfl (.v rfl rfl .nil)⟩
def cY(w ch:Nat->Bool)(f:In):Bool:=w f.2.1.toNat||(decide (0<=f.2.2.1)&&w f.2.2.1.toNat)||(decide (0<=f.2.2.2.1)&&w f.2.2.2.1.toNat)||(decide (f.1=3)&&ch f.2.2.2.2.toNat)
def ew(w ch:Nat->Bool)(l:List In):List In:=l.filter λf=> !cY w ch f
structure A3(n m:Nat)(f:In):Prop where
 to:0<=f.2.1/\f.2.1<n
 a:f.2.2.1<n
 b:f.2.2.2.1<n
 arg:f.1=3->0<=f.2.2.2.2/\f.2.2.2.2<m
theorem jZ{n m:Nat}(l:List In)(w ch:Nat->Bool)(hl:l.length<1000000)(hok:∀f ∈ l,A3 n m f):a7 Tryz.prog 42 [.fs 5 l.length (cC l),.fs 1 n (bF w),.fs 1 m (bF ch)] [.o 72 5 (ew w ch l).length 0 (cC (ew w ch l))]:=by
 refine af ay KO ⟨by simp,by decide⟩ ?_
 simp only[aZ]
 unfold ew
 generalize hp:(λf=> !cY w ch f)=p
 repeat first|with_reducible refine ab ?_|simp only[go_sem,simprocAttr]
 refine GA.wk (Wk.nil 7 5 72 (by simp only[go_sem,simprocAttr]) (by decide) (by simp only[bW,ba,List.length_nil];decide)) ?_
 simp only[cA]
 refine GA.loop (I:=λmm e H=>∃(k:Nat) (xs:List In),mm=l.length-k/\k<=l.length/\xs=(l.take k).filter p/\e=au [(0,.fs 5 l.length (cC l)),(1,.fs 1 n (bF w)),(2,.fs 1 m (bF ch)),(8,.n .i64 k),(7,.os 0 xs.length)]/\H=ao [am 72 5 xs.length 0 (cC xs)]) (Wk.mk [0] [] ?_ ?_ ?_) ⟨0,[],rfl,by omega,rfl,rfl,rfl⟩ ?_
 ·simp only[aB,aD,go_sem,simprocAttr]
  repeat' refine aa ?_ ?_
  all_goals first|exact bi|skip
 ·refine .cons rfl (.r1) .nil
 ·simp
 rintro mm e H ⟨k,xs,rfl,hk,hs,rfl,rfl⟩
 repeat first|with_reducible refine ab ?_|simp only[go_sem,simprocAttr]
 refine⟨λh=>?_,λh=>?_⟩
 ·have hk':k<l.length:=by omega
  have h0:(0:Int)<=(k:Int):=by omega
  have hlt:xs.length<=l.length:=by rw[hs];exact Nat.le_trans (List.length_filter_le _ _) (by rw[List.length_take];exact Nat.min_le_right _ _)
  have htk:(l.take (k+1)).filter p=xs++(if p (l.getD k (0,0,0,0,0))=true then[l.getD k (0,0,0,0,0)] else[]):=by
   rw[c9 (d:=(0,0,0,0,0)) hk',List.filter_append,<-hs]
   simp only[List.filter_cons,List.filter_nil]
  have hlim:(xs.length+1)*5<1099511627776/\(xs.length+1)*40<=140737488355328/\xs.length+1<=9223372036854775807/\xs.length*5+5<1099511627776:=by omega
  have hcc0:=gG l k
  have hcc1:=kG l k
  have hcc2:=lQ l k
  have hcc3:=lP l k
  have hcc4:=lu l k
  have hm:l.getD k (0,0,0,0,0) ∈ l:=by rw[List.getD_eq_getElem?_getD,List.getElem?_eq_getElem hk'];exact List.getElem_mem _
  generalize l.getD k (0,0,0,0,0)=x at hcc0 hcc1 hcc2 hcc3 hcc4 hm htk
  have hpx:p x= !cY w ch x:=by rw[<-hp]
  obtain⟨⟨hto0,hto1⟩,ha1,hb1,harg⟩:=hok x hm
  obtain⟨op,to,a,b,arg⟩:=x
  simp only at hcc0 hcc1 hcc2 hcc3 hcc4 hto0 hto1 ha1 hb1 harg
  obtain⟨t,rfl⟩:∃q:Nat,to=(q:Int):=⟨to.toNat,by omega⟩
  have e1:bF w t 0= .b (w t):=rfl
  (try simp only[h0,h,hcc0,hcc1,hcc2,hcc3,hcc4,go_sem,simprocAttr])
  iterate 5 (with_reducible refine GA.go ay rfl ?_;try simp only[h0,h,hcc0,hcc1,hcc2,hcc3,hcc4,go_sem,simprocAttr])
  with_reducible refine GA.seq ?_
  refine GA.cut' (au [(0,.fs 5 l.length (cC l)),(1,.fs 1 n (bF w)),(2,.fs 1 m (bF ch)),(8,.n .i64 k),(7,.os 0 xs.length),(10,.b (cY w ch (op,(t:Int),a,b,arg)))]) (ao [am 72 5 xs.length 0 (cC xs)]) ?_ ?_
  ·have done:∀(e':Tr AV) (H':AH) (v:Bool),v=cY w ch (op,(t:Int),a,b,arg)->Wk 73 e' H' (au [(0,.fs 5 l.length (cC l)),(1,.fs 1 n (bF w)),(2,.fs 1 m (bF ch)),(8,.n .i64 k),(7,.os 0 xs.length),(10,.b v)]) (ao [am 72 5 xs.length 0 (cC xs)])->Wk 73 e' H' (au [(0,.fs 5 l.length (cC l)),(1,.fs 1 n (bF w)),(2,.fs 1 m (bF ch)),(8,.n .i64 k),(7,.os 0 xs.length),(10,.b (cY w ch (op,(t:Int),a,b,arg)))]) (ao [am 72 5 xs.length 0 (cC xs)]):=by
    rintro e' H' v rfl hw;exact hw
   cases h1:w t
   ·rw[h1] at e1
    by_cases h2:0<=a
    ·obtain⟨p,rfl⟩:∃q:Nat,a=(q:Int):=⟨a.toNat,by omega⟩
     have e2:bF w p 0= .b (w p):=rfl
     cases h7:w p
     ·rw[h7] at e2
      by_cases h3:0<=b
      ·obtain⟨q,rfl⟩:∃q:Nat,b=(q:Int):=⟨b.toNat,by omega⟩
       have e3:bF w q 0= .b (w q):=rfl
       cases h6:w q
       ·rw[h6] at e3
        by_cases h4:op=3
        ·subst h4
         obtain⟨harg0,harg1⟩:=harg rfl
         obtain⟨g,rfl⟩:∃q:Nat,arg=(q:Int):=⟨arg.toNat,by omega⟩
         have e4:bF ch g 0= .b (ch g):=rfl
         cases h5:ch g
         ·rw[h5] at e4
          repeat first|with_reducible refine ab ?_|simp only[hto0,hto1,e1,h2,ha1,e2,e3,h3,hb1,e4,harg0,harg1,decide_true,decide_false,go_sem,simprocAttr]
          refine done _ _ false ?_ (Wk.mk [0] [] ?_ ?_ ?_)
          ·simp[cY,h1,h7,h6,h5]
          ·simp only[aB,aD,go_sem,simprocAttr]
           repeat' refine aa ?_ ?_
           all_goals first|exact bi|skip
          ·exact(.cons rfl (.k5) .nil)
          ·simp
         ·rw[h5] at e4
          repeat first|with_reducible refine ab ?_|simp only[hto0,hto1,e1,h2,ha1,e2,e3,h3,hb1,e4,harg0,harg1,decide_true,decide_false,go_sem,simprocAttr]
          refine done _ _ true ?_ (Wk.mk [0] [] ?_ ?_ ?_)
          ·simp[cY,h1,h7,h6,h5]
          ·simp only[aB,aD,go_sem,simprocAttr]
           repeat' refine aa ?_ ?_
           all_goals first|exact bi|skip
          ·exact(.cons rfl (.k5) .nil)
          ·simp
        ·skip
         repeat first|with_reducible refine ab ?_|simp only[hto0,hto1,e1,h2,ha1,e2,e3,h3,hb1,h4,decide_true,decide_false,go_sem,simprocAttr]
         refine done _ _ false ?_ (Wk.mk [0] [] ?_ ?_ ?_)
         ·simp[cY,h1,h7,h6,h4]
         ·simp only[aB,aD,go_sem,simprocAttr]
          repeat' refine aa ?_ ?_
          all_goals first|exact bi|skip
         ·exact(.cons rfl (.k5) .nil)
         ·simp
       ·rw[h6] at e3
        repeat first|with_reducible refine ab ?_|simp only[hto0,hto1,e1,h2,ha1,e2,e3,h3,hb1,decide_true,decide_false,go_sem,simprocAttr]
        refine done _ _ true ?_ (Wk.mk [0] [] ?_ ?_ ?_)
        ·simp[cY,h1,h7,h6]
        ·simp only[aB,aD,go_sem,simprocAttr]
         repeat' refine aa ?_ ?_
         all_goals first|exact bi|skip
        ·exact(.cons rfl (.k5) .nil)
        ·simp
      ·skip
       by_cases h4:op=3
       ·subst h4
        obtain⟨harg0,harg1⟩:=harg rfl
        obtain⟨g,rfl⟩:∃q:Nat,arg=(q:Int):=⟨arg.toNat,by omega⟩
        have e4:bF ch g 0= .b (ch g):=rfl
        cases h5:ch g
        ·rw[h5] at e4
         repeat first|with_reducible refine ab ?_|simp only[hto0,hto1,e1,h2,ha1,e2,h3,e4,harg0,harg1,decide_true,decide_false,go_sem,simprocAttr]
         refine done _ _ false ?_ (Wk.mk [0] [] ?_ ?_ ?_)
         ·simp[cY,h1,h7,h3,h5]
         ·simp only[aB,aD,go_sem,simprocAttr]
          repeat' refine aa ?_ ?_
          all_goals first|exact bi|skip
         ·exact(.cons rfl (.k5) .nil)
         ·simp
        ·rw[h5] at e4
         repeat first|with_reducible refine ab ?_|simp only[hto0,hto1,e1,h2,ha1,e2,h3,e4,harg0,harg1,decide_true,decide_false,go_sem,simprocAttr]
         refine done _ _ true ?_ (Wk.mk [0] [] ?_ ?_ ?_)
         ·simp[cY,h1,h7,h3,h5]
         ·simp only[aB,aD,go_sem,simprocAttr]
          repeat' refine aa ?_ ?_
          all_goals first|exact bi|skip
         ·exact(.cons rfl (.k5) .nil)
         ·simp
       ·skip
        repeat first|with_reducible refine ab ?_|simp only[hto0,hto1,e1,h2,ha1,e2,h3,h4,decide_true,decide_false,go_sem,simprocAttr]
        refine done _ _ false ?_ (Wk.mk [0] [] ?_ ?_ ?_)
        ·simp[cY,h1,h7,h3,h4]
        ·simp only[aB,aD,go_sem,simprocAttr]
         repeat' refine aa ?_ ?_
         all_goals first|exact bi|skip
        ·exact(.cons rfl (.k5) .nil)
        ·simp
     ·rw[h7] at e2
      repeat first|with_reducible refine ab ?_|simp only[hto0,hto1,e1,h2,ha1,e2,decide_true,decide_false,go_sem,simprocAttr]
      refine done _ _ true ?_ (Wk.mk [0] [] ?_ ?_ ?_)
      ·simp[cY,h1,h7]
      ·simp only[aB,aD,go_sem,simprocAttr]
       repeat' refine aa ?_ ?_
       all_goals first|exact bi|skip
      ·exact(.cons rfl (.k5) .nil)
      ·simp
    ·skip
     by_cases h3:0<=b
     ·obtain⟨q,rfl⟩:∃q:Nat,b=(q:Int):=⟨b.toNat,by omega⟩
      have e3:bF w q 0= .b (w q):=rfl
      cases h6:w q
      ·rw[h6] at e3
       by_cases h4:op=3
       ·subst h4
        obtain⟨harg0,harg1⟩:=harg rfl
        obtain⟨g,rfl⟩:∃q:Nat,arg=(q:Int):=⟨arg.toNat,by omega⟩
        have e4:bF ch g 0= .b (ch g):=rfl
        cases h5:ch g
        ·rw[h5] at e4
         repeat first|with_reducible refine ab ?_|simp only[hto0,hto1,e1,h2,e3,h3,hb1,e4,harg0,harg1,decide_true,decide_false,go_sem,simprocAttr]
         refine done _ _ false ?_ (Wk.mk [0] [] ?_ ?_ ?_)
         ·simp[cY,h1,h2,h6,h5]
         ·simp only[aB,aD,go_sem,simprocAttr]
          repeat' refine aa ?_ ?_
          all_goals first|exact bi|skip
         ·exact(.cons rfl (.k5) .nil)
         ·simp
        ·rw[h5] at e4
         repeat first|with_reducible refine ab ?_|simp only[hto0,hto1,e1,h2,e3,h3,hb1,e4,harg0,harg1,decide_true,decide_false,go_sem,simprocAttr]
         refine done _ _ true ?_ (Wk.mk [0] [] ?_ ?_ ?_)
         ·simp[cY,h1,h2,h6,h5]
         ·simp only[aB,aD,go_sem,simprocAttr]
          repeat' refine aa ?_ ?_
          all_goals first|exact bi|skip
         ·exact(.cons rfl (.k5) .nil)
         ·simp
       ·skip
        repeat first|with_reducible refine ab ?_|simp only[hto0,hto1,e1,h2,e3,h3,hb1,h4,decide_true,decide_false,go_sem,simprocAttr]
        refine done _ _ false ?_ (Wk.mk [0] [] ?_ ?_ ?_)
        ·simp[cY,h1,h2,h6,h4]
        ·simp only[aB,aD,go_sem,simprocAttr]
         repeat' refine aa ?_ ?_
         all_goals first|exact bi|skip
        ·exact(.cons rfl (.k5) .nil)
        ·simp
      ·rw[h6] at e3
       repeat first|with_reducible refine ab ?_|simp only[hto0,hto1,e1,h2,e3,h3,hb1,decide_true,decide_false,go_sem,simprocAttr]
       refine done _ _ true ?_ (Wk.mk [0] [] ?_ ?_ ?_)
       ·simp[cY,h1,h2,h6]
       ·simp only[aB,aD,go_sem,simprocAttr]
        repeat' refine aa ?_ ?_
        all_goals first|exact bi|skip
       ·exact(.cons rfl (.k5) .nil)
       ·simp
     ·skip
      by_cases h4:op=3
      ·subst h4
       obtain⟨harg0,harg1⟩:=harg rfl
       obtain⟨g,rfl⟩:∃q:Nat,arg=(q:Int):=⟨arg.toNat,by omega⟩
       have e4:bF ch g 0= .b (ch g):=rfl
       cases h5:ch g
       ·rw[h5] at e4
        repeat first|with_reducible refine ab ?_|simp only[hto0,hto1,e1,h2,h3,e4,harg0,harg1,decide_true,decide_false,go_sem,simprocAttr]
        refine done _ _ false ?_ (Wk.mk [0] [] ?_ ?_ ?_)
        ·simp[cY,h1,h2,h3,h5]
        ·simp only[aB,aD,go_sem,simprocAttr]
         repeat' refine aa ?_ ?_
         all_goals first|exact bi|skip
        ·exact(.cons rfl (.k5) .nil)
        ·simp
       ·rw[h5] at e4
        repeat first|with_reducible refine ab ?_|simp only[hto0,hto1,e1,h2,h3,e4,harg0,harg1,decide_true,decide_false,go_sem,simprocAttr]
        refine done _ _ true ?_ (Wk.mk [0] [] ?_ ?_ ?_)
        ·simp[cY,h1,h2,h3,h5]
        ·simp only[aB,aD,go_sem,simprocAttr]
         repeat' refine aa ?_ ?_
         all_goals first|exact bi|skip
        ·exact(.cons rfl (.k5) .nil)
        ·simp
      ·skip
       repeat first|with_reducible refine ab ?_|simp only[hto0,hto1,e1,h2,h3,h4,decide_true,decide_false,go_sem,simprocAttr]
       refine done _ _ false ?_ (Wk.mk [0] [] ?_ ?_ ?_)
       ·simp[cY,h1,h2,h3,h4]
       ·simp only[aB,aD,go_sem,simprocAttr]
        repeat' refine aa ?_ ?_
        all_goals first|exact bi|skip
       ·exact(.cons rfl (.k5) .nil)
       ·simp
   ·rw[h1] at e1
    repeat first|with_reducible refine ab ?_|simp only[hto0,hto1,e1,decide_true,decide_false,go_sem,simprocAttr]
    refine done _ _ true ?_ (Wk.mk [0] [] ?_ ?_ ?_)
    ·simp[cY,h1]
    ·simp only[aB,aD,go_sem,simprocAttr]
     repeat' refine aa ?_ ?_
     all_goals first|exact bi|skip
    ·exact(.cons rfl (.k5) .nil)
    ·simp
  repeat first|with_reducible refine ab ?_|simp only[go_sem,simprocAttr]
  refine⟨λh1=>?_,λh1=>?_⟩
  ·rw[hpx,h1,if_pos (by rfl)] at htk
   repeat first|with_reducible refine ab ?_|simp only[h0,h,hcc0,hcc1,hcc2,hcc3,hcc4,hlim.1,hlim.2.1,hlim.2.2.1,hlim.2.2.2,decide_true,go_sem,simprocAttr]
   refine⟨_,_,_,?_,Wk.mk [2] [] ?_ ?_ ?_,k+1,xs++[(op,(t:Int),a,b,arg)],rfl,by omega,htk.symm,rfl,rfl⟩
   ·omega
   ·simp only[aB,aD,go_sem,simprocAttr]
    repeat' refine aa ?_ ?_
    all_goals first|exact bi|skip
   ·simp only[List.length_append,List.length_cons,List.length_nil,Nat.zero_add]
    refine .cons rfl (.snoc (by simp only[go_sem,simprocAttr]<;>rfl) (by simp) (by rfl) rfl (by decide) (by omega) (λi j hi _=>by unfold cC;rw[aF hi]) (λj hj=>?_) (λi j _ hj=>by rcases cJ hj with rfl|rfl|rfl|rfl|rfl<;>rfl)) .nil
    unfold cC;rw[aG];rcases cJ hj with rfl|rfl|rfl|rfl|rfl<;>rfl
   ·simp
  ·rw[hpx,h1,if_neg (by simp),List.append_nil] at htk
   repeat first|with_reducible refine ab ?_|simp only[go_sem,simprocAttr]
   refine⟨_,_,_,?_,Wk.mk [0] [] ?_ ?_ ?_,k+1,xs,rfl,by omega,htk.symm,rfl,rfl⟩
   ·omega
   ·simp only[aB,aD,go_sem,simprocAttr]
    repeat' refine aa ?_ ?_
    all_goals first|exact bi|skip
   ·exact(.cons rfl (.k5) .nil)
   ·simp
 ·have:k=l.length:=by omega
  subst this
  rw[List.take_length] at hs
  rw[<-hs]
  repeat first|with_reducible refine ab ?_|simp only[go_sem,simprocAttr]
  refine⟨[_],rfl,.o (x:=_) (by simp only[go_sem,simprocAttr];rfl) (by rfl) (by rfl) (by rfl) (by decide) (Nat.le_refl _) (Nat.le_refl _) (λi j _ hj=>aH i j hj) (λi j _ hj=>bh i hj) rfl .nil⟩
theorem eT(op:Int):a7 Tryz.prog 45 [.n .i64 op] [.v (.b (di op))]:=by
 refine af ay Ki ⟨by simp,by decide⟩ ?_
 simp only[aZ]
 unfold di bI
 by_cases h3:op=3
 ·repeat first|with_reducible refine ab ?_|simp only[h3,decide_true,go_sem,simprocAttr]
  exact ah (by simp) rfl
 by_cases h8:8<=op
 ·by_cases h26:op<=26
  ·repeat first|with_reducible refine ab ?_|simp only[h3,h8,h26,decide_true,decide_false,go_sem,simprocAttr]
   exact ah (by simp[h8,h26]) rfl
  ·by_cases h32:op=32
   ·subst h32
    repeat first|with_reducible refine ab ?_|simp only[h3,h8,h26,decide_true,decide_false,go_sem,simprocAttr]
    exact ah (by simp) rfl
   ·repeat first|with_reducible refine ab ?_|simp only[h3,h8,h26,h32,decide_true,decide_false,go_sem,simprocAttr]
    exact ah (by simp[h3,h8,h26,h32]) rfl
 ·have h26:op<=26:=by omega
  have h32:¬op=32:=by omega
  have h33:¬op=33:=by omega
  repeat first|with_reducible refine ab ?_|simp only[h3,h8,h26,h32,h33,decide_true,decide_false,go_sem,simprocAttr]
  exact ah (by simp[h3,h8,h32,h33]) rfl
theorem tU(f x:In):cE f x=(decide (f.1=x.1)&&(decide (f.2.2.1=x.2.2.1)&&(decide (f.2.2.2.1=x.2.2.2.1)&&decide (f.2.2.2.2=x.2.2.2.2)))):=by
 unfold cE;rw[ka];simp
theorem qP(l:List In)(x:In)(hl:l.length<1000000):a7 Tryz.prog 46 [.fs 5 l.length (cC l),aY x] [.v (.n .i64 (idx (λf=>cE f x) l 0))]:=by
 generalize hp:(λf=>cE f x)=p
 obtain⟨xop,xto,xa,xb,xarg⟩:=x
 refine af ay Kc ⟨by simp,by decide⟩ ?_
 simp only[aZ,aY]
 repeat first|with_reducible refine ab ?_|simp only[go_sem,simprocAttr]
 refine GA.loop (I:=λm e H=>∃k:Nat,m=l.length-k/\k<=l.length/\idx p l 0=idx p (l.drop k) k/\e=au [(0,.fs 5 l.length (cC l)),(3,.p 0 0),(5,.n .i64 k)]/\H=ao [aq 0 37 [.n .i64 xop,.n .i64 xto,.n .i64 xa,.n .i64 xb,.n .u32 xarg]]) (Wk.mk [0] [] ?_ ?_ ?_) ⟨0,rfl,by omega,rfl,rfl,rfl⟩ ?_
 ·simp only[aB,aD,go_sem,simprocAttr]
  repeat' refine aa ?_ ?_
  all_goals first|exact bi|skip
 ·exact(.cons rfl (.l5) .nil)
 ·simp
 rintro m e H ⟨k,rfl,hk,hs,rfl,rfl⟩
 repeat first|with_reducible refine ab ?_|simp only[go_sem,simprocAttr]
 refine⟨λh=>?_,λh=>?_⟩
 ·have hk':k<l.length:=by omega
  have h0:(0:Int)<=(k:Int):=by omega
  rw[bw (d:=(0,0,0,0,0)) hk',idx] at hs
  have hcc0:=gG l k
  have hcc1:=kG l k
  have hcc2:=lQ l k
  have hcc3:=lP l k
  have hcc4:=lu l k
  generalize l.getD k (0,0,0,0,0)=f at hcc0 hcc1 hcc2 hcc3 hcc4 hs
  obtain⟨op,to,a,b,arg⟩:=f
  simp only at hcc0 hcc1 hcc2 hcc3 hcc4
  have hpf:p (op,to,a,b,arg)=(decide (op=xop)&&(decide (a=xa)&&(decide (b=xb)&&decide (arg=xarg)))):=by rw[<-hp];exact tU _ _
  by_cases h1:op=xop
  ·by_cases h2:a=xa
   ·by_cases h3:b=xb
    ·by_cases h4:arg=xarg
     ·rw[hpf,if_pos (by simp[h1,h2,h3,h4])] at hs
      repeat first|with_reducible refine ab ?_|simp only[h0,h,hcc0,hcc1,hcc2,hcc3,hcc4,h1,h2,h3,h4,decide_true,go_sem,simprocAttr]
      exact ah (by rw[hs]) rfl
     ·rw[hpf,if_neg (by simp[h4])] at hs
      repeat first|with_reducible refine ab ?_|simp only[h0,h,hcc0,hcc1,hcc2,hcc3,hcc4,h1,h2,h3,h4,decide_true,decide_false,go_sem,simprocAttr]
      refine⟨_,_,_,?_,Wk.mk [0] [] ?_ ?_ ?_,k+1,rfl,by omega,hs,rfl,rfl⟩
      ·omega
      ·simp only[aB,aD,go_sem,simprocAttr]
       repeat' refine aa ?_ ?_
       all_goals first|exact bi|skip
      ·exact(.cons rfl (.l5) .nil)
      ·simp
    ·rw[hpf,if_neg (by simp[h3])] at hs
     repeat first|with_reducible refine ab ?_|simp only[h0,h,hcc0,hcc1,hcc2,hcc3,hcc4,h1,h2,h3,decide_true,decide_false,go_sem,simprocAttr]
     refine⟨_,_,_,?_,Wk.mk [0] [] ?_ ?_ ?_,k+1,rfl,by omega,hs,rfl,rfl⟩
     ·omega
     ·simp only[aB,aD,go_sem,simprocAttr]
      repeat' refine aa ?_ ?_
      all_goals first|exact bi|skip
     ·exact(.cons rfl (.l5) .nil)
     ·simp
   ·rw[hpf,if_neg (by simp[h2])] at hs
    repeat first|with_reducible refine ab ?_|simp only[h0,h,hcc0,hcc1,hcc2,hcc3,hcc4,h1,h2,decide_true,decide_false,go_sem,simprocAttr]
    refine⟨_,_,_,?_,Wk.mk [0] [] ?_ ?_ ?_,k+1,rfl,by omega,hs,rfl,rfl⟩
    ·omega
    ·simp only[aB,aD,go_sem,simprocAttr]
     repeat' refine aa ?_ ?_
     all_goals first|exact bi|skip
    ·exact(.cons rfl (.l5) .nil)
    ·simp
  ·rw[hpf,if_neg (by simp[h1])] at hs
   repeat first|with_reducible refine ab ?_|simp only[h0,h,hcc0,hcc1,hcc2,hcc3,hcc4,h1,decide_true,decide_false,go_sem,simprocAttr]
   refine⟨_,_,_,?_,Wk.mk [0] [] ?_ ?_ ?_,k+1,rfl,by omega,hs,rfl,rfl⟩
   ·omega
   ·simp only[aB,aD,go_sem,simprocAttr]
    repeat' refine aa ?_ ?_
    all_goals first|exact bi|skip
   ·exact(.cons rfl (.l5) .nil)
   ·simp
 ·repeat first|with_reducible refine ab ?_|simp only[go_sem,simprocAttr]
  have:k=l.length:=by omega
  subst this
  rw[List.drop_length,idx] at hs
  exact ah (by rw[hs]) rfl
def ks(b:List In)(f:In):Bool:=decide (0<=idx (λg=>cE g f) b 0)&&decide ((b.getD (idx (λg=>cE g f) b 0).toNat dj).2.1=f.2.1)
def jt(a b:List In):List In:=a.filter (ks b)
theorem nI(l b:List In)(hl:l.length<1000000)(hb:b.length<1000000):a7 Tryz.prog 44 [.fs 5 l.length (cC l),.fs 5 b.length (cC b)] [.o 72 5 (jt l b).length 0 (cC (jt l b))]:=by
 refine af ay Kq ⟨by simp,by decide⟩ ?_
 simp only[aZ]
 unfold jt
 generalize hp:ks b=p
 repeat first|with_reducible refine ab ?_|simp only[go_sem,simprocAttr]
 refine GA.wk (Wk.nil 5 5 72 (by simp only[go_sem,simprocAttr]) (by decide) (by simp only[bW,ba,List.length_nil];decide)) ?_
 simp only[cA]
 refine GA.loop (I:=λmm e H=>∃(k:Nat) (xs:List In),mm=l.length-k/\k<=l.length/\xs=(l.take k).filter p/\e=au [(0,.fs 5 l.length (cC l)),(1,.fs 5 b.length (cC b)),(6,.n .i64 k),(5,.os 0 xs.length)]/\H=ao [am 72 5 xs.length 0 (cC xs)]) (Wk.mk [0] [] ?_ ?_ ?_) ⟨0,[],rfl,by omega,rfl,rfl,rfl⟩ ?_
 ·simp only[aB,aD,go_sem,simprocAttr]
  repeat' refine aa ?_ ?_
  all_goals first|exact bi|skip
 ·refine .cons rfl (.r1) .nil
 ·simp
 rintro mm e H ⟨k,xs,rfl,hk,hs,rfl,rfl⟩
 repeat first|with_reducible refine ab ?_|simp only[go_sem,simprocAttr]
 refine⟨λh=>?_,λh=>?_⟩
 ·have hk':k<l.length:=by omega
  have h0:(0:Int)<=(k:Int):=by omega
  have hlt:xs.length<=l.length:=by rw[hs];exact Nat.le_trans (List.length_filter_le _ _) (by rw[List.length_take];exact Nat.min_le_right _ _)
  have htk:(l.take (k+1)).filter p=xs++(if p (l.getD k (0,0,0,0,0))=true then[l.getD k (0,0,0,0,0)] else[]):=by
   rw[c9 (d:=(0,0,0,0,0)) hk',List.filter_append,<-hs]
   simp only[List.filter_cons,List.filter_nil]
  have hlim:(xs.length+1)*5<1099511627776/\(xs.length+1)*40<=140737488355328/\xs.length+1<=9223372036854775807/\xs.length*5+5<1099511627776:=by omega
  have hcc0:=gG l k
  have hcc1:=kG l k
  have hcc2:=lQ l k
  have hcc3:=lP l k
  have hcc4:=lu l k
  generalize l.getD k (0,0,0,0,0)=x at hcc0 hcc1 hcc2 hcc3 hcc4 htk
  obtain⟨op,to,a,bb,arg⟩:=x
  have hpx:p (op,to,a,bb,arg)=ks b (op,to,a,bb,arg):=by rw[<-hp]
  simp only at hcc0 hcc1 hcc2 hcc3 hcc4
  have hfi:=qP b (op,to,a,bb,arg) hb
  unfold ks at hpx
  have hif:=mz (λg=>cE g (op,to,a,bb,arg)) b 0
  generalize idx (λg=>cE g (op,to,a,bb,arg)) b 0=ix at hfi hpx hif
  simp only[aY] at hfi hpx
  (try simp only[h0,h,hcc0,hcc1,hcc2,hcc3,hcc4,go_sem,simprocAttr])
  iterate 5 (with_reducible refine GA.go ay rfl ?_;try simp only[h0,h,hcc0,hcc1,hcc2,hcc3,hcc4,go_sem,simprocAttr])
  refine fm hfi ?_
  by_cases hi:0<=ix
  ·obtain⟨q,rfl⟩:∃q:Nat,ix=(q:Int):=⟨ix.toNat,by omega⟩
   have hq:(q:Int)<(b.length:Int):=by omega
   have hbq:=kG b q
   have hbq':(b.getD q dj).2.1=(b.getD q (0,0,0,0,0)).2.1:=rfl
   rw[Int.toNat_natCast,hbq'] at hpx
   generalize (b.getD q (0,0,0,0,0)).2.1=bto at hbq hpx
   by_cases ht:bto=to
   ·have hpt:p (op,to,a,bb,arg)=true:=by rw[hpx];simp[ht]
    rw[if_pos hpt] at htk
    repeat first|with_reducible refine ab ?_|simp only[hi,hq,h0,h,hcc0,hcc1,hcc2,hcc3,hcc4,hbq,ht,hlim.1,hlim.2.1,hlim.2.2.1,hlim.2.2.2,decide_true,go_sem,simprocAttr]
    refine⟨_,_,_,?_,Wk.mk [2] [] ?_ ?_ ?_,k+1,xs++[(op,to,a,bb,arg)],rfl,by omega,htk.symm,rfl,rfl⟩
    ·omega
    ·simp only[aB,aD,go_sem,simprocAttr]
     repeat' refine aa ?_ ?_
     all_goals first|exact bi|skip
    ·simp only[List.length_append,List.length_cons,List.length_nil,Nat.zero_add]
     subst ht
     refine .cons rfl (.snoc (by simp only[go_sem,simprocAttr]<;>rfl) (by simp) (by rfl) rfl (by decide) (by omega) (λi j hi _=>by unfold cC;rw[aF hi]) (λj hj=>?_) (λi j _ hj=>by rcases cJ hj with rfl|rfl|rfl|rfl|rfl<;>rfl)) .nil
     unfold cC;rw[aG];rcases cJ hj with rfl|rfl|rfl|rfl|rfl<;>rfl
    ·simp
   ·have hpt:p (op,to,a,bb,arg)=false:=by rw[hpx];simp[ht]
    rw[if_neg (by simp[hpt]),List.append_nil] at htk
    repeat first|with_reducible refine ab ?_|simp only[hi,hq,h0,h,hcc1,hbq,ht,decide_true,decide_false,go_sem,simprocAttr]
    refine⟨_,_,_,?_,Wk.mk [0] [] ?_ ?_ ?_,k+1,xs,rfl,by omega,htk.symm,rfl,rfl⟩
    ·omega
    ·simp only[aB,aD,go_sem,simprocAttr]
     repeat' refine aa ?_ ?_
     all_goals first|exact bi|skip
    ·exact(.cons rfl (.k5) .nil)
    ·simp
  ·have hpt:p (op,to,a,bb,arg)=false:=by rw[hpx];simp[hi]
   rw[if_neg (by simp[hpt]),List.append_nil] at htk
   repeat first|with_reducible refine ab ?_|simp only[hi,decide_false,go_sem,simprocAttr]
   refine⟨_,_,_,?_,Wk.mk [0] [] ?_ ?_ ?_,k+1,xs,rfl,by omega,htk.symm,rfl,rfl⟩
   ·omega
   ·simp only[aB,aD,go_sem,simprocAttr]
    repeat' refine aa ?_ ?_
    all_goals first|exact bi|skip
   ·exact(.cons rfl (.k5) .nil)
   ·simp
 ·have:k=l.length:=by omega
  subst this
  rw[List.take_length] at hs
  rw[<-hs]
  repeat first|with_reducible refine ab ?_|simp only[go_sem,simprocAttr]
  refine⟨[_],rfl,.o (x:=_) (by simp only[go_sem,simprocAttr];rfl) (by rfl) (by rfl) (by rfl) (by decide) (Nat.le_refl _) (Nat.le_refl _) (λi j _ hj=>aH i j hj) (λi j _ hj=>bh i hj) rfl .nil⟩
def kh(l:List In)(i:Nat):Bool:=l.any λx=>decide (x.1=4)&&decide (x.2.2.2.2=(i:Int))
theorem iR(na:Nat)(ra:Nat->Nat->AV)(regs par:Int)(cs:List In)(lo hi:Nat)(hlo:lo<=hi)(hhi:hi<=cs.length)(hcs:cs.length<1000000)(hr:na<1000000)(hin:∀x ∈ cs,x.1=4->0<=x.2.2.2.2/\x.2.2.2.2<na):
  a7 Tryz.prog 43 [ae na ra regs par cs,.n .i64 lo,.n .i64 hi] [.o 4 1 na 0 (bF (kh ((cs.take hi).drop lo)))]:=by
 have hl1:na<1099511627776:=by omega
 have hl2:na<=140737488355328:=by omega
 have hl3:(0:Int)<=(na:Int):=by omega
 have hl4:(na:Int)<=16777216:=by omega
 have hl5:1*na<=140737488355328:=by omega
 refine af ay KB ⟨by simp,by decide⟩ ?_
 simp only[aZ,ae]
 repeat first|with_reducible refine ab ?_|simp only[hl1,hl2,hl3,hl4,hl5,Int.le_refl,decide_true,go_sem,simprocAttr]
 refine GA.loop (I:=λmm e H=>∃(k:Nat),mm=hi-k/\lo<=k/\k<=hi/\e=au [(2,.n .i64 hi),(3,.p 0 0),(7,.os 1 na),(8,.n .i64 k)]/\H=ao [am 4 1 na 0 (bF (kh ((cs.take k).drop lo))),aq 0 25 [.fs 2 na ra,.n .i64 regs,.n .i64 par,.fs 5 cs.length (cC cs)]]) (Wk.mk [1,0] [] ?_ ?_ ?_) ⟨lo,rfl,Nat.le_refl _,hlo,rfl,rfl⟩ ?_
 ·simp only[aB,aD,go_sem,simprocAttr]
  repeat' refine aa ?_ ?_
  all_goals first|exact bi|skip
 ·refine .cons rfl (.same (by simp only[go_sem,simprocAttr]<;>rfl) rfl (by decide) (λi j h hj=>?_) (λi j h hj=>rfl)) (.cons rfl (.ls) .nil)
  have:((cs.take lo).drop lo)=[]:=by rw[List.drop_eq_nil_iff];simp;omega
  rw[this]
  obtain rfl:j=0:=by omega
  rfl
 ·simp
 rintro mm e H ⟨k,rfl,hk1,hk2,rfl,rfl⟩
 repeat first|with_reducible refine ab ?_|simp only[go_sem,simprocAttr]
 refine⟨λh=>?_,λh=>?_⟩
 ·have hkk:k<hi:=by omega
  have hkl:(k:Int)<(cs.length:Int):=by omega
  have h0:(0:Int)<=(k:Int):=by omega
  have hm:cs.getD k (0,0,0,0,0) ∈ cs:=by rw[List.getD_eq_getElem?_getD,List.getElem?_eq_getElem (by omega)];exact List.getElem_mem _
  have hx:=hin _ hm
  have hw:(cs.take (k+1)).drop lo=(cs.take k).drop lo++[cs.getD k (0,0,0,0,0)]:=by
   rw[c9 (d:=(0,0,0,0,0)) (by omega),List.drop_append_of_le_length (by rw[List.length_take];omega)]
  have hcc0:=gG cs k
  have hcc4:=lu cs k
  generalize cs.getD k (0,0,0,0,0)=x at hx hw hcc0 hcc4
  obtain⟨op,to,a,b,arg⟩:=x
  simp only at hcc0 hcc4 hx
  have hwr:∀i,kh ((cs.take (k+1)).drop lo) i=(kh ((cs.take k).drop lo) i||(decide (op=4)&&decide (arg=(i:Int)))):=λi=>by
   rw[hw];unfold kh;rw[List.any_append];simp
  by_cases h1:op=4
  ·subst h1
   obtain⟨q,rfl⟩:∃q:Nat,arg=(q:Int):=⟨arg.toNat,by have:=hx rfl;omega⟩
   have hq0:(0:Int)<=(q:Int):=by omega
   have hq1:(q:Int)<(na:Int):=(hx rfl).2
   have hq2:q<na:=by omega
   have hq3:q+1<=na:=hq2
   repeat first|with_reducible refine ab ?_|simp only[h0,hkl,hcc0,hcc4,hq0,hq1,hq2,hq3,decide_true,go_sem,simprocAttr]
   refine⟨_,_,_,?_,Wk.mk [1,0] [] ?_ ?_ ?_,k+1,rfl,by omega,by omega,rfl,rfl⟩
   ·omega
   ·simp only[aB,aD,go_sem,simprocAttr]
    repeat' refine aa ?_ ?_
    all_goals first|exact bi|skip
   ·refine .cons rfl (.put (q:=q) (by simp only[go_sem,simprocAttr];rfl) (by simp) rfl hq2 rfl (by decide) (by omega) (λi j h hj=>?_) (λi j h hj=>rfl)) (.cons rfl (.ls) .nil)
    obtain rfl:j=0:=by omega
    simp only[bF]
    rw[hwr]
    by_cases hqi:i=q
    ·subst hqi;rw[if_pos rfl];simp
    ·rw[if_neg hqi,decide_eq_false (show ¬(q:Int)=(i:Int) by omega)];simp
   ·simp
  ·repeat first|with_reducible refine ab ?_|simp only[h0,hkl,hcc0,hcc4,h1,decide_false,go_sem,simprocAttr]
   refine⟨_,_,_,?_,Wk.mk [1,0] [] ?_ ?_ ?_,k+1,rfl,by omega,by omega,rfl,rfl⟩
   ·omega
   ·simp only[aB,aD,go_sem,simprocAttr]
    repeat' refine aa ?_ ?_
    all_goals first|exact bi|skip
   ·refine .cons rfl (.same (by simp only[go_sem,simprocAttr]<;>rfl) rfl (by decide) (λi j h hj=>?_) (λi j h hj=>rfl)) (.cons rfl (.ls) .nil)
    simp only[bF]
    rw[hwr,decide_eq_false h1];simp
   ·simp
 ·have:k=hi:=by omega
  subst this
  repeat first|with_reducible refine ab ?_|simp only[go_sem,simprocAttr]
  refine⟨[_],rfl,.o (x:=_) (by simp only[go_sem,simprocAttr];rfl) (by rfl) (by rfl) (by rfl) (by decide) (Nat.le_refl _) (Nat.le_refl _) (λi j _ hj=>aH i j hj) (λi j _ _=>rfl) rfl .nil⟩
def lS(na:Nat)(ra:Nat->Nat->AV)(regs:Nat)(par:Int)(Good:List In->Prop)(g:FuncId)(p:List In->List In):Prop:=
 ∀c,Good c->a7 Tryz.prog g [ae na ra regs par c] [.v (ae na ra regs par (p c)),.v (.n .i64 0)]/\Good (p c)
theorem wC{na:Nat}{ra:Nat->Nat->AV}{regs:Nat}{par:Int}{cs:List In}{xc:AV}{Good:List In->Prop}{p1 p2 p3 p4:List In->List In}(hna:na<1000000)(hra:∀i j,i<na->j<2->(ra i j).cell=true)(hcs:cs.length<1000000)
  (hck:a7 Tryz.prog 26 [ae na ra regs par cs] [.v xc,.v (.n .i64 0)])
  (hsame:∀c d,Good c->Good d->a7 Tryz.prog 12 [ae na ra regs par c,ae na ra regs par d] [.v (.b (decide (c=d)))])
  (h1:lS na ra regs par Good 11 p1) (h2:lS na ra regs par Good 14 p2) (h3:lS na ra regs par Good 16 p3) (h4:lS na ra regs par Good 18 p4) (hg:Good cs):
  a7 Tryz.prog 20 [ae na ra regs par cs] [.v (ae na ra regs par (gj (λc=>p4 (p3 (p2 (p1 c)))) 8 cs)),.v (.n .i64 0)]:=by
 have hcp:=gg (na:=na) (ra:=ra) (regs:=regs) (par:=par) (cs:=cs) hna hra hcs
 generalize hR:gj (λc=>p4 (p3 (p2 (p1 c)))) 8 cs=R
 refine af ay Ap ⟨by simp,by decide⟩ ?_
 simp only[aZ,ae] at hck hcp ⊢
 repeat first|with_reducible refine ab ?_|simp only[go_sem,simprocAttr]
 refine cV hck ?_
 repeat first|with_reducible refine ab ?_|simp only[decide_true,go_sem,simprocAttr]
 refine cV hcp ?_
 repeat first|with_reducible refine ab ?_|simp only[go_sem,simprocAttr]
 refine GA.loop (I:=λmm e H=>∃(f:Nat) (k:Nat) (c:List In),mm=f/\k+f=8/\Good c/\gj (λc=>p4 (p3 (p2 (p1 c)))) f c=R/\e=au [(1,.p 0 0),(2,.p 1 0),(3,.n .i64 0),(6,.n .i64 k)]/\H=ao [aq 0 25 [.sl0,.n .i64 0,.n .i64 0,.sl0],aq 0 25 [.fs 2 na ra,.n .i64 regs,.n .i64 par,.fs 5 c.length (cC c)]]) (Wk.mk [1,0] [2,3] ?_ ?_ ?_) ⟨8,0,cs,rfl,rfl,hg,hR,rfl,rfl⟩ ?_
 ·simp only[aB,aD,go_sem,simprocAttr]
  repeat' refine aa ?_ ?_
  all_goals first|exact dn|skip
 ·exact .cons rfl (.ls) (.cons rfl (.lstw (x:=_) (by simp only[go_sem,simprocAttr]<;>rfl) (by rfl) (by rfl) (by rfl) (by rfl) (by rfl) (by rfl) (by simp) (λi hi=>by rcases Iv hi with rfl|rfl|rfl|rfl<;>(simp only[go_sem,simprocAttr];first|exact Wv.same rfl|exact Wv.cv (Cv.own (ty:=93) (z:=0) (by simp) (by simp only[go_sem,simprocAttr]) hra)|exact Wv.cv (Cv.own (ty:=37) (z:=0) (by simp) (by simp only[go_sem,simprocAttr]) (λi j _ hj=>bh i hj))))) .nil)
 ·simp
 rintro mm e H ⟨f,k,c,rfl,hkf,hc,hr,rfl,rfl⟩
 repeat first|with_reducible refine ab ?_|simp only[go_sem,simprocAttr]
 refine⟨λh=>?_,λh=>?_⟩
 rotate_left
 ·have hf0:mm=0:=by omega
  subst hf0
  rw[gj] at hr
  subst hr
  repeat first|with_reducible refine ab ?_|simp only[go_sem,simprocAttr]
  exact bB (.v rfl rfl (.v rfl rfl .nil))
 obtain⟨f,rfl⟩:∃f,mm=f+1:=⟨mm-1,by omega⟩
 rw[gj] at hr
 obtain⟨c1,g1⟩:=h1 c hc
 obtain⟨c2,g2⟩:=h2 _ g1
 obtain⟨c3,g3⟩:=h3 _ g2
 obtain⟨c4,g4⟩:=h4 _ g3
 have hsm:=hsame c _ hc g4
 generalize p4 (p3 (p2 (p1 c)))=d4 at hr c4 g4 hsm
 generalize p3 (p2 (p1 c))=d3 at c3 c4
 generalize p2 (p1 c)=d2 at c2 c3
 generalize p1 c=d1 at c1 c2
 simp only[ae] at c1 c2 c3 c4 hsm
 repeat first|with_reducible refine ab ?_|simp only[go_sem,simprocAttr]
 refine cV c1 ?_
 repeat first|with_reducible refine ab ?_|simp only[go_sem,simprocAttr]
 refine cV c2 ?_
 repeat first|with_reducible refine ab ?_|simp only[go_sem,simprocAttr]
 refine cV c3 ?_
 repeat first|with_reducible refine ab ?_|simp only[go_sem,simprocAttr]
 refine cV c4 ?_
 repeat first|with_reducible refine ab ?_|simp only[go_sem,simprocAttr]
 refine fm hsm ?_
 by_cases hcd:c=d4
 ·rw[if_pos (pk.2 hcd)] at hr
  subst hr
  repeat first|with_reducible refine ab ?_|simp only[hcd,decide_true,go_sem,simprocAttr]
  exact bB (.v rfl rfl (.v rfl rfl .nil))
 ·rw[if_neg (λh=>hcd (pk.1 h))] at hr
  repeat first|with_reducible refine ab ?_|simp only[hcd,decide_false,go_sem,simprocAttr]
  refine⟨_,_,_,?_,Wk.mk [1,0] [] ?_ ?_ ?_,f,k+1,d4,rfl,by omega,g4,hr,rfl,rfl⟩
  ·omega
  ·simp only[aB,aD,go_sem,simprocAttr]
   repeat' refine aa ?_ ?_
   all_goals first|exact dn|skip
  ·exact .cons rfl (.ls) (.cons rfl (.lstw (x:=_) (by simp only[go_sem,simprocAttr]<;>rfl) (by rfl) (by rfl) (by rfl) (by rfl) (by rfl) (by rfl) (by simp) (λi hi=>by rcases Iv hi with rfl|rfl|rfl|rfl<;>(simp only[go_sem,simprocAttr];exact Wv.same rfl))) .nil)
  ·simp
end Go.Proofs.YtidhfimbnjaceaaGreat