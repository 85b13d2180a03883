/- A part of the proof of OptimizerShares: FrA CkA PrA FsA FwS FsB FwK FoL AcH FsC. No condition. -/
import Derived.Test.YtidhfimbnjaceaaGreatGh12
import Derived.Test.YtidhfimbnjaceaaGreatGh10
import Derived.Test.YtidhfimbnjaceaaGreatGh11
import Derived.Test.YtidhfimbnjaceaaGreatGh03
import Derived.Test.YtidhfimbnjaceaaGreatProg
set_option linter.unusedSimpArgs false
set_option linter.unusedVariables false
set_option linter.constructorNameAsVariable false
set_option maxRecDepth 100000
set_option maxHeartbeats 4000000
namespace Go.Proofs.YtidhfimbnjaceaaGreat
open Go.RowKit
def bF (f:Nat->Bool) (i _j:Nat):AV:= .b (f i)
theorem qD {na:Nat} {ra:Nat->Nat->AV} {regs par:Int} {cs:List In} (hna:na<1000000) (hra:∀i j,i<na->j<2->(ra i j).cell=true) (hcs:cs.length<1000000):
  a7 Tryz.prog 28 [ag na ra regs par cs] [.a [.o 93 2 na 0 ra,.v (.n .i64 regs),.v (.n .i64 par),.o 37 5 cs.length 0 (cC cs)]]:=by
 refine ah aa H5 ⟨by simp,by decide⟩ ?_
 simp only[aW,ag]
 have hl:na*2<1099511627776/\na*16<=140737488355328/\na<=9223372036854775807:=by omega
 have hm:cs.length*5<1099511627776/\cs.length*40<=140737488355328/\cs.length<=9223372036854775807:=by omega
 repeat (first|(with_reducible refine GA.go aa rfl ?_)|simp only[hl.1,hl.2.1,hl.2.2,hm.1,hm.2.1,hm.2.2,decide_true,go_sem,simprocAttr])
 refine⟨[_],rfl,.a (by simp) (.o (x:=_) (by simp only[go_sem,simprocAttr];rfl) (by rfl) (by rfl) (by rfl) (by rfl) (by decide) (by simp only[go_sem,simprocAttr]<;>omega) (by simp only[go_sem,simprocAttr]<;>omega) (λi j hi hj=>ky hi hj (by omega)) hra (.v rfl rfl (.v rfl rfl (.o (x:=_) (by simp only[go_sem,simprocAttr];rfl) (by rfl) (by rfl) (by rfl) (by rfl) (by decide) (by simp only[go_sem,simprocAttr]<;>omega) (by simp only[go_sem,simprocAttr]<;>omega) (λi j hi hj=>ky hi hj (by omega)) (λi j _ hj=>bj i hj) .nil)))) rfl .nil⟩
theorem v9 {x:AB} {n:Nat} {row:Nat->Nat->AV} {i j:Nat} (hi:i<n) (hj:j<1) (hn:n<2^40):(x.app 0 (.fn n λi=>row (i / 1) (i%1))).get (i*1+j)=row i j:=by
 have:=ky (x:=x) (esz:=1) (row:=row) hi hj (by omega)
 rwa [Nat.mul_one] at this
theorem eS.lstw {r:Nat->Option Nat} {M:List Nat} {H:AH} {b esz ty:Nat} {l:List AV} {x:AB} (hx:H.at b=some x) (h1:x.ty=ty) (h2:x.esz=esz) (h3:x.opn=false) (h4:x.size=l.length) (h5:x.fzn=0) (hM:M.contains b=false) (hl:l.length<1000000) (hg:∀i,i<l.length->Wv r M H (x.get i) (l[i]?.getD .u)):eS r M H b (ax esz ty l):=by
 refine⟨x,hx,h1.symm,h2.symm,h3.symm,rfl,.inl h4.symm,by rw[if_neg (by simpa using hM),h5];exact Nat.zero_le _,λi hi=>?_⟩
 have hi':i<l.length:=hi
 rw[iX esz ty l i hl]
 exact hg i hi'
theorem P7 {i:Nat} (h:i<4):i=0\/i=1\/i=2\/i=3:=by omega
theorem P8 {i:Nat} (h:i<2):i=0\/i=1:=by omega
theorem eS.w4 {r:Nat->Option Nat} {M:List Nat} {H:AH} {b esz ty:Nat} {l:List AV} {x:AB} (hx:H.at b=some x:=by simp only[go_sem,simprocAttr]<;>rfl) (h1:x.ty=ty:=by rfl) (h2:x.esz=esz:=by rfl) (h3:x.opn=false:=by rfl) (h4:x.size=l.length:=by rfl) (h5:x.fzn=0:=by rfl) (hM:M.contains b=false:=by rfl) (hl:l.length<1000000:=by simp)
  (hg:∀i,i<l.length->Wv r M H (x.get i) (l[i]?.getD .u):=by intro i hi;rcases(show i=0\/i=1\/i=2\/i=3 from P7 hi) with rfl|rfl|rfl|rfl<;>(simp only[go_sem,simprocAttr];first|exact Wv.same rfl|exact Wv.os rfl)):eS r M H b (ax esz ty l):= .lstw hx h1 h2 h3 h4 h5 hM hl hg
theorem eS.w2 {r:Nat->Option Nat} {M:List Nat} {H:AH} {b esz ty:Nat} {l:List AV} {x:AB} (hx:H.at b=some x:=by simp only[go_sem,simprocAttr]<;>rfl) (h1:x.ty=ty:=by rfl) (h2:x.esz=esz:=by rfl) (h3:x.opn=false:=by rfl) (h4:x.size=l.length:=by rfl) (h5:x.fzn=0:=by rfl) (hM:M.contains b=false:=by rfl) (hl:l.length<1000000:=by simp)
  (hg:∀i,i<l.length->Wv r M H (x.get i) (l[i]?.getD .u):=by intro i hi;rcases(show i=0\/i=1 from P8 hi) with rfl|rfl<;>(simp only[go_sem,simprocAttr];exact Wv.os rfl)):eS r M H b (ax esz ty l):= .lstw hx h1 h2 h3 h4 h5 hM hl hg
theorem Nd {i:Nat} (h:i<2):i=0\/i=1:=by omega
theorem VR.n_val {σ:Sg} {k:IntKind} {x:Int} {v:Value} (h:VR σ (.n k x) v):v= .int k x:=by cases h;rfl
theorem VR.b_val {σ:Sg} {x:Bool} {v:Value} (h:VR σ (.b x) v):v= .bool x:=by cases h;rfl
theorem tz {φ:Fz} {w:World} (hφ:th φ w) {esz n:Nat} {row:Nat->Nat->AV} {v:Value} (h:VR (Sg.data φ) (.fs esz n row) v) (f:Nat->Nat->Value) (hf:∀i j,i<n->j<esz->∀(σ:Sg) u,VR σ (row i j) u->u=f i j):
  ∃a cap,v= .slice a n cap/\ee w.heap.size w esz a n f:=by
 cases h with
 |fs0 esz row a cap=>exact⟨a,cap,rfl,λi hi=>by omega⟩
 |@fs _ _ _ _ c off cs hz hb h1 h cap hcap=>
  refine⟨_,cap,rfl,λi hi=>?_⟩
  obtain⟨cs',t,fr,e1,e2⟩:=hφ c cs hz
  have hc:c<w.heap.size:=(Array.getElem?_eq_some_iff.1 e1).1
  refine⟨c,off,rfl,hc,λj hj=>?_⟩
  have hlt:=gr hi hj
  have h2:=hf i j hi hj _ _ (h i j hi hj)
  have h3:=e2.2 (off+i*esz+j) (by omega)
  have h4:off+i*esz+j<cs.size:=by omega
  rw[Array.getElem?_eq_getElem h4] at h3
  simp only[World.cell?,e1,h3]
  rw[<-h2,Array.getD,dif_pos h4]
  rfl
def cN (x:In):RI:=⟨x.1,x.2.1,x.2.2.1,x.2.2.2.1,x.2.2.2.2⟩
def jK (x:Bool×Int):Ar:=⟨x.1,x.2⟩
theorem nI {α β:Type} (g:α->β) (l:List α) (i:Nat) (d:α) (d':β) (h:i<l.length):(l.map g).getD i d'=g (l.getD i d):=by
 simp[List.getD_eq_getElem?_getD,List.getElem?_map,List.getElem?_eq_getElem h]
theorem tQ {φ:Fz} {w:World} (hφ:th φ w) {cs:List In} {v:Value} (h:VR (Sg.data φ) (.fs 5 cs.length (cC cs)) v):∃a cap,v= .slice a (cs.map cN).length cap/\ee w.heap.size w 5 a (cs.map cN).length λi j=>((cs.map cN).getD i default).cell j:=by
 rw[List.length_map]
 refine tz hφ h _ (λi j hi hj σ u hu=>?_)
 rw[nI cN cs i (0,0,0,0,0) default hi]
 unfold cC at hu
 generalize cs.getD i (0,0,0,0,0)=x at hu
 rcases bZ hj with rfl|rfl|rfl|rfl|rfl<;>exact hu.n_val
theorem CV {φ:Fz} {w:World} (hφ:th φ w) {l:List (Bool×Int)} {v:Value} (h:VR (Sg.data φ) (.fs 2 l.length (aC l)) v):∃a cap,v= .slice a (l.map jK).length cap/\ee w.heap.size w 2 a (l.map jK).length λi j=>((l.map jK).getD i default).cell j:=by
 rw[List.length_map]
 refine tz hφ h _ (λi j hi hj σ u hu=>?_)
 rw[nI jK l i (false,0) default hi]
 unfold aC at hu
 generalize l.getD i (false,0)=x at hu
 have hj2:j=0\/j=1:=by omega
 rcases hj2 with rfl|rfl
 ·exact hu.b_val
 ·exact hu.n_val
theorem nU {φ:Fz} {w:World} (hφ:th φ w) {l:List (Bool×Int)} {regs par:Int} {cs:List In} {args':Array Value} (ha:bU (Sg.data φ) [ag l.length (aC l) regs par cs] args'.toList):
  ∃a1 c1 a2 c2,args'= #[.agg #[.slice a1 (l.map jK).length c1,.int .i64 regs,.int .i64 par,.slice a2 (cs.map cN).length c2]]/\(ee w.heap.size w 2 a1 (l.map jK).length λi j=>((l.map jK).getD i default).cell j)/\ee w.heap.size w 5 a2 (cs.map cN).length λi j=>((cs.map cN).getD i default).cell j:=by
 have hn:args'.toList.length=1:=ha.1.symm
 match hl:args'.toList,hn with
 |[u],_=>
  rw[hl] at ha
  have hu:=ha.2 0 _ rfl
  simp only[List.getD_cons_zero] at hu
  have hargs:args'= #[u]:=by apply Array.toList_inj.1;rw[hl]
  unfold ag at hu
  cases hu with
  |@agg _ _ cs' hlen h=>
   have h0:=h 0 _ rfl
   have h1:=(h 1 _ rfl).n_val
   have h2:=(h 2 _ rfl).n_val
   have h3:=h 3 _ rfl
   obtain⟨a1,c1,e1,r1⟩:=CV hφ h0
   obtain⟨a2,c2,e2,r2⟩:=tQ hφ h3
   refine⟨a1,c1,a2,c2,?_,r1,r2⟩
   rw[hargs]
   have hsz:cs'.size=4:=hlen.symm
   congr 2
   have ht:cs'= #[cs'.getD 0 undef,cs'.getD 1 undef,cs'.getD 2 undef,cs'.getD 3 undef]:=by
    apply Array.ext
    ·simp[hsz]
    ·intro i hi1 hi2
     have hi:i=0\/i=1\/i=2\/i=3:=by omega
     rcases hi with rfl|rfl|rfl|rfl<;>simp[Array.getD,hsz]
   rw[ht,e1,h1,h2,e2]
theorem nG {P:Program} {f:FuncId} {args:List AV} {j1 j2:IntKind} {x y:Int} (hf:wa P f) (h:∀φ w args',th φ w->bU (Sg.data φ) args args'.toList->Calls P f args' w λe w'=>e= .returned (.tuple #[.int j1 x,.int j2 y])/\Below w.heap.size w w'):
  a7 P f args [.v (.n j1 x),.v (.n j2 y)]:=by
 refine⟨hf,λφ w args' hφ ha=>(h φ w args' hφ ha).mono λe w' hq=>?_⟩
 obtain⟨rfl,hbel⟩:=hq
 exact⟨.tup [.n j1 x,.n j2 y],⟨.nil,0,2^40⟩,Sg.data φ,⟨[.n j1 x,.n j2 y],rfl,⟨rfl,rfl⟩,⟨rfl,rfl⟩,trivial⟩,bU.tup (cs:=[.int j1 x,.int j2 y]) (.cons (.n _ _) (.cons (.n _ _) .nil)),HR.after hφ hbel,hbel,λc _=>rfl⟩
theorem pe {n:Nat} {row:Nat->Nat->AV} (hn:n<1000000) (hc:∀i j,i<n->j<1->(row i j).cell=true):
  a7 Tryz.prog 101 [.fs 1 n row] [.o 4 1 n 0 row]:=by
 refine ah aa G3 ⟨by simp,by decide⟩ ?_
 simp only[aW]
 have hl1:n<1099511627776:=by omega
 have hl2:n<=140737488355328:=by omega
 have hl3:n<=9223372036854775807:=by omega
 repeat (first|(with_reducible refine GA.go aa rfl ?_)|simp only[go_sem,simprocAttr])
 intro t ht
 cases t
 ·repeat (first|(with_reducible refine GA.go aa rfl ?_)|simp only[hl1,hl2,hl3,decide_true,go_sem,simprocAttr])
  refine⟨[_],rfl,.o (x:=_) (by simp only[go_sem,simprocAttr];rfl) (by rfl) (by rfl) (by rfl) (by decide) (by simp only[go_sem,simprocAttr]<;>omega) (Nat.le_refl _) (λi j hi hj=>v9 hi hj (by omega)) hc rfl .nil⟩
 ·obtain rfl:=ht rfl
  repeat (first|(with_reducible refine GA.go aa rfl ?_)|simp only[go_sem,simprocAttr])
  exact⟨[_],rfl,.o0 rfl .nil⟩
def we (n:Nat) (f g:Nat->Bool):Bool:=(List.range n).all λr=>f r==g r
theorem qb {n:Nat} {f g:Nat->Bool}:we n f g=true↔∀r,r<n->f r=g r:=by
 unfold we
 simp[List.all_eq_true,List.mem_range]
theorem o7 {n:Nat} (f g:Nat->Bool) (hn:n<1000000):a7 Tryz.prog 103 [.fs 1 n (bF f),.fs 1 n (bF g)] [.v (.b (we n f g))]:=by
 refine ah aa GH ⟨by simp,by decide⟩ ?_
 simp only[aW]
 repeat (first|(with_reducible refine GA.go aa rfl ?_)|simp only[decide_true,go_sem,simprocAttr])
 refine GA.loop (I:=λmm e H=>∃k:Nat,mm=n-k/\k<=n/\(∀r,r<k->f r=g r)/\e=aI [(0,.fs 1 n (bF f)),(1,.fs 1 n (bF g)),(12,.n .i64 n),(13,.n .i64 k)]/\H=am []) (Wk.mk [] [] ?_ ?_ ?_) ⟨0,rfl,by omega,λr h=>by omega,rfl,rfl⟩ ?_
 ·simp only[aP,aR,go_sem,simprocAttr]
  repeat' refine ae ?_ ?_
  all_goals first|exact bB|skip
 ·trivial
 ·simp
 rintro mm e H ⟨k,rfl,hk,hs,rfl,rfl⟩
 repeat (first|(with_reducible refine GA.go aa rfl ?_)|simp only[go_sem,simprocAttr])
 refine⟨λh=>?_,λh=>?_⟩
 ·have hkn:k<n:=by omega
  have h0:(0:Int)<=(k:Int):=by omega
  have e1:bF f k 0= .b (f k):=rfl
  have e2:bF g k 0= .b (g k):=rfl
  by_cases hfg:f k=g k
  ·have hd:(f k==g k)=true:=by simp[hfg]
   repeat (first|(with_reducible refine GA.go aa rfl ?_)|simp only[h0,h,e1,e2,mT,hd,go_sem,simprocAttr])
   refine⟨_,_,_,?_,Wk.mk [] [] ?_ ?_ ?_,k+1,rfl,by omega,λr hr=>?_,rfl,rfl⟩
   ·omega
   ·simp only[aP,aR,go_sem,simprocAttr]
    repeat' refine ae ?_ ?_
    all_goals first|exact bB|skip
   ·trivial
   ·simp
   ·by_cases e:r=k
    ·rw[e];exact hfg
    ·exact hs r (by omega)
  ·have hd:(f k==g k)=false:=by simpa using hfg
   have hne:we n f g=false:=by
    cases he:we n f g
    ·rfl
    ·exact absurd (qb.1 he k hkn) hfg
   repeat (first|(with_reducible refine GA.go aa rfl ?_)|simp only[h0,h,e1,e2,mT,hd,go_sem,simprocAttr])
   exact ai (by rw[hne]) rfl
 ·repeat (first|(with_reducible refine GA.go aa rfl ?_)|simp only[go_sem,simprocAttr])
  have he:we n f g=true:=qb.2 λr hr=>hs r (by omega)
  exact ai (by rw[he]) rfl
def i7 (cs:List In) (pt:List Int) (i:Nat):List Int:=
 if(cs.getD i (0,0,0,0,0)).1=28 then[pt.getD i 0+1]
 else if(cs.getD i (0,0,0,0,0)).1=27\/(cs.getD i (0,0,0,0,0)).1=29\/(cs.getD i (0,0,0,0,0)).1=30\/((cs.getD i (0,0,0,0,0)).1=31/\(cs.getD (pt.getD i 0).toNat (0,0,0,0,0)).1=29) then[(i:Int)+1,pt.getD i 0+1]
 else[(i:Int)+1]
theorem lm (cs:List In) (pt:List Int) (i:Nat) (hi:i<cs.length) (hip:i<pt.length) (hcs:cs.length<1000000) (hp: -1<=pt.getD i 0/\pt.getD i 0<cs.length) (hp31:(cs.getD i (0,0,0,0,0)).1=31->0<=pt.getD i 0):
  a7 Tryz.prog 102 [.fs 5 cs.length (cC cs),.fs 1 pt.length (iC .i64 pt),.n .i64 i] [.v (.fs 1 (i7 cs pt i).length (iC .i64 (i7 cs pt i)))]:=by
 have h0:(0:Int)<=(i:Int):=by omega
 have h1:(i:Int)<(cs.length:Int):=by omega
 have h2:(i:Int)<(pt.length:Int):=by omega
 have hc:=iu cs i
 have hpt:iC .i64 pt i 0= .n .i64 (pt.getD i 0):=rfl
 have hw1:IntKind.wrap .i64 ((i:Int)+1)=(i:Int)+1:=cG (by omega)
 have hw2:IntKind.wrap .i64 (pt.getD i 0+1)=pt.getD i 0+1:=cG (by omega)
 unfold i7
 generalize hop:(cs.getD i (0,0,0,0,0)).1=op at hc hp31 ⊢
 generalize hpp:pt.getD i 0=p at hpt hp hp31 hw2 ⊢
 refine ah aa GV ⟨by simp,by decide⟩ ?_
 simp only[aW]
 by_cases d28:op=28
 ·subst d28
  rw[if_pos rfl]
  (try simp only[h0,h1,h2,hc,hpt,decide_true,go_sem,simprocAttr])
  iterate 11 (with_reducible refine GA.go aa rfl ?_;try simp only[h0,h1,h2,hc,hpt,decide_true,go_sem,simprocAttr])
  refine GA.cut (aI [(6,.fs 1 1 (iC .i64 [p+1]))]) (am []) ?_ ?_
  ·refine GA.reg ?_
   simp only[hw1,hw2,go_sem,simprocAttr]
   refine Wk.mk [] [0] ?_ ?_ ?_
   ·simp only[aP,go_sem,simprocAttr]
    refine Wv.cv (Cv.sl (x:=_) (by simp) (by simp only[go_sem,simprocAttr];rfl) (by simp) (by simp) (by simp) (λi j hi hj=>?_) (λi j _ _=>rfl))
    cases Nat.lt_one_iff.1 hj
    rcases Nat.lt_one_iff.1 hi with rfl<;>simp only[go_sem,simprocAttr]<;>rfl
   ·trivial
   ·simp
  ·repeat (first|(with_reducible refine GA.go aa rfl ?_)|simp only[go_sem,simprocAttr])
   exact ai rfl rfl
 rw[if_neg d28]
 by_cases d27:op=27
 ·subst d27
  rw[if_pos (.inl rfl)]
  (try simp only[h0,h1,h2,hc,hpt,d28,decide_true,decide_false,go_sem,simprocAttr])
  iterate 14 (with_reducible refine GA.go aa rfl ?_;try simp only[h0,h1,h2,hc,hpt,d28,decide_true,decide_false,go_sem,simprocAttr])
  refine GA.cut (aI [(6,.fs 1 2 (iC .i64 [(i:Int)+1,p+1]))]) (am []) ?_ ?_
  ·refine GA.reg ?_
   simp only[hw1,hw2,go_sem,simprocAttr]
   refine Wk.mk [] [0] ?_ ?_ ?_
   ·simp only[aP,go_sem,simprocAttr]
    refine Wv.cv (Cv.sl (x:=_) (by simp) (by simp only[go_sem,simprocAttr];rfl) (by simp) (by simp) (by simp) (λi j hi hj=>?_) (λi j _ _=>rfl))
    cases Nat.lt_one_iff.1 hj
    rcases Nd hi with rfl|rfl<;>simp only[go_sem,simprocAttr]<;>rfl
   ·trivial
   ·simp
  ·repeat (first|(with_reducible refine GA.go aa rfl ?_)|simp only[go_sem,simprocAttr])
   exact ai rfl rfl
 by_cases d29:op=29
 ·subst d29
  rw[if_pos (.inr (.inl rfl))]
  (try simp only[h0,h1,h2,hc,hpt,d28,d27,decide_true,decide_false,go_sem,simprocAttr])
  iterate 14 (with_reducible refine GA.go aa rfl ?_;try simp only[h0,h1,h2,hc,hpt,d28,d27,decide_true,decide_false,go_sem,simprocAttr])
  refine GA.cut (aI [(6,.fs 1 2 (iC .i64 [(i:Int)+1,p+1]))]) (am []) ?_ ?_
  ·refine GA.reg ?_
   simp only[hw1,hw2,go_sem,simprocAttr]
   refine Wk.mk [] [0] ?_ ?_ ?_
   ·simp only[aP,go_sem,simprocAttr]
    refine Wv.cv (Cv.sl (x:=_) (by simp) (by simp only[go_sem,simprocAttr];rfl) (by simp) (by simp) (by simp) (λi j hi hj=>?_) (λi j _ _=>rfl))
    cases Nat.lt_one_iff.1 hj
    rcases Nd hi with rfl|rfl<;>simp only[go_sem,simprocAttr]<;>rfl
   ·trivial
   ·simp
  ·repeat (first|(with_reducible refine GA.go aa rfl ?_)|simp only[go_sem,simprocAttr])
   exact ai rfl rfl
 by_cases d30:op=30
 ·subst d30
  rw[if_pos (.inr (.inr (.inl rfl)))]
  (try simp only[h0,h1,h2,hc,hpt,d28,d27,d29,decide_true,decide_false,go_sem,simprocAttr])
  iterate 14 (with_reducible refine GA.go aa rfl ?_;try simp only[h0,h1,h2,hc,hpt,d28,d27,d29,decide_true,decide_false,go_sem,simprocAttr])
  refine GA.cut (aI [(6,.fs 1 2 (iC .i64 [(i:Int)+1,p+1]))]) (am []) ?_ ?_
  ·refine GA.reg ?_
   simp only[hw1,hw2,go_sem,simprocAttr]
   refine Wk.mk [] [0] ?_ ?_ ?_
   ·simp only[aP,go_sem,simprocAttr]
    refine Wv.cv (Cv.sl (x:=_) (by simp) (by simp only[go_sem,simprocAttr];rfl) (by simp) (by simp) (by simp) (λi j hi hj=>?_) (λi j _ _=>rfl))
    cases Nat.lt_one_iff.1 hj
    rcases Nd hi with rfl|rfl<;>simp only[go_sem,simprocAttr]<;>rfl
   ·trivial
   ·simp
  ·repeat (first|(with_reducible refine GA.go aa rfl ?_)|simp only[go_sem,simprocAttr])
   exact ai rfl rfl
 by_cases d31:op=31
 ·subst d31
  have hp0:=hp31 rfl
  obtain⟨q,rfl⟩:∃q:Nat,p=(q:Int):=⟨p.toNat,by omega⟩
  have hq1:(q:Int)<(cs.length:Int):=hp.2
  have hcq:=iu cs q
  rw[Int.toNat_natCast]
  generalize (cs.getD q (0,0,0,0,0)).1=oq at hcq ⊢
  by_cases dq:oq=29
  ·subst dq
   rw[if_pos (.inr (.inr (.inr ⟨rfl,rfl⟩)))]
   (try simp only[h0,h1,h2,hc,hpt,d28,d27,d29,d30,hp0,hq1,hcq,decide_true,decide_false,go_sem,simprocAttr])
   iterate 14 (with_reducible refine GA.go aa rfl ?_;try simp only[h0,h1,h2,hc,hpt,d28,d27,d29,d30,hp0,hq1,hcq,decide_true,decide_false,go_sem,simprocAttr])
   refine GA.cut (aI [(6,.fs 1 2 (iC .i64 [(i:Int)+1,(q:Int)+1]))]) (am []) ?_ ?_
   ·refine GA.reg ?_
    simp only[hw1,hw2,go_sem,simprocAttr]
    refine Wk.mk [] [0] ?_ ?_ ?_
    ·simp only[aP,go_sem,simprocAttr]
     refine Wv.cv (Cv.sl (x:=_) (by simp) (by simp only[go_sem,simprocAttr];rfl) (by simp) (by simp) (by simp) (λi j hi hj=>?_) (λi j _ _=>rfl))
     cases Nat.lt_one_iff.1 hj
     rcases Nd hi with rfl|rfl<;>simp only[go_sem,simprocAttr]<;>rfl
    ·trivial
    ·simp
   ·repeat (first|(with_reducible refine GA.go aa rfl ?_)|simp only[go_sem,simprocAttr])
    exact ai rfl rfl
  ·rw[if_neg (by simp[dq])]
   (try simp only[h0,h1,h2,hc,hpt,d28,d27,d29,d30,hp0,hq1,hcq,dq,decide_true,decide_false,go_sem,simprocAttr])
   iterate 15 (with_reducible refine GA.go aa rfl ?_;try simp only[h0,h1,h2,hc,hpt,d28,d27,d29,d30,hp0,hq1,hcq,dq,decide_true,decide_false,go_sem,simprocAttr])
   refine GA.cut (aI [(6,.fs 1 1 (iC .i64 [(i:Int)+1]))]) (am []) ?_ ?_
   ·refine GA.reg ?_
    simp only[hw1,hw2,go_sem,simprocAttr]
    refine Wk.mk [] [0] ?_ ?_ ?_
    ·simp only[aP,go_sem,simprocAttr]
     refine Wv.cv (Cv.sl (x:=_) (by simp) (by simp only[go_sem,simprocAttr];rfl) (by simp) (by simp) (by simp) (λi j hi hj=>?_) (λi j _ _=>rfl))
     cases Nat.lt_one_iff.1 hj
     rcases Nat.lt_one_iff.1 hi with rfl<;>simp only[go_sem,simprocAttr]<;>rfl
    ·trivial
    ·simp
   ·repeat (first|(with_reducible refine GA.go aa rfl ?_)|simp only[go_sem,simprocAttr])
    exact ai rfl rfl
 ·rw[if_neg (by simp[d27,d29,d30,d31])]
  (try simp only[h0,h1,h2,hc,hpt,d28,d27,d29,d30,d31,decide_true,decide_false,go_sem,simprocAttr])
  iterate 15 (with_reducible refine GA.go aa rfl ?_;try simp only[h0,h1,h2,hc,hpt,d28,d27,d29,d30,d31,decide_true,decide_false,go_sem,simprocAttr])
  refine GA.cut (aI [(6,.fs 1 1 (iC .i64 [(i:Int)+1]))]) (am []) ?_ ?_
  ·refine GA.reg ?_
   simp only[hw1,hw2,go_sem,simprocAttr]
   refine Wk.mk [] [0] ?_ ?_ ?_
   ·simp only[aP,go_sem,simprocAttr]
    refine Wv.cv (Cv.sl (x:=_) (by simp) (by simp only[go_sem,simprocAttr];rfl) (by simp) (by simp) (by simp) (λi j hi hj=>?_) (λi j _ _=>rfl))
    cases Nat.lt_one_iff.1 hj
    rcases Nat.lt_one_iff.1 hi with rfl<;>simp only[go_sem,simprocAttr]<;>rfl
   ·trivial
   ·simp
  ·repeat (first|(with_reducible refine GA.go aa rfl ?_)|simp only[go_sem,simprocAttr])
   exact ai rfl rfl
def MN (cs:List In) (i:Nat):Bool:=decide ((cs.getD (i+1) (0,0,0,0,0)).1=31)&&(decide ((cs.getD i (0,0,0,0,0)).1=27)||decide ((cs.getD i (0,0,0,0,0)).1=29)||decide ((cs.getD i (0,0,0,0,0)).1=28))
def jD (cs:List In):Nat->Nat->Option Nat
 |0,_=>none
 |f+1,k=>if k+1<cs.length then(if MN cs k=true then some k else jD cs f (k+1)) else none
def kr (cs:List In):Option Nat:=jD cs cs.length 0
def vU (o:Option Nat):List RT:=match o with
 |some k=>[.v (.n .i64 k),.v (.b true)]
 |none=>[.v (.n .i64 0),.v (.b false)]
theorem oT (cs:List In) (hcs:cs.length<1000000):a7 Tryz.prog 76 [.fs 5 cs.length (cC cs)] (vU (kr cs)):=by
 refine ah aa Hd ⟨by simp,by decide⟩ ?_
 simp only[aW]
 repeat (first|(with_reducible refine GA.go aa rfl ?_)|simp only[go_sem,simprocAttr])
 refine GA.loop (I:=λmm e H=>∃k f:Nat,mm=cs.length-k/\k<=cs.length/\k+f=cs.length/\kr cs=jD cs f k/\e=aI [(0,.fs 5 cs.length (cC cs)),(4,.n .i64 k)]/\H=am []) (Wk.mk [] [] ?_ ?_ ?_) ⟨0,cs.length,rfl,by omega,by omega,rfl,rfl,rfl⟩ ?_
 ·simp only[aP,aR,go_sem,simprocAttr]
  repeat' refine ae ?_ ?_
  all_goals first|exact bB|skip
 ·trivial
 ·simp
 rintro mm e H ⟨k,f,rfl,hk,hkf,hs,rfl,rfl⟩
 have hw:IntKind.wrap .i64 ((k:Int)+1)=((k+1:Nat):Int):=by rw[cG (by omega)];omega
 repeat (first|(with_reducible refine GA.go aa rfl ?_)|simp only[hw,go_sem,simprocAttr])
 refine⟨λh=>?_,λh=>?_⟩
 ·have hkn:k+1<cs.length:=by omega
  have h0:(0:Int)<=(k:Int):=by omega
  have h0':(0:Int)<=((k+1:Nat):Int):=by omega
  have h1:(k:Int)<(cs.length:Int):=by omega
  have hc:=iu cs k
  have hc':=iu cs (k+1)
  have hB:MN cs k=(decide ((cs.getD (k+1) (0,0,0,0,0)).1=31)&&(decide ((cs.getD k (0,0,0,0,0)).1=27)||decide ((cs.getD k (0,0,0,0,0)).1=29)||decide ((cs.getD k (0,0,0,0,0)).1=28))):=rfl
  obtain⟨f,rfl⟩:∃g,f=g+1:=⟨f-1,by omega⟩
  rw[jD,if_pos hkn] at hs
  generalize (cs.getD k (0,0,0,0,0)).1=op at hc hB
  generalize (cs.getD (k+1) (0,0,0,0,0)).1=op' at hc' hB
  cases d1:decide (op'=31)<;>cases d2:decide (op=27)<;>cases d3:decide (op=29)<;>cases d4:decide (op=28)
  all_goals
   rw[d1,d2,d3,d4] at hB
   simp only[Bool.and_true,Bool.true_and,Bool.false_and,Bool.and_false,Bool.or_true,Bool.true_or,Bool.false_or,Bool.or_false] at hB
   rw[hB] at hs
   repeat (first|(with_reducible refine GA.go aa rfl ?_)|simp only[h0,h0',h,h1,hc,hc',hw,d1,d2,d3,d4,go_sem,simprocAttr])
   first
    |(rw[if_pos rfl] at hs
      rw[hs]
      exact bA (.v rfl rfl (.v rfl rfl .nil)))
    |(rw[if_neg (by simp)] at hs
      refine⟨_,_,_,?_,Wk.mk [] [] ?_ ?_ ?_,k+1,f,rfl,by omega,by omega,hs,rfl,rfl⟩
      ·omega
      ·(simp only[aP,aR,go_sem,simprocAttr];(repeat' refine ae ?_ ?_)<;>first|trivial|exact Wv.same rfl|exact Wv.n (by omega))
      ·trivial
      ·simp)
 ·have hn:jD cs f k=none:=by
   cases f with
   |zero=>rfl
   |succ f=>rw[jD,if_neg (by omega)]
  rw[hn] at hs
  repeat (first|(with_reducible refine GA.go aa rfl ?_)|simp only[go_sem,simprocAttr])
  rw[hs]
  exact bA (.v rfl rfl (.v rfl rfl .nil))
def sC (l:List (Int×Int)) (i j:Nat):AV:=if j=0 then .n .i64 (l.getD i (0,0)).1 else .n .i64 (l.getD i (0,0)).2
theorem Nc (l:List (Int×Int)) (i:Nat):sC l i 0= .n .i64 (l.getD i (0,0)).1:=rfl
theorem Nb (l:List (Int×Int)) (i:Nat):sC l i 1= .n .i64 (l.getD i (0,0)).2:=rfl
def sV (f:Int×Int):AV:= .agg [.n .i64 f.1,.n .i64 f.2]
theorem oQ (l:List (Int×Int)) (f:Int×Int) (hl:l.length<1000000):a7 Tryz.prog 140 [.fs 2 l.length (sC l),sV f] [.v (.n .i64 (cQ (λg=>decide (f.1=g.1)&&decide (f.2=g.2)) l 0))]:=by
 refine ah aa Ic ⟨by simp,by decide⟩ ?_
 simp only[aW,sV]
 repeat (first|(with_reducible refine GA.go aa rfl ?_)|simp only[go_sem,simprocAttr])
 refine GA.loop (I:=λm e H=>∃k:Nat,m=l.length-k/\k<=l.length/\cQ (λg=>decide (f.1=g.1)&&decide (f.2=g.2)) l 0=cQ (λg=>decide (f.1=g.1)&&decide (f.2=g.2)) (l.drop k) k/\e=aI [(0,.fs 2 l.length (sC l)),(3,.p 0 0),(6,.fs 2 l.length (sC l)),(7,.n .i64 l.length),(8,.n .i64 k)]/\H=am [ax 0 102 [.n .i64 f.1,.n .i64 f.2]]) (Wk.mk [0] [] ?_ ?_ ?_) ⟨0,rfl,by omega,rfl,rfl,rfl⟩ ?_
 ·simp only[aP,aR,go_sem,simprocAttr]
  repeat' refine ae ?_ ?_
  all_goals first|exact bB|skip
 ·exact .cons rfl (.ls) .nil
 ·simp
 rintro m e H ⟨k,rfl,hk,hs,rfl,rfl⟩
 repeat (first|(with_reducible refine GA.go aa rfl ?_)|simp only[go_sem,simprocAttr])
 refine⟨λh=>?_,λh=>?_⟩
 ·have hk':k<l.length:=by omega
  have h0:(0:Int)<=(k:Int):=by omega
  rw[bJ (d:=(0,0)) hk',cQ] at hs
  repeat (first|(with_reducible refine GA.go aa rfl ?_)|simp only[h0,h,Nc,Nb,mT,jQ,gw,mL,SH.row,go_sem,simprocAttr])
  refine⟨λh1=>?_,λh1=>?_⟩
  ·repeat (first|(with_reducible refine GA.go aa rfl ?_)|simp only[go_sem,simprocAttr])
   rw[if_pos (by simpa using h1)] at hs
   exact ai (by rw[hs]) rfl
  ·repeat (first|(with_reducible refine GA.go aa rfl ?_)|simp only[go_sem,simprocAttr])
   rw[if_neg (by rw[h1];simp)] at hs
   refine⟨_,_,_,?_,Wk.mk [0] [] ?_ ?_ ?_,k+1,rfl,by omega,hs,rfl,rfl⟩
   ·omega
   ·simp only[aP,aR,go_sem,simprocAttr]
    repeat' refine ae ?_ ?_
    all_goals first|exact bB|skip
   ·exact .cons rfl (.lst (by first|(simp only[go_sem,simprocAttr];done)|(simp only[go_sem,simprocAttr];rfl)|rfl) rfl (by simp) rfl) .nil
   ·simp
 ·repeat (first|(with_reducible refine GA.go aa rfl ?_)|simp only[go_sem,simprocAttr])
  have:k=l.length:=by omega
  subst this
  rw[List.drop_length,cQ] at hs
  exact ai (by rw[hs]) rfl
theorem lq (l:List (Int×Int)) (f:Int×Int) (hl:l.length<1000000):a7 Tryz.prog 115 [.fs 2 l.length (sC l),sV f] [.v (.b (l.any λg=>decide (f.1=g.1)&&decide (f.2=g.2)))]:=by
 refine ah aa Il ⟨by simp,by decide⟩ ?_
 simp only[aW,sV]
 repeat (first|(with_reducible refine GA.go aa rfl ?_)|simp only[go_sem,simprocAttr])
 refine ab [] (.cons (.rfl rfl) (.cons (.rfl rfl) .nil)) (oQ l f hl) (by simp only[go_sem,simprocAttr]) ?_
 repeat (first|(with_reducible refine GA.go aa rfl ?_)|simp only[go_sem,simprocAttr])
 exact ai (by rw[<-dJ _ l 0]) rfl
theorem rG (l m:List (Int×Int)) (hl:l.length<1000000) (hm:m.length<1000000):a7 Tryz.prog 98 [.fs 2 l.length (sC l),.fs 2 m.length (sC m)]
  [.o 102 2 (l.filter λf=>m.any λg=>decide (f.1=g.1)&&decide (f.2=g.2)).length 0 (sC (l.filter λf=>m.any λg=>decide (f.1=g.1)&&decide (f.2=g.2)))]:=by
 refine ah aa IA ⟨by simp,by decide⟩ ?_
 generalize hp:(λf:Int×Int=>m.any λg=>decide (f.1=g.1)&&decide (f.2=g.2))=p
 simp only[aW]
 repeat (first|(with_reducible refine GA.go aa rfl ?_)|simp only[go_sem,simprocAttr])
 refine GA.wk (Wk.nil 5 2 102 (by simp only[go_sem,simprocAttr]) (by decide) (by simp only[go_sem,simprocAttr])) ?_
 simp only[cr]
 refine GA.loop (I:=λmm e H=>∃(k:Nat) (xs:List (Int×Int)),mm=l.length-k/\k<=l.length/\xs=(l.take k).filter p/\e=aI [(1,.fs 2 m.length (sC m)),(8,.fs 2 l.length (sC l)),(9,.n .i64 l.length),(10,.n .i64 k),(5,.os 0 xs.length)]/\H=am [ar 102 2 xs.length 0 (sC xs)]) (Wk.mk [0] [] ?_ ?_ ?_) ⟨0,[],rfl,by omega,rfl,rfl,rfl⟩ ?_
 ·simp only[aP,aR,go_sem,simprocAttr]
  repeat' refine ae ?_ ?_
  all_goals first|exact bB|skip
 ·exact .cons rfl (.rows (by simp only[go_sem,simprocAttr];rfl) rfl rfl rfl (by decide) (by decide) (by decide) (λi j h=>by simp at h) (λi j h=>by simp at h)) .nil
 ·simp
 rintro mm e H ⟨k,xs,rfl,hk,hs,rfl,rfl⟩
 repeat (first|(with_reducible refine GA.go aa rfl ?_)|simp only[go_sem,simprocAttr])
 refine⟨λh=>?_,λh=>?_⟩
 ·have hk':k<l.length:=by omega
  have h0:(0:Int)<=(k:Int):=by omega
  repeat (first|(with_reducible refine GA.go aa rfl ?_)|simp only[h0,h,Nc,Nb,go_sem,simprocAttr])
  have hlt:xs.length<=l.length:=by rw[hs];exact Nat.le_trans (List.length_filter_le _ _) (by rw[List.length_take];exact Nat.min_le_right _ _)
  refine ab [] (.cons (.rfl rfl) (.cons (.rfl rfl) .nil)) (lq m (l.getD k (0,0)) hm) (by simp only[go_sem,simprocAttr]) ?_
  have hpk:(m.any λg=>decide ((l.getD k (0,0)).1=g.1)&&decide ((l.getD k (0,0)).2=g.2))=p (l.getD k (0,0)):=by rw[<-hp]
  rw[hpk]
  have htk:(l.take (k+1)).filter p=xs++(if p (l.getD k (0,0))=true then[l.getD k (0,0)] else[]):=by
   rw[cW (d:=(0,0)) hk',List.filter_append,<-hs]
   simp only[List.filter_cons,List.filter_nil]
  have hlim:(xs.length+1)*2<1099511627776/\(xs.length+1)*16<=140737488355328/\xs.length+1<=9223372036854775807:=by omega
  repeat (first|(with_reducible refine GA.go aa rfl ?_)|simp only[go_sem,simprocAttr])
  refine⟨λh1=>?_,λh1=>?_⟩
  ·rw[if_pos h1] at htk
   repeat (first|(with_reducible refine GA.go aa rfl ?_)|simp only[hlim.1,hlim.2.1,hlim.2.2,decide_true,go_sem,simprocAttr])
   refine⟨_,_,_,?_,Wk.mk [3] [] ?_ ?_ ?_,k+1,xs++[l.getD k (0,0)],rfl,by omega,htk.symm,rfl,rfl⟩
   ·omega
   ·simp only[aP,aR,go_sem,simprocAttr]
    repeat' refine ae ?_ ?_
    all_goals first|exact bB|skip
   ·refine .cons rfl (.rows (x:=_) (by simp only[go_sem,simprocAttr];rfl) (by rfl) (by rfl) (by rfl) ?_ (Nat.le_refl _) (by decide) ?_ (λi j _ hj=>by unfold sC;split<;>rfl)) .nil
    ·simp only[go_sem,simprocAttr];omega
    ·simp only[go_sem,simprocAttr]
     exact dE rfl (by omega) (λi j hi _=>by unfold sC;rw[aK hi]) (λj hj=>by
      have hj2:j=0\/j=1:=by omega
      unfold sC
      rw[aL]
      rcases hj2 with rfl|rfl<;>rfl)
   ·simp
  ·rw[if_neg (by rw[h1];simp),List.append_nil] at htk
   repeat (first|(with_reducible refine GA.go aa rfl ?_)|simp only[go_sem,simprocAttr])
   refine⟨_,_,_,?_,Wk.mk [0] [] ?_ ?_ ?_,k+1,xs,rfl,by omega,htk.symm,rfl,rfl⟩
   ·omega
   ·simp only[aP,aR,go_sem,simprocAttr]
    repeat' refine ae ?_ ?_
    all_goals first|exact bB|skip
   ·exact .cons rfl (.keep (by simp only[go_sem,simprocAttr]) rfl (by decide) (λi j _ hj=>by unfold sC;split<;>rfl)) .nil
   ·simp
 ·repeat (first|(with_reducible refine GA.go aa rfl ?_)|simp only[go_sem,simprocAttr])
  have:k=l.length:=by omega
  subst this
  rw[List.take_length] at hs
  subst hs
  refine⟨[_],rfl,.o (x:=_) (by simp only[go_sem,simprocAttr];rfl) (by rfl) (by rfl) (by rfl) (by decide) (Nat.le_refl _) (Nat.le_refl _) (λi j _ hj=>aX i j hj) (λi j _ _=>by unfold sC;split<;>rfl) rfl .nil⟩
theorem kP (x:In) (f:Int×Int) (g:FuncId) (c1 c2:List AV) (vv:AV) (D:Bool) (hd:a7 Tryz.prog g (c1++[aQ x,sV f]++c2) [.v (.b D)]) (hpu:(c1.all (AV.pu 2)&&c2.all (AV.pu 2))=true):
  a7 Tryz.prog 114 [aQ x,.fp 2 (λj=>[AV.f g c1 c2,vv][j]?.getD .u) 0,.fp 2 (λj=>[AV.n .i64 f.1,AV.n .i64 f.2][j]?.getD .u) 0] [.v (.b D)]:=by
 refine ah aa Iq ⟨by simp,by decide⟩ ?_
 simp only[aW,aQ]
 repeat (first|(with_reducible refine GA.go aa rfl ?_)|simp only[go_sem,simprocAttr])
 refine ab [] (fargs:=c1++[aQ x,sV f]++c2) ?_ hd (by simp only[bG,aO,List.length_nil];decide) ?_
 ·refine gY.same ?_
  simp only[List.all_append,Bool.and_eq_true] at hpu ⊢
  exact⟨⟨bR hpu.1,rfl⟩,bR hpu.2⟩
 repeat (first|(with_reducible refine GA.go aa rfl ?_)|simp only[go_sem,simprocAttr])
 exact ai rfl rfl
theorem fJ (l:List (Int×Int)) (cs:List In) (g:FuncId) (c1 c2:List AV) (vv:AV) (D:In->Int×Int->Bool) (hd:∀x ∈ cs,∀f,a7 Tryz.prog g (c1++[aQ x,sV f]++c2) [.v (.b (D x f))]) (hpu:(c1.all (AV.pu 2)&&c2.all (AV.pu 2))=true) (hvv:vv.cell=true)
  (hl:l.length<1000000) (hcs:cs.length<1000000):
  a7 Tryz.prog 97 [.fs 2 l.length (sC l),.agg [.f g c1 c2,vv],.fs 5 cs.length (cC cs)]
   [.o 102 2 (l.filter λf=> !cs.any λx=>D x f).length 0 (sC (l.filter λf=> !cs.any λx=>D x f))]:=by
 refine ah aa IP ⟨by simp,by decide⟩ ?_
 have hfn:(AV.f g c1 c2).cell=true:=by
  simp only[AV.cell,AV.pu,AV.one,Bool.and_true];exact hpu
 have hvo:vv.one=true:=by simp only[AV.cell,Bool.and_eq_true] at hvv;exact hvv.2
 have hvp:vv.pu 3=true:=by simp only[AV.cell,Bool.and_eq_true] at hvv;exact hvv.1
 have hfp:(AV.f g c1 c2).pu 3=true:=hpu
 generalize hp:(λf:Int×Int=> !cs.any λx=>D x f)=p
 simp only[aW]
 repeat (first|(with_reducible refine GA.go aa rfl ?_)|simp only[hvo,go_sem,simprocAttr])
 refine GA.wk (Wk.nil 7 2 102 (by simp only[go_sem,simprocAttr]) (by decide) (by simp only[bG,aO,List.length_nil];decide)) ?_
 simp only[cr]
 refine GA.loop (I:=λmm e H=>∃(k:Nat) (xs:List (Int×Int)),mm=l.length-k/\k<=l.length/\xs=(l.take k).filter p/\e=aI [(2,.fs 5 cs.length (cC cs)),(4,.p 0 0),(10,.fs 2 l.length (sC l)),(11,.n .i64 l.length),(12,.n .i64 k),(7,.os 1 xs.length)]/\H=am [ar 102 2 xs.length 0 (sC xs),kl 0 108 [.f g c1 c2,vv]]) (Wk.mk [1,0] [] ?_ ?_ ?_) ⟨0,[],rfl,by omega,rfl,rfl,rfl⟩ ?_
 ·simp only[aP,aR,go_sem,simprocAttr]
  repeat' refine ae ?_ ?_
  all_goals first|exact bB|skip
 ·refine .cons rfl (.rows (x:=_) (by simp only[go_sem,simprocAttr];rfl) (by rfl) (by rfl) (by rfl) (by decide) (by decide) (by decide) (λi j h=>by simp at h) (λi j h=>by simp at h)) (.cons rfl (.lstz (x:=_) (by simp only[go_sem,simprocAttr];rfl) (by rfl) (by rfl) (by rfl) (by rfl) (by simp) (by simp) (λi hi=>by simp only[i4,List.length_cons,List.length_nil,Nat.reduceAdd,Nat.reduceLT]) (by simp only[List.all_cons,List.all_nil,hfp,hvp,Bool.and_self])) .nil)
 ·simp
 rintro mm e H ⟨k,xs,rfl,hk,hs,rfl,rfl⟩
 repeat (first|(with_reducible refine GA.go aa rfl ?_)|simp only[go_sem,simprocAttr])
 refine⟨λh=>?_,λh=>?_⟩
 ·have hk':k<l.length:=by omega
  have h0:(0:Int)<=(k:Int):=by omega
  repeat (first|(with_reducible refine GA.go aa rfl ?_)|simp only[h0,h,Nc,Nb,go_sem,simprocAttr])
  have hlt:xs.length<=l.length:=by rw[hs];exact Nat.le_trans (List.length_filter_le _ _) (by rw[List.length_take];exact Nat.min_le_right _ _)
  refine ab [0,2] (fargs:=[.fs 5 cs.length (cC cs),.f 114 [] [.fp 2 (λj=>[AV.f g c1 c2,vv][j]?.getD .u) 0,.fp 2 (λj=>[AV.n .i64 (l.getD k (0,0)).1,AV.n .i64 (l.getD k (0,0)).2][j]?.getD .u) 0]])
   ?_
   (dK cs 114 [] _ (λx=>D x (l.getD k (0,0))) (λx hx=>kP x (l.getD k (0,0)) g c1 c2 vv (D x (l.getD k (0,0))) (hd x hx _) hpu) hcs rfl) (by simp only[go_sem,simprocAttr]) ?_
  ·refine .cons (.rfl rfl) (.cons (.fn .nil (.cons ?_ (.cons ?_ .nil))) .nil)
   ·exact Cv.box (l:=[AV.f g c1 c2,vv]) (b:=0) rfl (x:=_) (by simp only[go_sem,simprocAttr];rfl) (by rfl) (by simp) (λj hj=>by simp only[cT,List.length_cons,List.length_nil,Nat.reduceAdd,Nat.reduceLT]) (by simp only[List.all_cons,List.all_nil,hfn,hvv,Bool.and_self])
   ·refine Cv.box (l:=[AV.n .i64 (l.getD k (0,0)).1,AV.n .i64 (l.getD k (0,0)).2]) (b:=2) rfl (x:=_) (by simp only[go_sem,simprocAttr];rfl) (by rfl) (by simp) (λj hj=>?_) rfl
    have hj2:j=0\/j=1:=by simp at hj;omega
    rcases hj2 with rfl|rfl<;>simp only[go_sem,simprocAttr]
  have hpk:(!cs.any λx=>D x (l.getD k (0,0)))=p (l.getD k (0,0)):=by rw[<-hp]
  have htk:(l.take (k+1)).filter p=xs++(if p (l.getD k (0,0))=true then[l.getD k (0,0)] else[]):=by
   rw[cW (d:=(0,0)) hk',List.filter_append,<-hs]
   simp only[List.filter_cons,List.filter_nil]
  have hlim:(xs.length+1)*2<1099511627776/\(xs.length+1)*16<=140737488355328/\xs.length+1<=9223372036854775807:=by omega
  repeat (first|(with_reducible refine GA.go aa rfl ?_)|simp only[hpk,go_sem,simprocAttr])
  refine⟨λh1=>?_,λh1=>?_⟩
  ·rw[if_pos h1] at htk
   repeat (first|(with_reducible refine GA.go aa rfl ?_)|simp only[hlim.1,hlim.2.1,hlim.2.2,decide_true,go_sem,simprocAttr])
   refine⟨_,_,_,?_,Wk.mk [4,0] [] ?_ ?_ ?_,k+1,xs++[l.getD k (0,0)],rfl,by omega,htk.symm,rfl,rfl⟩
   ·omega
   ·simp only[aP,aR,go_sem,simprocAttr]
    repeat' refine ae ?_ ?_
    all_goals first|exact bB|skip
   ·refine .cons rfl (.rows (x:=_) (by simp only[go_sem,simprocAttr];rfl) (by rfl) (by rfl) (by rfl) ?_ (Nat.le_refl _) (by decide) ?_ (λi j _ hj=>by unfold sC;split<;>rfl)) (.cons rfl (.lstz (x:=_) (by simp only[go_sem,simprocAttr];rfl) (by rfl) (by rfl) (by rfl) (by rfl) ?_ (by simp) ?_ (by simp only[List.all_cons,List.all_nil,hfp,hvp,Bool.and_self])) .nil)
    ·simp only[go_sem,simprocAttr];omega
    ·simp only[go_sem,simprocAttr]
     exact dE rfl (by omega) (λi j hi _=>by unfold sC;rw[aK hi]) (λj hj=>by
      have hj2:j=0\/j=1:=by omega
      unfold sC
      rw[aL]
      rcases hj2 with rfl|rfl<;>rfl)
    ·simp[ip,dV,eI]
    ·intro i hi
     exact cT _ _ _ i (by simp)
   ·simp
  ·rw[if_neg (by rw[h1];simp),List.append_nil] at htk
   repeat (first|(with_reducible refine GA.go aa rfl ?_)|simp only[go_sem,simprocAttr])
   refine⟨_,_,_,?_,Wk.mk [1,0] [] ?_ ?_ ?_,k+1,xs,rfl,by omega,htk.symm,rfl,rfl⟩
   ·omega
   ·simp only[aP,aR,go_sem,simprocAttr]
    repeat' refine ae ?_ ?_
    all_goals first|exact bB|skip
   ·refine .cons rfl (.keep (by simp only[go_sem,simprocAttr]) rfl (by decide) (λi j _ hj=>by unfold sC;split<;>rfl)) (.cons rfl (.lstz (x:=_) (by simp only[go_sem,simprocAttr];rfl) (by rfl) (by rfl) (by rfl) (by rfl) ?_ (by simp) ?_ (by simp only[List.all_cons,List.all_nil,hfp,hvp,Bool.and_self])) .nil)
    ·simp[ip,dV,eI]
    ·intro i hi
     exact cT _ _ _ i (by simp)
   ·simp
 ·repeat (first|(with_reducible refine GA.go aa rfl ?_)|simp only[go_sem,simprocAttr])
  have:k=l.length:=by omega
  subst this
  rw[List.take_length] at hs
  subst hs
  refine⟨[_],rfl,.o (x:=_) (by simp only[go_sem,simprocAttr];rfl) (by rfl) (by rfl) (by rfl) (by decide) (Nat.le_refl _) (Nat.le_refl _) (λi j _ hj=>aX i j hj) (λi j _ _=>by unfold sC;split<;>rfl) rfl .nil⟩
theorem fY (l:List (Int×Int)) (i j:Nat) (hj:j<2):(sC l i j).cell=true:=by
 have h5:j=0\/j=1\/j=2\/j=3\/j=4:=by omega
 rcases h5 with rfl|rfl|rfl|rfl|rfl<;>first|rfl|omega
def vn (st:List (List (Int×Int))) (i _j:Nat):AV:= .fs 2 (st.reverse.getD i []).length (sC (st.reverse.getD i []))
theorem iM (st:List (List (Int×Int))) (t:List (Int×Int)) (i j:Nat) (hi:i<st.length):vn (t::st) i j=vn st i j:=by
 unfold vn;rw[List.reverse_cons,aK (by simpa using hi)]
theorem jU (st:List (List (Int×Int))) (t:List (Int×Int)) (j:Nat):vn (t::st) st.length j= .fs 2 t.length (sC t):=by
 unfold vn;rw[List.reverse_cons]
 have:=aL (l:=st.reverse) (x:=t) (d:=[])
 rw[List.length_reverse] at this
 rw[this]
theorem qr {n0:Nat} {pf:(Int×Int)->Prop} (D:In->(Int×Int)->Bool) (V:In->List (Int×Int)->In×Bool×List (Int×Int)) (g v:FuncId) (cs:List In) (fs0:List (Int×Int)) (pt:List Int) (fin:n5 (Int×Int))
  (hD:∀x,opOk x->∀f,a7 Tryz.prog g ([]++[aQ x,sV f]++[]) [.v (.b (D x f))])
  (hV:∀x ∈ cs,∀fs:List (Int×Int),fs.length<1000000->(∀f ∈ fs,pf f)->a7 Tryz.prog v [aQ x,.fs 2 fs.length (sC fs)] [.v (aQ (V x fs).1),.v (.b (V x fs).2.1),.v (.fs 2 (V x fs).2.2.length (sC (V x fs).2.2))])
  (hV1:∀x ∈ cs,∀fs:List (Int×Int),(∀f ∈ fs,pf f)->(V x fs).2.2.length<=1/\∀f ∈ (V x fs).2.2,pf f)
  (hV2:∀x ∈ cs,∀fs:List (Int×Int),(∀f ∈ fs,pf f)->opOk (V x fs).1)
  (hcs:cs.length<400000) (hok:∀x ∈ cs,opOk x) (hn0:fs0.length<=n0) (hn1:n0<400000) (hpf:∀f ∈ fs0,pf f)
  (hpt:eh cs=some pt) (hptl:pt.length=cs.length) (hgo:bS D (λf g=>decide (f.1=g.1)&&decide (f.2=g.2)) V cs pt cs 0 ⟨[],fs0,[]⟩=some fin):
  a7 Tryz.prog 64 [.fs 5 cs.length (cC cs),.fs 2 fs0.length (sC fs0),.agg [.f g [] [],.f v [] []]] [.o 37 5 fin.out.length 0 (cC fin.out)]:=by
 have hpa:=gP cs (by omega) pt hpt
 refine ah aa Jh ⟨by simp,by decide⟩ ?_
 simp only[aW]
 have hfg:(AV.f g [] []).pu 3=true:=rfl
 have hfv:(AV.f v [] []).pu 3=true:=rfl
 repeat (first|(with_reducible refine GA.go aa rfl ?_)|simp only[go_sem,simprocAttr])
 refine ab [] (.cons (.rfl (by rfl)) .nil) hpa (by simp only[go_sem,simprocAttr]) ?_
 simp only[go_sem,simprocAttr]
 refine GA.wk (Wk.mk (L:=[(0,.fs 5 cs.length (cC cs)),(1,.fs 2 fs0.length (sC fs0)),(5,.p 0 0),(7,.fs 1 pt.length (iC .i64 pt))]) (bl:=[ax 0 108 [.f g [] [],.f v [] []]]) [0] [1] ?_ ?_ ?_) ?_
 ·simp only[aP,aR,go_sem,simprocAttr]
  repeat' refine ae ?_ ?_
  all_goals first|trivial|exact Wv.same rfl|exact Wv.p rfl|skip
  refine Wv.cv (Cv.own (ty:=3) (z:=0) (by simp) (by simp only[go_sem,simprocAttr]) (λi j _ _=>rfl))
 ·refine .cons rfl (.ls) .nil
 ·simp
 with_reducible refine GA.seq ?_
 with_reducible refine GA.reg ?_
 simp only[go_sem,simprocAttr]
 with_reducible refine GA.seq ?_
 with_reducible refine GA.reg ?_
 simp only[go_sem,simprocAttr]
 refine GA.wk (Wk.nil 8 5 37 (by simp only[go_sem,simprocAttr]) (by decide) (by simp only[go_sem,simprocAttr])) ?_
 refine GA.wk (Wk.nil 9 1 104 (by simp only[go_sem,simprocAttr]) (by decide) (by simp only[go_sem,simprocAttr])) ?_
 simp only[cr]
 repeat (first|(with_reducible refine GA.go aa rfl ?_)|simp only[go_sem,simprocAttr])
 refine GA.loop (I:=λmm e H=>∃(k:Nat) (s:n5 (Int×Int)),mm=cs.length-k/\k<=cs.length/\rU pf n0 k s/\bS D (λf g=>decide (f.1=g.1)&&decide (f.2=g.2)) V cs pt (cs.drop k) k s=some fin/\
   e=aI [(0,.fs 5 cs.length (cC cs)),(1,.fs 2 s.fs.length (sC s.fs)),(5,.p 0 0),(7,.fs 1 pt.length (iC .i64 pt)),(18,.fs 5 cs.length (cC cs)),(19,.n .i64 cs.length),(20,.n .i64 k),(8,.os 1 s.out.length),(9,.os 2 s.op.length)]/\
   H=am [ar 104 1 s.op.length 0 (vn s.op),ar 37 5 s.out.length 0 (cC s.out),ax 0 108 [.f g [] [],.f v [] []]]) (Wk.mk [2,1,0] [] ?_ ?_ ?_) ⟨0,⟨[],fs0,[]⟩,rfl,by omega,⟨by simp,by simp,by simp only;omega,hpf,by simp,by simp⟩,hgo,rfl,rfl⟩ ?_
 ·simp only[aP,aR,go_sem,simprocAttr]
  repeat' refine ae ?_ ?_
  all_goals first|exact bB|skip
 ·refine .cons rfl (.rows (by simp only[go_sem,simprocAttr];rfl) rfl rfl rfl (by simp) (by decide) (by decide) (λi j h=>by simp at h) (λi j h=>by simp at h)) (.cons rfl (.rows (by simp only[go_sem,simprocAttr];rfl) rfl rfl rfl (by simp) (by decide) (by decide) (λi j h=>by simp at h) (λi j h=>by simp at h)) (.cons rfl (.ls) .nil))
 ·simp
 rintro mm e H ⟨k,⟨out,fs,op⟩,rfl,hk,hinv,hs,rfl,rfl⟩
 have⟨hi1,hi2,hi3,hi4,hi5,hi6⟩:=hinv
 simp only at hi1 hi2 hi3 hi4 hi5 hi6
 repeat (first|(with_reducible refine GA.go aa rfl ?_)|simp only[go_sem,simprocAttr])
 refine⟨λh=>?_,λh=>?_⟩
 ·have hkn:k<cs.length:=by omega
  have h0:(0:Int)<=(k:Int):=by omega
  have hk1:k+1<=cs.length:=hkn
  have hm:cs.getD k dt ∈ cs:=by rw[List.getD_eq_getElem?_getD,List.getElem?_eq_getElem hkn];exact List.getElem_mem _
  rw[bJ (d:=dt) hkn,bS] at hs
  obtain⟨s2,hst,hs⟩:=Option.bind_eq_some_iff.1 hs
  have hcc0:cC cs k 0= .n .i64 (cs.getD k dt).1:=iu cs k
  have hcc1:cC cs k 1= .n .i64 (cs.getD k dt).2.1:=kH cs k
  have hcc2:cC cs k 2= .n .i64 (cs.getD k dt).2.2.1:=lX cs k
  have hcc3:cC cs k 3= .n .i64 (cs.getD k dt).2.2.2.1:=lW cs k
  have hcc4:cC cs k 4= .n .u32 (cs.getD k dt).2.2.2.2:=lu cs k
  generalize cs.getD k dt=x at hst hcc0 hcc1 hcc2 hcc3 hcc4 hm
  have hcv:=hV x hm fs (by omega) hi4
  have hv1:=hV1 x hm
  have hv2:=hV2 x hm fs hi4
  have key:=fL hinv hv1 hst
  have hv1:=hv1 fs hi4
  unfold cy at hst
  simp only at hst
  generalize V x fs=r at hst hcv hv1 hv2
  obtain⟨y,rem,more⟩:=r
  obtain⟨opc,to,a,b,arg⟩:=x
  obtain⟨yopc,yto,ya,yb,yarg⟩:=y
  simp only[aQ] at hst hcv hv1 hv2 hcc0 hcc1 hcc2 hcc3 hcc4
  repeat (first|(with_reducible refine GA.go aa rfl ?_)|simp only[h0,h,hcc0,hcc1,hcc2,hcc3,hcc4,go_sem,simprocAttr])
  refine ab [] (.cons (.rfl (by rfl)) (.cons (.rfl (by rfl)) .nil)) hcv (by simp only[go_sem,simprocAttr]) ?_
  repeat (first|(with_reducible refine GA.go aa rfl ?_)|simp only[go_sem,simprocAttr])
  have ht:rem=false\/rem=true:=by cases rem<;>simp
  refine⟨λhr=>?_,λhr=>?_⟩
  ·rw[hr,if_neg (by simp)] at hst
   cases hst
   repeat (first|(with_reducible refine GA.go aa rfl ?_)|simp only[go_sem,simprocAttr])
   refine⟨_,_,_,?_,Wk.mk [2,1,0] [] ?_ ?_ ?_,k+1,_,rfl,by omega,key,hs,rfl,rfl⟩
   ·omega
   ·simp only[aP,aR,go_sem,simprocAttr]
    repeat' refine ae ?_ ?_
    all_goals first|exact bB|skip
   ·refine .cons rfl (.k1) (.cons rfl (.k5) (.cons rfl (.ls) .nil))
   ·simp
  rw[hr,if_pos rfl] at hst
  obtain⟨⟨fs',op'⟩,hsw,rfl⟩:=Option.map_eq_some_iff.1 hst
  simp only at key hs
  have hinv2:=fK hinv hsw
  obtain⟨hj1,hj2,hj3,hj4,hj5⟩:=hinv2
  simp only at hj1 hj2 hj3 hj4 hj5
  (try simp only[go_sem,simprocAttr])
  iterate 4 (with_reducible refine GA.go aa rfl ?_;try simp only[go_sem,simprocAttr])
  have hy5:∀j,j<5->[AV.n .i64 yopc,AV.n .i64 yto,AV.n .i64 ya,AV.n .i64 yb,AV.n .u32 yarg][j]?.getD .u=cC [(yopc,yto,ya,yb,yarg)] 0 j:=λj hj=>by rcases bZ hj with rfl|rfl|rfl|rfl|rfl<;>rfl
  refine GA.wk (Wk.mk (L:=[(0,.fs 5 cs.length (cC cs)),(1,.fs 2 fs.length (sC fs)),(5,.p 0 0),(7,.fs 1 pt.length (iC .i64 pt)),(18,.fs 5 cs.length (cC cs)),(19,.n .i64 cs.length),(20,.n .i64 k),(8,.os 1 out.length),(9,.os 2 op.length),(10,.n .i64 k),(11,.p 3 0),(12,.p 4 0),(14,.fs 2 more.length (sC more)),(15,.n .i64 ((op.length:Int)-1))])
   (bl:=[ax 0 37 [.n .i64 yopc,.n .i64 yto,.n .i64 ya,.n .i64 yb,.n .u32 yarg],ax 0 37 [.n .i64 opc,.n .i64 to,.n .i64 a,.n .i64 b,.n .u32 arg],ar 104 1 op.length 0 (vn op),ar 37 5 out.length 0 (cC out),ax 0 108 [.f g [] [],.f v [] []]]) [4,3,2,1,0] [] ?_ ?_ ?_) ?_
  ·simp only[aP,aR,go_sem,simprocAttr]
   repeat' refine ae ?_ ?_
   all_goals first|exact bB|skip
  ·refine .cons rfl (.lsti (x:=_) (by simp only[go_sem,simprocAttr]<;>rfl) (by rfl) (by rfl) (by rfl) (by rfl) (by rfl) (by rfl) (by simp) (λi hi=>?_) (by rfl)) (.cons rfl (.lsti (x:=_) (by simp only[go_sem,simprocAttr]<;>rfl) (by rfl) (by rfl) (by rfl) (by rfl) (by rfl) (by rfl) (by simp) (λi hi=>?_) (by rfl)) (.cons rfl (.k1) (.cons rfl (.k5) (.cons rfl (.ls) .nil))))
   ·rcases bZ hi with rfl|rfl|rfl|rfl|rfl<;>simp only[go_sem,simprocAttr]
   ·rcases bZ hi with rfl|rfl|rfl|rfl|rfl<;>simp only[go_sem,simprocAttr]
  ·simp
  refine GA.cutQ (aI [(0,.fs 5 cs.length (cC cs)),(1,.fs 2 fs'.length (sC fs')),(5,.p 0 0),(7,.fs 1 pt.length (iC .i64 pt)),(18,.fs 5 cs.length (cC cs)),(19,.n .i64 cs.length),(20,.n .i64 k),(8,.os 1 out.length),(9,.os 2 op'.length),(12,.p 3 0),(14,.fs 2 more.length (sC more))])
   (am [ax 0 37 [.n .i64 yopc,.n .i64 yto,.n .i64 ya,.n .i64 yb,.n .u32 yarg],ar 104 1 op'.length 0 (vn op'),ar 37 5 out.length 0 (cC out),ax 0 108 [.f g [] [],.f v [] []]]) ?_ ?_
  rotate_left
  ·intro e' H' hw
   refine GA.wk hw ?_
   have hwo:=fJ fs' [(yopc,yto,ya,yb,yarg)] g [] [] (.f v [] []) D (λz hz f=>by
    rw[List.mem_singleton.1 hz];exact hD _ hv2 f) rfl rfl (by omega) (by simp)
   have hwl:=dC D fs' [(yopc,yto,ya,yb,yarg)]
   change a7 _ _ _ [.o 102 2 (fH D fs' [(yopc,yto,ya,yb,yarg)]).length 0 (sC (fH D fs' [(yopc,yto,ya,yb,yarg)]))] at hwo
   generalize fH D fs' [(yopc,yto,ya,yb,yarg)]=wfs at hwo hwl key hs
   have hlim:(wfs.length+more.length)*2<1099511627776/\(wfs.length+more.length)*16<=140737488355328/\wfs.length+more.length<=9223372036854775807:=by omega
   have hlio:(out.length+1)*5<1099511627776/\(out.length+1)*40<=140737488355328/\out.length+1<=9223372036854775807:=by omega
   repeat (first|(with_reducible refine GA.go aa rfl ?_)|simp only[hlim.1,hlim.2.1,hlim.2.2,hlio.1,hlio.2.1,hlio.2.2,decide_true,go_sem,simprocAttr])
   refine ab [4] (fargs:=[.fs 2 fs'.length (sC fs'),.agg [.f g [] [],.f v [] []],.fs 5 [(yopc,yto,ya,yb,yarg)].length (cC [(yopc,yto,ya,yb,yarg)])]) ?_ hwo (by simp only[go_sem,simprocAttr]) ?_
   ·refine .cons (.rfl (by rfl)) (.cons (.rfl (by rfl)) (.cons ?_ .nil))
    refine Cv.sl (x:=_) (by simp) (by simp only[go_sem,simprocAttr]<;>rfl) (by simp) (by simp) (by simp) (λi j hi hj=>?_) (λi j hi hj=>by rcases bZ hj with rfl|rfl|rfl|rfl|rfl<;>rfl)
    obtain rfl:i=0:=by simpa using hi
    rw[<-hy5 j hj]
    rcases bZ hj with rfl|rfl|rfl|rfl|rfl<;>simp only[go_sem,simprocAttr]
   repeat (first|(with_reducible refine GA.go aa rfl ?_)|simp only[hlim.1,hlim.2.1,hlim.2.2,hlio.1,hlio.2.1,hlio.2.2,decide_true,go_sem,simprocAttr])
   refine⟨_,_,_,?_,Wk.mk [2,8,0] [6] ?_ ?_ ?_,k+1,_,rfl,by omega,key,hs,rfl,rfl⟩
   ·omega
   ·simp only[aP,aR,go_sem,simprocAttr]
    repeat' refine ae ?_ ?_
    all_goals first|exact bB|skip
    refine Wv.cv (Cv.os (x:=_) (by simp) (by simp only[go_sem,simprocAttr]<;>rfl) (by simp only[go_sem,simprocAttr]<;>omega) (λi j hi hj=>?_) (λi j hi hj=>fY _ _ _ hj))
    rw[f8 hj hi (by omega),aX i j hj]
    unfold sC
    by_cases hw:wfs.length<=i
    ·rw[if_pos hw]
     simp only[List.getD_eq_getElem?_getD,List.getElem?_append_right hw]
    ·rw[if_neg hw]
     simp only[List.getD_eq_getElem?_getD,List.getElem?_append_left (Nat.lt_of_not_le hw)]
   ·rw[show(out++[(yopc,yto,ya,yb,yarg)]).length=out.length+1 from by simp]
    refine .cons rfl (.k1) (.cons rfl (.snoc (by simp only[go_sem,simprocAttr]<;>rfl) (by simp) (by rfl) rfl (by decide) (by omega) (λi j hi _=>by unfold cC;rw[aK hi]) (λj hj=>by
     unfold cC
     rw[aL]
     exact(hy5 j hj).symm) (λi j _ hj=>by rcases bZ hj with rfl|rfl|rfl|rfl|rfl<;>rfl)) (.cons rfl (.ls) .nil))
   ·simp
  unfold eU at hsw
  repeat (first|(with_reducible refine GA.go aa rfl ?_)|simp only[go_sem,simprocAttr])
  refine⟨λh1=>?_,λh1=>?_⟩
  ·rw[if_pos h1] at hsw
   injection hsw with hsw
   injection hsw with e1 e2
   subst e1 e2
   have hlo:op.length+1<1099511627776/\(op.length+1)*24<=140737488355328/\op.length+1<=9223372036854775807:=by omega
   repeat (first|(with_reducible refine GA.go aa rfl ?_)|simp only[hlo.1,hlo.2.1,hlo.2.2,decide_true,go_sem,simprocAttr])
   refine Wk.mk [4,6,1,0] [] ?_ ?_ ?_
   ·simp only[aP,aR,go_sem,simprocAttr]
    repeat' refine ae ?_ ?_
    all_goals first|exact bB|skip
   ·refine .cons rfl (.ls) (.cons rfl (.snoc (by simp only[go_sem,simprocAttr]<;>rfl) (by simp) (by rfl) rfl (by decide) (by omega) (λi j hi _=>iM _ _ _ _ hi) (λj hj=>by
     cases Nat.lt_one_iff.1 hj
     exact jU _ _ _) (λi j _ _=>rfl)) (.cons rfl (.k5) (.cons rfl (.ls) .nil)))
   ·simp
  rw[if_neg h1] at hsw
  repeat (first|(with_reducible refine GA.go aa rfl ?_)|simp only[go_sem,simprocAttr])
  refine⟨λh2=>?_,λh2=>?_⟩
  ·rw[if_pos h2] at hsw
   cases op with
   |nil=>cases hsw
   |cons t r=>
   simp only at hsw
   injection hsw with hsw
   injection hsw with e1 e2
   subst e1 e2
   have hrl:r.length<=k:=by simp only[List.length_cons] at hi2;omega
   have hsub:((r.length+1:Nat):Int)-1=(r.length:Int):=by omega
   have hz0:(0:Int)<=(r.length:Int):=by omega
   have hz1:(r.length:Int)<((r.length+1:Nat):Int):=by omega
   have hz2:r.length<r.length+1:=by omega
   have hg:(ar 104 1 (r.length+1) 0 (vn (t::r))).get r.length= .fs 2 t.length (sC t):=by
    rw[bX];exact jU _ _ _
   repeat (first|(with_reducible refine GA.go aa rfl ?_)|simp only[hsub,hz0,hz1,hz2,hg,Nat.le_refl,go_sem,simprocAttr])
   refine Wk.mk [4,2,1,0] [] ?_ ?_ ?_
   ·simp only[aP,aR,go_sem,simprocAttr]
    repeat' refine ae ?_ ?_
    all_goals first|exact bB|skip
   ·refine .cons rfl (.ls) (.cons rfl (.put (n:=r.length+1) (q:=r.length) (by simp only[go_sem,simprocAttr]<;>rfl) (by simp) rfl hz2 rfl (by decide) (by omega) (λi j h hj=>?_) (λi j h hj=>rfl)) (.cons rfl (.k5) (.cons rfl (.ls) .nil)))
    cases Nat.lt_one_iff.1 hj
    by_cases e:i=r.length
    ·rw[if_pos e,e];exact(jU _ _ _).symm
    ·rw[if_neg e,iM _ _ _ _ (by omega),iM _ _ _ _ (by omega)]
   ·simp
  rw[if_neg h2] at hsw
  have hkp:k<pt.length:=by omega
  have hkpi:(k:Int)<(pt.length:Int):=by omega
  repeat (first|(with_reducible refine GA.go aa rfl ?_)|simp only[go_sem,simprocAttr])
  refine⟨λh3=>?_,λh3=>?_⟩
  ·rw[if_pos h3] at hsw
   split at hsw
   rotate_left
   ·cases hsw
   rename_i hrg
   obtain⟨q,hq⟩:∃q:Nat,pt.getD k 0=(q:Int):=⟨(pt.getD k 0).toNat,by omega⟩
   rw[hq] at hrg hsw
   rw[Int.toNat_natCast] at hsw
   have hql:q-k=((cs.take q).drop k).length:=by rw[List.length_drop,List.length_take];omega
   have hwo:=fJ fs ((cs.take q).drop k) g [] [] (.f v [] []) D (λz hz f=>hD z (hok z (List.mem_of_mem_take (List.mem_of_mem_drop hz))) f) rfl rfl (by omega) (by rw[<-hql];omega)
   have hwl:=dC D fs ((cs.take q).drop k)
   change a7 _ _ _ [.o 102 2 (fH D fs ((cs.take q).drop k)).length 0 (sC (fH D fs ((cs.take q).drop k)))] at hwo
   generalize fH D fs ((cs.take q).drop k)=wfs at hwo hwl hsw
   injection hsw with hsw
   injection hsw with e1 e2
   subst e1 e2
   have hpk:iC .i64 pt k 0= .n .i64 (q:Int):=by unfold iC;rw[hq]
   have hq0:(0:Int)<=(q:Int):=by omega
   have hq1:(k:Int)<=(q:Int):=hrg.1
   have hq2:(q:Int)<=(cs.length:Int):=hrg.2
   repeat (first|(with_reducible refine GA.go aa rfl ?_)|simp only[h0,hkpi,hpk,hq0,hq1,hq2,go_sem,simprocAttr])
   rw[hql]
   refine ab [] (fargs:=[.fs 2 fs.length (sC fs),.agg [.f g [] [],.f v [] []],.fs 5 ((cs.take q).drop k).length (cC ((cs.take q).drop k))]) ?_ hwo (by simp only[go_sem,simprocAttr]) ?_
   ·refine .cons (.rfl (by rfl)) (.cons (.rfl (by rfl)) (.cons (.fs (λi j hi hj=>?_)) .nil))
    unfold cC
    rw[List.getD_eq_getElem?_getD,List.getD_eq_getElem?_getD,List.getElem?_drop,List.getElem?_take_of_lt (by omega)]
   repeat (first|(with_reducible refine GA.go aa rfl ?_)|simp only[go_sem,simprocAttr])
   refine Wk.mk [4,2,1,0] [5] ?_ ?_ ?_
   ·simp only[aP,aR,go_sem,simprocAttr]
    repeat' refine ae ?_ ?_
    all_goals first|exact bB|skip
    exact Wv.cv (Cv.own (ty:=102) (z:=0) (by simp) (by simp only[go_sem,simprocAttr]) (λi j _ hj=>fY _ _ _ hj))
   ·refine .cons rfl (.ls) (.cons rfl (.k1) (.cons rfl (.k5) (.cons rfl (.ls) .nil)))
   ·simp
  rw[if_neg h3] at hsw
  by_cases h4:opc=31
  ·rw[if_pos h4] at hsw
   subst h4
   split at hsw
   rotate_left
   ·cases hsw
   rename_i hrg
   obtain⟨q,hq⟩:∃q:Nat,pt.getD k 0=(q:Int):=⟨(pt.getD k 0).toNat,by omega⟩
   rw[hq] at hrg hsw
   rw[Int.toNat_natCast] at hsw
   have hpk:iC .i64 pt k 0= .n .i64 (q:Int):=by unfold iC;rw[hq]
   have hq0:(0:Int)<=(q:Int):=by omega
   have hq1:(q:Int)<=(k:Int):=hrg.2
   have hq2:(q:Int)<(cs.length:Int):=by omega
   have hq3:(k:Int)<=(cs.length:Int):=by omega
   have hcq:cC cs q 0= .n .i64 (cs.getD q dt).1:=iu cs q
   repeat (first|(with_reducible refine GA.go aa rfl ?_)|simp only[h0,hkpi,hpk,hq0,hq1,hq2,hcq,decide_true,go_sem,simprocAttr])
   refine⟨λh5=>?_,λh5=>?_⟩
   ·rw[if_pos h5] at hsw
    have hql:k-q=((cs.take k).drop q).length:=by rw[List.length_drop,List.length_take];omega
    have hwo:=fJ fs ((cs.take k).drop q) g [] [] (.f v [] []) D (λz hz f=>hD z (hok z (List.mem_of_mem_take (List.mem_of_mem_drop hz))) f) rfl rfl (by omega) (by rw[<-hql];omega)
    have hwl:=dC D fs ((cs.take k).drop q)
    change a7 _ _ _ [.o 102 2 (fH D fs ((cs.take k).drop q)).length 0 (sC (fH D fs ((cs.take k).drop q)))] at hwo
    generalize fH D fs ((cs.take k).drop q)=wfs at hwo hwl hsw
    injection hsw with hsw
    injection hsw with e1 e2
    subst e1 e2
    repeat (first|(with_reducible refine GA.go aa rfl ?_)|simp only[h0,hkpi,hpk,hq0,hq1,hq2,hq3,go_sem,simprocAttr])
    rw[hql]
    refine ab [] (fargs:=[.fs 2 fs.length (sC fs),.agg [.f g [] [],.f v [] []],.fs 5 ((cs.take k).drop q).length (cC ((cs.take k).drop q))]) ?_ hwo (by simp only[go_sem,simprocAttr]) ?_
    ·refine .cons (.rfl (by rfl)) (.cons (.rfl (by rfl)) (.cons (.fs (λi j hi hj=>?_)) .nil))
     unfold cC
     rw[List.getD_eq_getElem?_getD,List.getD_eq_getElem?_getD,List.getElem?_drop,List.getElem?_take_of_lt (by omega)]
    repeat (first|(with_reducible refine GA.go aa rfl ?_)|simp only[go_sem,simprocAttr])
    refine Wk.mk [4,2,1,0] [5] ?_ ?_ ?_
    ·simp only[aP,aR,go_sem,simprocAttr]
     repeat' refine ae ?_ ?_
     all_goals first|exact bB|skip
     exact Wv.cv (Cv.own (ty:=102) (z:=0) (by simp) (by simp only[go_sem,simprocAttr]) (λi j _ hj=>fY _ _ _ hj))
    ·refine .cons rfl (.ls) (.cons rfl (.k1) (.cons rfl (.k5) (.cons rfl (.ls) .nil)))
    ·simp
   ·rw[if_neg h5] at hsw
    cases op with
    |nil=>cases hsw
    |cons t r=>
    simp only at hsw
    have hrl:r.length<=k:=by simp only[List.length_cons] at hi2;omega
    have htl:=hi5 t (List.mem_cons_self ..)
    have hbo:=rG fs t (by omega) (by omega)
    have hbl:=jZ (λf g=>decide (f.1=g.1)&&decide (f.2=g.2)) fs t
    change a7 _ _ _ [.o 102 2 (qh (λf g=>decide (f.1=g.1)&&decide (f.2=g.2)) fs t).length 0 (sC (qh (λf g=>decide (f.1=g.1)&&decide (f.2=g.2)) fs t))] at hbo
    generalize qh (λf g=>decide (f.1=g.1)&&decide (f.2=g.2)) fs t=bfs at hbo hbl hsw
    injection hsw with hsw
    injection hsw with e1 e2
    subst e1 e2
    have hsub:((r.length+1:Nat):Int)-1=(r.length:Int):=by omega
    have hz0:(0:Int)<=(r.length:Int):=by omega
    have hz1:(r.length:Int)<((r.length+1:Nat):Int):=by omega
    have hz3:(r.length:Int)<=((r.length+1:Nat):Int):=by omega
    have hz2:r.length<r.length+1:=by omega
    have hg:(ar 104 1 (r.length+1) 0 (vn (t::r))).get r.length= .fs 2 t.length (sC t):=by
     rw[bX];exact jU _ _ _
    repeat (first|(with_reducible refine GA.go aa rfl ?_)|simp only[hsub,hz0,hz1,hz2,hz3,hg,Int.le_refl,go_sem,simprocAttr])
    refine ab [] (.cons (.rfl (by rfl)) (.cons (.rfl (by rfl)) .nil)) hbo (by simp only[go_sem,simprocAttr]) ?_
    repeat (first|(with_reducible refine GA.go aa rfl ?_)|simp only[go_sem,simprocAttr])
    refine Wk.mk [4,2,1,0] [5] ?_ ?_ ?_
    ·simp only[aP,aR,go_sem,simprocAttr]
     repeat' refine ae ?_ ?_
     all_goals first|exact bB|skip
     exact Wv.cv (Cv.own (ty:=102) (z:=0) (by simp) (by simp only[go_sem,simprocAttr]) (λi j _ hj=>fY _ _ _ hj))
    ·refine .cons rfl (.ls) (.cons rfl (.pop (n:=r.length+1) (by simp only[go_sem,simprocAttr]<;>rfl) rfl (by decide) (by omega) (λi j hi _=>iM _ _ _ _ hi) (λi j _ hj=>rfl)) (.cons rfl (.k5) (.cons rfl (.ls) .nil)))
    ·simp
  rw[if_neg h4] at hsw
  injection hsw with hsw
  injection hsw with e1 e2
  subst e1 e2
  repeat (first|(with_reducible refine GA.go aa rfl ?_)|simp only[h4,decide_false,go_sem,simprocAttr])
  refine Wk.mk [4,2,1,0] [] ?_ ?_ ?_
  ·simp only[aP,aR,go_sem,simprocAttr]
   repeat' refine ae ?_ ?_
   all_goals first|exact bB|skip
  ·refine .cons rfl (.ls) (.cons rfl (.k1) (.cons rfl (.k5) (.cons rfl (.ls) .nil)))
  ·simp
 ·have hkn:k=cs.length:=by omega
  subst hkn
  rw[List.drop_length,bS] at hs
  cases hs
  repeat (first|(with_reducible refine GA.go aa rfl ?_)|simp only[go_sem,simprocAttr])
  refine⟨[_],rfl,.o (x:=_) (by simp only[go_sem,simprocAttr];rfl) (by rfl) (by rfl) (by rfl) (by decide) (Nat.le_refl _) (Nat.le_refl _) (λi j _ hj=>aX i j hj) (λi j _ hj=>bj i hj) rfl .nil⟩
def gb:List (Int×Int)->Int->Int
 |[],r=>r
 |f::l,r=>if f.1=r then f.2 else gb l r
theorem j8 (l:List (Int×Int)) (r:Int) (hl:l.length<1000000):a7 Tryz.prog 67 [.fs 2 l.length (sC l),.n .i64 r] [.v (.n .i64 (gb l r))]:=by
 refine ah aa OK ⟨by simp,by decide⟩ ?_
 simp only[aW]
 repeat (first|(with_reducible refine GA.go aa rfl ?_)|simp only[go_sem,simprocAttr])
 refine GA.loop (I:=λmm e H=>∃k:Nat,mm=l.length-k/\k<=l.length/\gb l r=gb (l.drop k) r/\e=aI [(1,.n .i64 r),(7,.fs 2 l.length (sC l)),(8,.n .i64 l.length),(9,.n .i64 k)]/\H=am []) (Wk.mk [] [] ?_ ?_ ?_) ⟨0,rfl,by omega,rfl,rfl,rfl⟩ ?_
 ·simp only[aP,aR,go_sem,simprocAttr]
  repeat' refine ae ?_ ?_
  all_goals first|exact bB|skip
 ·trivial
 ·simp
 rintro mm e H ⟨k,rfl,hk,hs,rfl,rfl⟩
 repeat (first|(with_reducible refine GA.go aa rfl ?_)|simp only[go_sem,simprocAttr])
 refine⟨λh=>?_,λh=>?_⟩
 ·have hk':k<l.length:=by omega
  have h0:(0:Int)<=(k:Int):=by omega
  rw[bJ (d:=(0,0)) hk',gb] at hs
  repeat (first|(with_reducible refine GA.go aa rfl ?_)|simp only[h0,h,Nc,Nb,go_sem,simprocAttr])
  refine⟨λh1=>?_,λh1=>?_⟩
  ·rw[if_pos h1] at hs
   repeat (first|(with_reducible refine GA.go aa rfl ?_)|simp only[go_sem,simprocAttr])
   exact ai (by rw[hs]) rfl
  ·rw[if_neg h1] at hs
   repeat (first|(with_reducible refine GA.go aa rfl ?_)|simp only[go_sem,simprocAttr])
   refine⟨_,_,_,?_,Wk.mk [] [] ?_ ?_ ?_,k+1,rfl,by omega,hs,rfl,rfl⟩
   ·omega
   ·simp only[aP,aR,go_sem,simprocAttr]
    repeat' refine ae ?_ ?_
    all_goals first|exact bB|skip
   ·trivial
   ·simp
 ·have:k=l.length:=by omega
  rw[this,List.drop_length,gb] at hs
  repeat (first|(with_reducible refine GA.go aa rfl ?_)|simp only[go_sem,simprocAttr])
  exact ai (by rw[hs]) rfl
def pb (x:In) (f:Int×Int):Bool:=decide (bf x.1 x.2.1=f.1)||decide (bf x.1 x.2.1=f.2)
theorem nR (x:In) (f:Int×Int) (h:opOk x):a7 Tryz.prog 65 [aQ x,sV f] [.v (.b (pb x f))]:=by
 obtain⟨op,to,a,b,arg⟩:=x
 refine ah aa I6 ⟨by simp,by decide⟩ ?_
 simp only[aW,sV,aQ,pb]
 repeat (first|(with_reducible refine GA.go aa rfl ?_)|simp only[go_sem,simprocAttr])
 refine ab [] (.cons (.rfl rfl) .nil) (gg op to a b arg h) (by simp only[go_sem,simprocAttr]) ?_
 by_cases h1:bf op to=f.1
 ·repeat (first|(with_reducible refine GA.go aa rfl ?_)|simp only[h1,decide_true,go_sem,simprocAttr])
  exact ai (by simp) rfl
 ·repeat (first|(with_reducible refine GA.go aa rfl ?_)|simp only[h1,decide_false,go_sem,simprocAttr])
  exact ai (by simp) rfl
theorem fo {P:Program} {f:FuncId} {args:List AV} {a b:AV} {esz:Nat} {row:Nat->Nat->AV} (h:a7 P f args [.v a,.v b,.v .sl0]):a7 P f args [.v a,.v b,.v (.fs esz 0 row)]:=by
 refine⟨h.1,λφ w args' hφ ha=>(h.2 φ w args' hφ ha).mono λe w' hq=>?_⟩
 cases e with
 |panicked c=>exact hq.elim
 |outgrown=>exact hq.elim
 |returned u=>
  obtain⟨v,Hc,σ',⟨l,rfl,hr⟩,hv,hHc,hbel,hfz⟩:=hq
  match l,hr with
  |[x,y,z],hr=>
   obtain⟨⟨rfl,h1⟩,⟨rfl,h2⟩,⟨rfl,h3⟩,_⟩:=hr
   obtain⟨us,hus,hback⟩:=fg hv
   refine⟨_,Hc,σ',⟨[x,y,.fs esz 0 row],rfl,⟨rfl,h1⟩,⟨rfl,h2⟩,⟨rfl,rfl⟩,trivial⟩,hback rfl ⟨hus.1,λi v hi=>?_⟩,hHc,hbel,hfz⟩
   match i with
   |0=>exact hus.2 0 v hi
   |1=>exact hus.2 1 v hi
   |2=>
    have h0:=hus.2 2 .sl0 rfl
    simp only[List.getElem?_cons_succ,List.getElem?_cons_zero,Option.some.injEq] at hi
    subst hi
    generalize us.getD 2 undef=u2 at h0
    cases h0
    exact .fs0 _ _ _ _
   |i+3=>simp at hi
def jb (op to a b arg:Int):In×Bool×List (Int×Int):=
 if op=36 then(if a=to then((op,to,a,b,arg),false,[]) else((op,to,a,b,arg),true,[(to,a)])) else((op,to,a,b,arg),true,[])
def ir (x:In) (fs:List (Int×Int)):In×Bool×List (Int×Int):=jb x.1 x.2.1 (gb fs x.2.2.1) (gb fs x.2.2.2.1) x.2.2.2.2
theorem nQ (x:In) (fs:List (Int×Int)) (hl:fs.length<1000000):a7 Tryz.prog 66 [aQ x,.fs 2 fs.length (sC fs)] [.v (aQ (ir x fs).1),.v (.b (ir x fs).2.1),.v (.fs 2 (ir x fs).2.2.length (sC (ir x fs).2.2))]:=by
 obtain⟨op,to,a,b,arg⟩:=x
 have hsa:=j8 fs a hl
 have hsb:=j8 fs b hl
 show a7 _ _ _ [.v (aQ (jb op to (gb fs a) (gb fs b) arg).1),.v (.b (jb op to (gb fs a) (gb fs b) arg).2.1),.v (.fs 2 (jb op to (gb fs a) (gb fs b) arg).2.2.length (sC (jb op to (gb fs a) (gb fs b) arg).2.2))]
 generalize gb fs a=a' at hsa ⊢
 generalize gb fs b=b' at hsb ⊢
 unfold jb
 by_cases h1:op=36
 ·subst h1
  rw[if_pos rfl]
  by_cases h2:a'=to
  ·rw[if_pos h2]
   subst h2
   refine fo ?_
   refine ah aa ss ⟨by simp,by decide⟩ ?_
   simp only[aW,aQ]
   repeat (first|(with_reducible refine GA.go aa rfl ?_)|simp only[go_sem,simprocAttr])
   refine ab [] (.cons (.rfl (by rfl)) (.cons (.rfl (by rfl)) .nil)) hsa (by simp only[go_sem,simprocAttr]) ?_
   repeat (first|(with_reducible refine GA.go aa rfl ?_)|simp only[go_sem,simprocAttr])
   first
    |refine ae (by first|decide|simp) ?_
    |skip
   refine ab [] (.cons (.rfl (by rfl)) (.cons (.rfl (by rfl)) .nil)) hsb (by simp only[go_sem,simprocAttr]) ?_
   repeat (first|(with_reducible refine GA.go aa rfl ?_)|simp only[decide_true,go_sem,simprocAttr])
   exact bA (.v rfl rfl (.v rfl rfl (.v rfl rfl .nil)))
  ·rw[if_neg h2]
   refine ah aa ss ⟨by simp,by decide⟩ ?_
   simp only[aW,aQ]
   repeat (first|(with_reducible refine GA.go aa rfl ?_)|simp only[go_sem,simprocAttr])
   refine ab [] (.cons (.rfl (by rfl)) (.cons (.rfl (by rfl)) .nil)) hsa (by simp only[go_sem,simprocAttr]) ?_
   repeat (first|(with_reducible refine GA.go aa rfl ?_)|simp only[go_sem,simprocAttr])
   first
    |refine ae (by first|decide|simp) ?_
    |skip
   refine ab [] (.cons (.rfl (by rfl)) (.cons (.rfl (by rfl)) .nil)) hsb (by simp only[go_sem,simprocAttr]) ?_
   repeat (first|(with_reducible refine GA.go aa rfl ?_)|simp only[decide_true,h2,decide_false,go_sem,simprocAttr])
   refine GA.cut' (aI [(4,.p 0 0),(5,.b true),(6,.fs 2 1 (sC [(to,a')]))]) (am [ax 0 37 [.n .i64 36,.n .i64 to,.n .i64 a',.n .i64 b',.n .u32 arg]]) ?_ ?_
   ·refine GA.frkm aa 1 (by simp only[eG,go_sem,simprocAttr]) ?_
    simp only[go_sem,simprocAttr]
    repeat' refine ae ?_ ?_
    all_goals first
     |decide
     |(refine Wk.mk [1] [2] ?_ ?_ ?_
       ·simp only[aP,go_sem,simprocAttr]
        repeat' refine ae ?_ ?_
        ·exact Wv.p rfl
        ·exact Wv.same rfl
        ·refine Wv.cv (Cv.sl (x:=_) (by simp) (by simp only[go_sem,simprocAttr];rfl) (by simp only[go_sem,simprocAttr];first|done|decide) (by decide) (by simp only[go_sem,simprocAttr];first|done|decide) (λi j hi hj=>?_) (λi j _ _=>by unfold sC;split<;>rfl))
         obtain rfl:i=0:=by omega
         have hj2:j=0\/j=1:=by omega
         rcases hj2 with rfl|rfl<;>simp only[go_sem,simprocAttr]<;>rfl
       ·refine .cons rfl (.lsti (x:=_) (by simp only[go_sem,simprocAttr];rfl) (by rfl) (by rfl) (by rfl) (by rfl) (by rfl) (by rfl) (by simp) (λi hi=>?_) rfl) .nil
        rcases bZ hi with rfl|rfl|rfl|rfl|rfl<;>simp only[go_sem,simprocAttr]
       ·simp)
   ·repeat (first|(with_reducible refine GA.go aa rfl ?_)|simp only[go_sem,simprocAttr])
    exact bA (.v rfl rfl (.v rfl rfl (.v rfl rfl .nil)))
 ·rw[if_neg h1]
  refine fo ?_
  refine ah aa ss ⟨by simp,by decide⟩ ?_
  simp only[aW,aQ]
  repeat (first|(with_reducible refine GA.go aa rfl ?_)|simp only[go_sem,simprocAttr])
  refine ab [] (.cons (.rfl (by rfl)) (.cons (.rfl (by rfl)) .nil)) hsa (by simp only[go_sem,simprocAttr]) ?_
  repeat (first|(with_reducible refine GA.go aa rfl ?_)|simp only[go_sem,simprocAttr])
  first
   |refine ae (by first|decide|simp) ?_
   |skip
  refine ab [] (.cons (.rfl (by rfl)) (.cons (.rfl (by rfl)) .nil)) hsb (by simp only[go_sem,simprocAttr]) ?_
  repeat (first|(with_reducible refine GA.go aa rfl ?_)|simp only[h1,decide_false,go_sem,simprocAttr])
  exact bA (.v rfl rfl (.v rfl rfl (.v rfl rfl .nil)))
theorem qe (x:In) (fs:List (Int×Int)) (hx:opOk x):((ir x fs).2.2.length<=1/\∀f ∈ (ir x fs).2.2,True)/\opOk (ir x fs).1:=by
 refine⟨⟨?_,λ_ _=>trivial⟩,?_⟩
 ·unfold ir jb
  split
  ·split<;>simp
  ·simp
 ·unfold ir jb
  split
  ·split<;>exact hx
  ·exact hx
theorem pc {na:Nat} {ra:Nat->Nat->AV} {regs par:Int} {cs:List In} {pt:List Int} {fin:n5 (Int×Int)} (hcs:cs.length<400000) (hok:∀x ∈ cs,opOk x) (hpt:eh cs=some pt) (hptl:pt.length=cs.length)
  (hgo:bS pb (λf g=>decide (f.1=g.1)&&decide (f.2=g.2)) ir cs pt cs 0 ⟨[],[],[]⟩=some fin):
  a7 Tryz.prog 36 [ag na ra regs par cs] [.o 37 5 fin.out.length 0 (cC fin.out)]:=by
 have hw:=qr (n0:=0) (pf:=λ_=>True) pb ir 65 66 cs [] pt fin (λx hx f=>nR x f hx) (λx hx fs hl _=>nQ x fs hl) (λx hx fs _=>(qe x fs (hok x hx)).1) (λx hx fs _=>(qe x fs (hok x hx)).2) hcs hok (by simp) (by decide) (by simp) hpt hptl hgo
 refine ah aa Jk ⟨by simp,by decide⟩ ?_
 simp only[aW,ag]
 repeat (first|(with_reducible refine GA.go aa rfl ?_)|simp only[go_sem,simprocAttr])
 refine ab [] (fargs:=[.fs 5 cs.length (cC cs),.fs 2 ([]:List (Int×Int)).length (sC []),.agg [.f 65 [] [],.f 66 [] []]]) (.cons (.rfl (by rfl)) (.cons (.sl0 _ _) (.cons (.rfl (by rfl)) .nil))) hw (by simp only[go_sem,simprocAttr]) ?_
 repeat (first|(with_reducible refine GA.go aa rfl ?_)|simp only[go_sem,simprocAttr])
 refine⟨[_],rfl,.o (x:=_) (by simp only[go_sem,simprocAttr];rfl) (by rfl) (by rfl) (by rfl) (by decide) (Nat.le_refl _) (Nat.le_refl _) (λi j _ hj=>aX i j hj) (λi j _ hj=>bj i hj) rfl .nil⟩
theorem fZ (l:List (Int×Int)) (i j:Nat) (hj:j<2):(kC l i j).cell=true:=by
 have h5:j=0\/j=1\/j=2\/j=3\/j=4:=by omega
 rcases h5 with rfl|rfl|rfl|rfl|rfl<;>first|rfl|omega
def vo (st:List (List (Int×Int))) (i _j:Nat):AV:= .fs 2 (st.reverse.getD i []).length (kC (st.reverse.getD i []))
theorem iP (st:List (List (Int×Int))) (t:List (Int×Int)) (i j:Nat) (hi:i<st.length):vo (t::st) i j=vo st i j:=by
 unfold vo;rw[List.reverse_cons,aK (by simpa using hi)]
theorem jV (st:List (List (Int×Int))) (t:List (Int×Int)) (j:Nat):vo (t::st) st.length j= .fs 2 t.length (kC t):=by
 unfold vo;rw[List.reverse_cons]
 have:=aL (l:=st.reverse) (x:=t) (d:=[])
 rw[List.length_reverse] at this
 rw[this]
theorem qs {n0:Nat} {pf:(Int×Int)->Prop} (D:In->(Int×Int)->Bool) (V:In->List (Int×Int)->In×Bool×List (Int×Int)) (g v:FuncId) (cs:List In) (fs0:List (Int×Int)) (pt:List Int) (fin:n5 (Int×Int))
  (hD:∀x,opOk x->∀f,a7 Tryz.prog g ([]++[aQ x,kV f]++[]) [.v (.b (D x f))])
  (hV:∀x ∈ cs,∀fs:List (Int×Int),fs.length<1000000->(∀f ∈ fs,pf f)->a7 Tryz.prog v [aQ x,.fs 2 fs.length (kC fs)] [.v (aQ (V x fs).1),.v (.b (V x fs).2.1),.v (.fs 2 (V x fs).2.2.length (kC (V x fs).2.2))])
  (hV1:∀x ∈ cs,∀fs:List (Int×Int),(∀f ∈ fs,pf f)->(V x fs).2.2.length<=1/\∀f ∈ (V x fs).2.2,pf f)
  (hV2:∀x ∈ cs,∀fs:List (Int×Int),(∀f ∈ fs,pf f)->opOk (V x fs).1)
  (hcs:cs.length<400000) (hok:∀x ∈ cs,opOk x) (hn0:fs0.length<=n0) (hn1:n0<400000) (hpf:∀f ∈ fs0,pf f)
  (hpt:eh cs=some pt) (hptl:pt.length=cs.length) (hgo:bS D (λf g=>decide (f.1=g.1)&&decide (f.2=g.2)) V cs pt cs 0 ⟨[],fs0,[]⟩=some fin):
  a7 Tryz.prog 55 [.fs 5 cs.length (cC cs),.fs 2 fs0.length (kC fs0),.agg [.f g [] [],.f v [] []]] [.o 37 5 fin.out.length 0 (cC fin.out)]:=by
 have hpa:=gP cs (by omega) pt hpt
 refine ah aa Lc ⟨by simp,by decide⟩ ?_
 simp only[aW]
 have hfg:(AV.f g [] []).pu 3=true:=rfl
 have hfv:(AV.f v [] []).pu 3=true:=rfl
 repeat (first|(with_reducible refine GA.go aa rfl ?_)|simp only[go_sem,simprocAttr])
 refine ab [] (.cons (.rfl (by rfl)) .nil) hpa (by simp only[go_sem,simprocAttr]) ?_
 simp only[go_sem,simprocAttr]
 refine GA.wk (Wk.mk (L:=[(0,.fs 5 cs.length (cC cs)),(1,.fs 2 fs0.length (kC fs0)),(5,.p 0 0),(7,.fs 1 pt.length (iC .i64 pt))]) (bl:=[ax 0 91 [.f g [] [],.f v [] []]]) [0] [1] ?_ ?_ ?_) ?_
 ·simp only[aP,aR,go_sem,simprocAttr]
  repeat' refine ae ?_ ?_
  all_goals first|trivial|exact Wv.same rfl|exact Wv.p rfl|skip
  refine Wv.cv (Cv.own (ty:=3) (z:=0) (by simp) (by simp only[go_sem,simprocAttr]) (λi j _ _=>rfl))
 ·refine .cons rfl (.ls) .nil
 ·simp
 with_reducible refine GA.seq ?_
 with_reducible refine GA.reg ?_
 simp only[go_sem,simprocAttr]
 with_reducible refine GA.seq ?_
 with_reducible refine GA.reg ?_
 simp only[go_sem,simprocAttr]
 refine GA.wk (Wk.nil 8 5 37 (by simp only[go_sem,simprocAttr]) (by decide) (by simp only[go_sem,simprocAttr])) ?_
 refine GA.wk (Wk.nil 9 1 82 (by simp only[go_sem,simprocAttr]) (by decide) (by simp only[go_sem,simprocAttr])) ?_
 simp only[cr]
 repeat (first|(with_reducible refine GA.go aa rfl ?_)|simp only[go_sem,simprocAttr])
 refine GA.loop (I:=λmm e H=>∃(k:Nat) (s:n5 (Int×Int)),mm=cs.length-k/\k<=cs.length/\rU pf n0 k s/\bS D (λf g=>decide (f.1=g.1)&&decide (f.2=g.2)) V cs pt (cs.drop k) k s=some fin/\
   e=aI [(0,.fs 5 cs.length (cC cs)),(1,.fs 2 s.fs.length (kC s.fs)),(5,.p 0 0),(7,.fs 1 pt.length (iC .i64 pt)),(18,.fs 5 cs.length (cC cs)),(19,.n .i64 cs.length),(20,.n .i64 k),(8,.os 1 s.out.length),(9,.os 2 s.op.length)]/\
   H=am [ar 82 1 s.op.length 0 (vo s.op),ar 37 5 s.out.length 0 (cC s.out),ax 0 91 [.f g [] [],.f v [] []]]) (Wk.mk [2,1,0] [] ?_ ?_ ?_) ⟨0,⟨[],fs0,[]⟩,rfl,by omega,⟨by simp,by simp,by simp only;omega,hpf,by simp,by simp⟩,hgo,rfl,rfl⟩ ?_
 ·simp only[aP,aR,go_sem,simprocAttr]
  repeat' refine ae ?_ ?_
  all_goals first|exact bB|skip
 ·refine .cons rfl (.rows (by simp only[go_sem,simprocAttr];rfl) rfl rfl rfl (by simp) (by decide) (by decide) (λi j h=>by simp at h) (λi j h=>by simp at h)) (.cons rfl (.rows (by simp only[go_sem,simprocAttr];rfl) rfl rfl rfl (by simp) (by decide) (by decide) (λi j h=>by simp at h) (λi j h=>by simp at h)) (.cons rfl (.ls) .nil))
 ·simp
 rintro mm e H ⟨k,⟨out,fs,op⟩,rfl,hk,hinv,hs,rfl,rfl⟩
 have⟨hi1,hi2,hi3,hi4,hi5,hi6⟩:=hinv
 simp only at hi1 hi2 hi3 hi4 hi5 hi6
 repeat (first|(with_reducible refine GA.go aa rfl ?_)|simp only[go_sem,simprocAttr])
 refine⟨λh=>?_,λh=>?_⟩
 ·have hkn:k<cs.length:=by omega
  have h0:(0:Int)<=(k:Int):=by omega
  have hk1:k+1<=cs.length:=hkn
  have hm:cs.getD k dt ∈ cs:=by rw[List.getD_eq_getElem?_getD,List.getElem?_eq_getElem hkn];exact List.getElem_mem _
  rw[bJ (d:=dt) hkn,bS] at hs
  obtain⟨s2,hst,hs⟩:=Option.bind_eq_some_iff.1 hs
  have hcc0:cC cs k 0= .n .i64 (cs.getD k dt).1:=iu cs k
  have hcc1:cC cs k 1= .n .i64 (cs.getD k dt).2.1:=kH cs k
  have hcc2:cC cs k 2= .n .i64 (cs.getD k dt).2.2.1:=lX cs k
  have hcc3:cC cs k 3= .n .i64 (cs.getD k dt).2.2.2.1:=lW cs k
  have hcc4:cC cs k 4= .n .u32 (cs.getD k dt).2.2.2.2:=lu cs k
  generalize cs.getD k dt=x at hst hcc0 hcc1 hcc2 hcc3 hcc4 hm
  have hcv:=hV x hm fs (by omega) hi4
  have hv1:=hV1 x hm
  have hv2:=hV2 x hm fs hi4
  have key:=fL hinv hv1 hst
  have hv1:=hv1 fs hi4
  unfold cy at hst
  simp only at hst
  generalize V x fs=r at hst hcv hv1 hv2
  obtain⟨y,rem,more⟩:=r
  obtain⟨opc,to,a,b,arg⟩:=x
  obtain⟨yopc,yto,ya,yb,yarg⟩:=y
  simp only[aQ] at hst hcv hv1 hv2 hcc0 hcc1 hcc2 hcc3 hcc4
  repeat (first|(with_reducible refine GA.go aa rfl ?_)|simp only[h0,h,hcc0,hcc1,hcc2,hcc3,hcc4,go_sem,simprocAttr])
  refine ab [] (.cons (.rfl (by rfl)) (.cons (.rfl (by rfl)) .nil)) hcv (by simp only[go_sem,simprocAttr]) ?_
  repeat (first|(with_reducible refine GA.go aa rfl ?_)|simp only[go_sem,simprocAttr])
  have ht:rem=false\/rem=true:=by cases rem<;>simp
  refine⟨λhr=>?_,λhr=>?_⟩
  ·rw[hr,if_neg (by simp)] at hst
   cases hst
   repeat (first|(with_reducible refine GA.go aa rfl ?_)|simp only[go_sem,simprocAttr])
   refine⟨_,_,_,?_,Wk.mk [2,1,0] [] ?_ ?_ ?_,k+1,_,rfl,by omega,key,hs,rfl,rfl⟩
   ·omega
   ·simp only[aP,aR,go_sem,simprocAttr]
    repeat' refine ae ?_ ?_
    all_goals first|exact bB|skip
   ·refine .cons rfl (.k1) (.cons rfl (.k5) (.cons rfl (.ls) .nil))
   ·simp
  rw[hr,if_pos rfl] at hst
  obtain⟨⟨fs',op'⟩,hsw,rfl⟩:=Option.map_eq_some_iff.1 hst
  simp only at key hs
  have hinv2:=fK hinv hsw
  obtain⟨hj1,hj2,hj3,hj4,hj5⟩:=hinv2
  simp only at hj1 hj2 hj3 hj4 hj5
  (try simp only[go_sem,simprocAttr])
  iterate 4 (with_reducible refine GA.go aa rfl ?_;try simp only[go_sem,simprocAttr])
  have hy5:∀j,j<5->[AV.n .i64 yopc,AV.n .i64 yto,AV.n .i64 ya,AV.n .i64 yb,AV.n .u32 yarg][j]?.getD .u=cC [(yopc,yto,ya,yb,yarg)] 0 j:=λj hj=>by rcases bZ hj with rfl|rfl|rfl|rfl|rfl<;>rfl
  refine GA.wk (Wk.mk (L:=[(0,.fs 5 cs.length (cC cs)),(1,.fs 2 fs.length (kC fs)),(5,.p 0 0),(7,.fs 1 pt.length (iC .i64 pt)),(18,.fs 5 cs.length (cC cs)),(19,.n .i64 cs.length),(20,.n .i64 k),(8,.os 1 out.length),(9,.os 2 op.length),(10,.n .i64 k),(11,.p 3 0),(12,.p 4 0),(14,.fs 2 more.length (kC more)),(15,.n .i64 ((op.length:Int)-1))])
   (bl:=[ax 0 37 [.n .i64 yopc,.n .i64 yto,.n .i64 ya,.n .i64 yb,.n .u32 yarg],ax 0 37 [.n .i64 opc,.n .i64 to,.n .i64 a,.n .i64 b,.n .u32 arg],ar 82 1 op.length 0 (vo op),ar 37 5 out.length 0 (cC out),ax 0 91 [.f g [] [],.f v [] []]]) [4,3,2,1,0] [] ?_ ?_ ?_) ?_
  ·simp only[aP,aR,go_sem,simprocAttr]
   repeat' refine ae ?_ ?_
   all_goals first|exact bB|skip
  ·refine .cons rfl (.lsti (x:=_) (by simp only[go_sem,simprocAttr]<;>rfl) (by rfl) (by rfl) (by rfl) (by rfl) (by rfl) (by rfl) (by simp) (λi hi=>?_) (by rfl)) (.cons rfl (.lsti (x:=_) (by simp only[go_sem,simprocAttr]<;>rfl) (by rfl) (by rfl) (by rfl) (by rfl) (by rfl) (by rfl) (by simp) (λi hi=>?_) (by rfl)) (.cons rfl (.k1) (.cons rfl (.k5) (.cons rfl (.ls) .nil))))
   ·rcases bZ hi with rfl|rfl|rfl|rfl|rfl<;>simp only[go_sem,simprocAttr]
   ·rcases bZ hi with rfl|rfl|rfl|rfl|rfl<;>simp only[go_sem,simprocAttr]
  ·simp
  refine GA.cutQ (aI [(0,.fs 5 cs.length (cC cs)),(1,.fs 2 fs'.length (kC fs')),(5,.p 0 0),(7,.fs 1 pt.length (iC .i64 pt)),(18,.fs 5 cs.length (cC cs)),(19,.n .i64 cs.length),(20,.n .i64 k),(8,.os 1 out.length),(9,.os 2 op'.length),(12,.p 3 0),(14,.fs 2 more.length (kC more))])
   (am [ax 0 37 [.n .i64 yopc,.n .i64 yto,.n .i64 ya,.n .i64 yb,.n .u32 yarg],ar 82 1 op'.length 0 (vo op'),ar 37 5 out.length 0 (cC out),ax 0 91 [.f g [] [],.f v [] []]]) ?_ ?_
  rotate_left
  ·intro e' H' hw
   refine GA.wk hw ?_
   have hwo:=gk fs' [(yopc,yto,ya,yb,yarg)] g [] [] (.f v [] []) D (λz hz f=>by
    rw[List.mem_singleton.1 hz];exact hD _ hv2 f) rfl rfl (by omega) (by simp)
   have hwl:=dC D fs' [(yopc,yto,ya,yb,yarg)]
   change a7 _ _ _ [.o 84 2 (fH D fs' [(yopc,yto,ya,yb,yarg)]).length 0 (kC (fH D fs' [(yopc,yto,ya,yb,yarg)]))] at hwo
   generalize fH D fs' [(yopc,yto,ya,yb,yarg)]=wfs at hwo hwl key hs
   have hlim:(wfs.length+more.length)*2<1099511627776/\(wfs.length+more.length)*16<=140737488355328/\wfs.length+more.length<=9223372036854775807:=by omega
   have hlio:(out.length+1)*5<1099511627776/\(out.length+1)*40<=140737488355328/\out.length+1<=9223372036854775807:=by omega
   repeat (first|(with_reducible refine GA.go aa rfl ?_)|simp only[hlim.1,hlim.2.1,hlim.2.2,hlio.1,hlio.2.1,hlio.2.2,decide_true,go_sem,simprocAttr])
   refine ab [4] (fargs:=[.fs 2 fs'.length (kC fs'),.agg [.f g [] [],.f v [] []],.fs 5 [(yopc,yto,ya,yb,yarg)].length (cC [(yopc,yto,ya,yb,yarg)])]) ?_ hwo (by simp only[go_sem,simprocAttr]) ?_
   ·refine .cons (.rfl (by rfl)) (.cons (.rfl (by rfl)) (.cons ?_ .nil))
    refine Cv.sl (x:=_) (by simp) (by simp only[go_sem,simprocAttr]<;>rfl) (by simp) (by simp) (by simp) (λi j hi hj=>?_) (λi j hi hj=>by rcases bZ hj with rfl|rfl|rfl|rfl|rfl<;>rfl)
    obtain rfl:i=0:=by simpa using hi
    rw[<-hy5 j hj]
    rcases bZ hj with rfl|rfl|rfl|rfl|rfl<;>simp only[go_sem,simprocAttr]
   repeat (first|(with_reducible refine GA.go aa rfl ?_)|simp only[hlim.1,hlim.2.1,hlim.2.2,hlio.1,hlio.2.1,hlio.2.2,decide_true,go_sem,simprocAttr])
   refine⟨_,_,_,?_,Wk.mk [2,8,0] [6] ?_ ?_ ?_,k+1,_,rfl,by omega,key,hs,rfl,rfl⟩
   ·omega
   ·simp only[aP,aR,go_sem,simprocAttr]
    repeat' refine ae ?_ ?_
    all_goals first|exact bB|skip
    refine Wv.cv (Cv.os (x:=_) (by simp) (by simp only[go_sem,simprocAttr]<;>rfl) (by simp only[go_sem,simprocAttr]<;>omega) (λi j hi hj=>?_) (λi j hi hj=>fZ _ _ _ hj))
    rw[f8 hj hi (by omega),aX i j hj]
    unfold kC
    by_cases hw:wfs.length<=i
    ·rw[if_pos hw]
     simp only[List.getD_eq_getElem?_getD,List.getElem?_append_right hw]
    ·rw[if_neg hw]
     simp only[List.getD_eq_getElem?_getD,List.getElem?_append_left (Nat.lt_of_not_le hw)]
   ·rw[show(out++[(yopc,yto,ya,yb,yarg)]).length=out.length+1 from by simp]
    refine .cons rfl (.k1) (.cons rfl (.snoc (by simp only[go_sem,simprocAttr]<;>rfl) (by simp) (by rfl) rfl (by decide) (by omega) (λi j hi _=>by unfold cC;rw[aK hi]) (λj hj=>by
     unfold cC
     rw[aL]
     exact(hy5 j hj).symm) (λi j _ hj=>by rcases bZ hj with rfl|rfl|rfl|rfl|rfl<;>rfl)) (.cons rfl (.ls) .nil))
   ·simp
  unfold eU at hsw
  repeat (first|(with_reducible refine GA.go aa rfl ?_)|simp only[go_sem,simprocAttr])
  refine⟨λh1=>?_,λh1=>?_⟩
  ·rw[if_pos h1] at hsw
   injection hsw with hsw
   injection hsw with e1 e2
   subst e1 e2
   have hlo:op.length+1<1099511627776/\(op.length+1)*24<=140737488355328/\op.length+1<=9223372036854775807:=by omega
   repeat (first|(with_reducible refine GA.go aa rfl ?_)|simp only[hlo.1,hlo.2.1,hlo.2.2,decide_true,go_sem,simprocAttr])
   refine Wk.mk [4,6,1,0] [] ?_ ?_ ?_
   ·simp only[aP,aR,go_sem,simprocAttr]
    repeat' refine ae ?_ ?_
    all_goals first|exact bB|skip
   ·refine .cons rfl (.ls) (.cons rfl (.snoc (by simp only[go_sem,simprocAttr]<;>rfl) (by simp) (by rfl) rfl (by decide) (by omega) (λi j hi _=>iP _ _ _ _ hi) (λj hj=>by
     cases Nat.lt_one_iff.1 hj
     exact jV _ _ _) (λi j _ _=>rfl)) (.cons rfl (.k5) (.cons rfl (.ls) .nil)))
   ·simp
  rw[if_neg h1] at hsw
  repeat (first|(with_reducible refine GA.go aa rfl ?_)|simp only[go_sem,simprocAttr])
  refine⟨λh2=>?_,λh2=>?_⟩
  ·rw[if_pos h2] at hsw
   cases op with
   |nil=>cases hsw
   |cons t r=>
   simp only at hsw
   injection hsw with hsw
   injection hsw with e1 e2
   subst e1 e2
   have hrl:r.length<=k:=by simp only[List.length_cons] at hi2;omega
   have hsub:((r.length+1:Nat):Int)-1=(r.length:Int):=by omega
   have hz0:(0:Int)<=(r.length:Int):=by omega
   have hz1:(r.length:Int)<((r.length+1:Nat):Int):=by omega
   have hz2:r.length<r.length+1:=by omega
   have hg:(ar 82 1 (r.length+1) 0 (vo (t::r))).get r.length= .fs 2 t.length (kC t):=by
    rw[bX];exact jV _ _ _
   repeat (first|(with_reducible refine GA.go aa rfl ?_)|simp only[hsub,hz0,hz1,hz2,hg,Nat.le_refl,go_sem,simprocAttr])
   refine Wk.mk [4,2,1,0] [] ?_ ?_ ?_
   ·simp only[aP,aR,go_sem,simprocAttr]
    repeat' refine ae ?_ ?_
    all_goals first|exact bB|skip
   ·refine .cons rfl (.ls) (.cons rfl (.put (n:=r.length+1) (q:=r.length) (by simp only[go_sem,simprocAttr]<;>rfl) (by simp) rfl hz2 rfl (by decide) (by omega) (λi j h hj=>?_) (λi j h hj=>rfl)) (.cons rfl (.k5) (.cons rfl (.ls) .nil)))
    cases Nat.lt_one_iff.1 hj
    by_cases e:i=r.length
    ·rw[if_pos e,e];exact(jV _ _ _).symm
    ·rw[if_neg e,iP _ _ _ _ (by omega),iP _ _ _ _ (by omega)]
   ·simp
  rw[if_neg h2] at hsw
  have hkp:k<pt.length:=by omega
  have hkpi:(k:Int)<(pt.length:Int):=by omega
  repeat (first|(with_reducible refine GA.go aa rfl ?_)|simp only[go_sem,simprocAttr])
  refine⟨λh3=>?_,λh3=>?_⟩
  ·rw[if_pos h3] at hsw
   split at hsw
   rotate_left
   ·cases hsw
   rename_i hrg
   obtain⟨q,hq⟩:∃q:Nat,pt.getD k 0=(q:Int):=⟨(pt.getD k 0).toNat,by omega⟩
   rw[hq] at hrg hsw
   rw[Int.toNat_natCast] at hsw
   have hql:q-k=((cs.take q).drop k).length:=by rw[List.length_drop,List.length_take];omega
   have hwo:=gk fs ((cs.take q).drop k) g [] [] (.f v [] []) D (λz hz f=>hD z (hok z (List.mem_of_mem_take (List.mem_of_mem_drop hz))) f) rfl rfl (by omega) (by rw[<-hql];omega)
   have hwl:=dC D fs ((cs.take q).drop k)
   change a7 _ _ _ [.o 84 2 (fH D fs ((cs.take q).drop k)).length 0 (kC (fH D fs ((cs.take q).drop k)))] at hwo
   generalize fH D fs ((cs.take q).drop k)=wfs at hwo hwl hsw
   injection hsw with hsw
   injection hsw with e1 e2
   subst e1 e2
   have hpk:iC .i64 pt k 0= .n .i64 (q:Int):=by unfold iC;rw[hq]
   have hq0:(0:Int)<=(q:Int):=by omega
   have hq1:(k:Int)<=(q:Int):=hrg.1
   have hq2:(q:Int)<=(cs.length:Int):=hrg.2
   repeat (first|(with_reducible refine GA.go aa rfl ?_)|simp only[h0,hkpi,hpk,hq0,hq1,hq2,go_sem,simprocAttr])
   rw[hql]
   refine ab [] (fargs:=[.fs 2 fs.length (kC fs),.agg [.f g [] [],.f v [] []],.fs 5 ((cs.take q).drop k).length (cC ((cs.take q).drop k))]) ?_ hwo (by simp only[go_sem,simprocAttr]) ?_
   ·refine .cons (.rfl (by rfl)) (.cons (.rfl (by rfl)) (.cons (.fs (λi j hi hj=>?_)) .nil))
    unfold cC
    rw[List.getD_eq_getElem?_getD,List.getD_eq_getElem?_getD,List.getElem?_drop,List.getElem?_take_of_lt (by omega)]
   repeat (first|(with_reducible refine GA.go aa rfl ?_)|simp only[go_sem,simprocAttr])
   refine Wk.mk [4,2,1,0] [5] ?_ ?_ ?_
   ·simp only[aP,aR,go_sem,simprocAttr]
    repeat' refine ae ?_ ?_
    all_goals first|exact bB|skip
    exact Wv.cv (Cv.own (ty:=84) (z:=0) (by simp) (by simp only[go_sem,simprocAttr]) (λi j _ hj=>fZ _ _ _ hj))
   ·refine .cons rfl (.ls) (.cons rfl (.k1) (.cons rfl (.k5) (.cons rfl (.ls) .nil)))
   ·simp
  rw[if_neg h3] at hsw
  by_cases h4:opc=31
  ·rw[if_pos h4] at hsw
   subst h4
   split at hsw
   rotate_left
   ·cases hsw
   rename_i hrg
   obtain⟨q,hq⟩:∃q:Nat,pt.getD k 0=(q:Int):=⟨(pt.getD k 0).toNat,by omega⟩
   rw[hq] at hrg hsw
   rw[Int.toNat_natCast] at hsw
   have hpk:iC .i64 pt k 0= .n .i64 (q:Int):=by unfold iC;rw[hq]
   have hq0:(0:Int)<=(q:Int):=by omega
   have hq1:(q:Int)<=(k:Int):=hrg.2
   have hq2:(q:Int)<(cs.length:Int):=by omega
   have hq3:(k:Int)<=(cs.length:Int):=by omega
   have hcq:cC cs q 0= .n .i64 (cs.getD q dt).1:=iu cs q
   repeat (first|(with_reducible refine GA.go aa rfl ?_)|simp only[h0,hkpi,hpk,hq0,hq1,hq2,hcq,decide_true,go_sem,simprocAttr])
   refine⟨λh5=>?_,λh5=>?_⟩
   ·rw[if_pos h5] at hsw
    have hql:k-q=((cs.take k).drop q).length:=by rw[List.length_drop,List.length_take];omega
    have hwo:=gk fs ((cs.take k).drop q) g [] [] (.f v [] []) D (λz hz f=>hD z (hok z (List.mem_of_mem_take (List.mem_of_mem_drop hz))) f) rfl rfl (by omega) (by rw[<-hql];omega)
    have hwl:=dC D fs ((cs.take k).drop q)
    change a7 _ _ _ [.o 84 2 (fH D fs ((cs.take k).drop q)).length 0 (kC (fH D fs ((cs.take k).drop q)))] at hwo
    generalize fH D fs ((cs.take k).drop q)=wfs at hwo hwl hsw
    injection hsw with hsw
    injection hsw with e1 e2
    subst e1 e2
    repeat (first|(with_reducible refine GA.go aa rfl ?_)|simp only[h0,hkpi,hpk,hq0,hq1,hq2,hq3,go_sem,simprocAttr])
    rw[hql]
    refine ab [] (fargs:=[.fs 2 fs.length (kC fs),.agg [.f g [] [],.f v [] []],.fs 5 ((cs.take k).drop q).length (cC ((cs.take k).drop q))]) ?_ hwo (by simp only[go_sem,simprocAttr]) ?_
    ·refine .cons (.rfl (by rfl)) (.cons (.rfl (by rfl)) (.cons (.fs (λi j hi hj=>?_)) .nil))
     unfold cC
     rw[List.getD_eq_getElem?_getD,List.getD_eq_getElem?_getD,List.getElem?_drop,List.getElem?_take_of_lt (by omega)]
    repeat (first|(with_reducible refine GA.go aa rfl ?_)|simp only[go_sem,simprocAttr])
    refine Wk.mk [4,2,1,0] [5] ?_ ?_ ?_
    ·simp only[aP,aR,go_sem,simprocAttr]
     repeat' refine ae ?_ ?_
     all_goals first|exact bB|skip
     exact Wv.cv (Cv.own (ty:=84) (z:=0) (by simp) (by simp only[go_sem,simprocAttr]) (λi j _ hj=>fZ _ _ _ hj))
    ·refine .cons rfl (.ls) (.cons rfl (.k1) (.cons rfl (.k5) (.cons rfl (.ls) .nil)))
    ·simp
   ·rw[if_neg h5] at hsw
    cases op with
    |nil=>cases hsw
    |cons t r=>
    simp only at hsw
    have hrl:r.length<=k:=by simp only[List.length_cons] at hi2;omega
    have htl:=hi5 t (List.mem_cons_self ..)
    have hbo:=uc fs t (by omega) (by omega)
    have hbl:=jZ (λf g=>decide (f.1=g.1)&&decide (f.2=g.2)) fs t
    change a7 _ _ _ [.o 84 2 (qh (λf g=>decide (f.1=g.1)&&decide (f.2=g.2)) fs t).length 0 (kC (qh (λf g=>decide (f.1=g.1)&&decide (f.2=g.2)) fs t))] at hbo
    generalize qh (λf g=>decide (f.1=g.1)&&decide (f.2=g.2)) fs t=bfs at hbo hbl hsw
    injection hsw with hsw
    injection hsw with e1 e2
    subst e1 e2
    have hsub:((r.length+1:Nat):Int)-1=(r.length:Int):=by omega
    have hz0:(0:Int)<=(r.length:Int):=by omega
    have hz1:(r.length:Int)<((r.length+1:Nat):Int):=by omega
    have hz3:(r.length:Int)<=((r.length+1:Nat):Int):=by omega
    have hz2:r.length<r.length+1:=by omega
    have hg:(ar 82 1 (r.length+1) 0 (vo (t::r))).get r.length= .fs 2 t.length (kC t):=by
     rw[bX];exact jV _ _ _
    repeat (first|(with_reducible refine GA.go aa rfl ?_)|simp only[hsub,hz0,hz1,hz2,hz3,hg,Int.le_refl,go_sem,simprocAttr])
    refine ab [] (.cons (.rfl (by rfl)) (.cons (.rfl (by rfl)) .nil)) hbo (by simp only[go_sem,simprocAttr]) ?_
    repeat (first|(with_reducible refine GA.go aa rfl ?_)|simp only[go_sem,simprocAttr])
    refine Wk.mk [4,2,1,0] [5] ?_ ?_ ?_
    ·simp only[aP,aR,go_sem,simprocAttr]
     repeat' refine ae ?_ ?_
     all_goals first|exact bB|skip
     exact Wv.cv (Cv.own (ty:=84) (z:=0) (by simp) (by simp only[go_sem,simprocAttr]) (λi j _ hj=>fZ _ _ _ hj))
    ·refine .cons rfl (.ls) (.cons rfl (.pop (n:=r.length+1) (by simp only[go_sem,simprocAttr]<;>rfl) rfl (by decide) (by omega) (λi j hi _=>iP _ _ _ _ hi) (λi j _ hj=>rfl)) (.cons rfl (.k5) (.cons rfl (.ls) .nil)))
    ·simp
  rw[if_neg h4] at hsw
  injection hsw with hsw
  injection hsw with e1 e2
  subst e1 e2
  repeat (first|(with_reducible refine GA.go aa rfl ?_)|simp only[h4,decide_false,go_sem,simprocAttr])
  refine Wk.mk [4,2,1,0] [] ?_ ?_ ?_
  ·simp only[aP,aR,go_sem,simprocAttr]
   repeat' refine ae ?_ ?_
   all_goals first|exact bB|skip
  ·refine .cons rfl (.ls) (.cons rfl (.k1) (.cons rfl (.k5) (.cons rfl (.ls) .nil)))
  ·simp
 ·have hkn:k=cs.length:=by omega
  subst hkn
  rw[List.drop_length,bS] at hs
  cases hs
  repeat (first|(with_reducible refine GA.go aa rfl ?_)|simp only[go_sem,simprocAttr])
  refine⟨[_],rfl,.o (x:=_) (by simp only[go_sem,simprocAttr];rfl) (by rfl) (by rfl) (by rfl) (by decide) (Nat.le_refl _) (Nat.le_refl _) (λi j _ hj=>aX i j hj) (λi j _ hj=>bj i hj) rfl .nil⟩
theorem sB (la:List (Bool×Int)) (hla:la.length<1000000) (regs par:Int) (cs ds:List In) (hcs:cs.length<1000000) (hl:cs.length=ds.length):a7 Tryz.prog 12 [ag la.length (aC la) regs par cs,ag la.length (aC la) regs par ds] [.v (.b (decide (cs=ds)))]:=by
 refine ah aa wO ⟨by simp,by decide⟩ ?_
 have hsa:=gn la la hla rfl
 rw[decide_eq_true rfl] at hsa
 have hll:(cs.length:Int)=(ds.length:Int):=by omega
 simp only[aW,ag]
 repeat (first|(with_reducible refine GA.go aa rfl ?_)|simp only[decide_true,go_sem,simprocAttr])
 refine ab [] (.cons (.rfl (by rfl)) (.cons (.rfl (by rfl)) .nil)) hsa (by simp only[go_sem,simprocAttr]) ?_
 repeat (first|(with_reducible refine GA.go aa rfl ?_)|simp only[hll,decide_true,go_sem,simprocAttr])
 refine GA.loop (I:=λmm e H=>∃k:Nat,mm=cs.length-k/\k<=cs.length/\decide (cs=ds)=decide (cs.drop k=ds.drop k)/\e=aI [(2,.p 0 0),(3,.p 1 0),(5,.n .i64 k)]/\H=am [ax 0 25 [.fs 2 la.length (aC la),.n .i64 regs,.n .i64 par,.fs 5 ds.length (cC ds)],ax 0 25 [.fs 2 la.length (aC la),.n .i64 regs,.n .i64 par,.fs 5 cs.length (cC cs)]]) (Wk.mk [1,0] [] ?_ ?_ ?_) ⟨0,rfl,by omega,rfl,rfl,rfl⟩ ?_
 ·simp only[aP,aR,go_sem,simprocAttr]
  repeat' refine ae ?_ ?_
  all_goals first|exact bB|skip
 ·exact .cons rfl (.ls) (.cons rfl (.ls) .nil)
 ·simp
 rintro mm e H ⟨k,rfl,hk,hs,rfl,rfl⟩
 repeat (first|(with_reducible refine GA.go aa rfl ?_)|simp only[go_sem,simprocAttr])
 refine⟨λh=>?_,λh=>?_⟩
 ·have h0:(0:Int)<=(k:Int):=by omega
  have hk':k<cs.length:=by omega
  have hkm:k<ds.length:=by omega
  have h2:(k:Int)<(ds.length:Int):=by omega
  repeat (first|(with_reducible refine GA.go aa rfl ?_)|simp only[h0,h,h2,iu,kH,lX,lW,lu,mT,jQ,gw,mL,SH.row,decide_true,go_sem,simprocAttr])
  generalize hx:cs.getD k (0,0,0,0,0)=x
  generalize hy:ds.getD k (0,0,0,0,0)=y
  rw[bJ (d:=(0,0,0,0,0)) hk',bJ (d:=(0,0,0,0,0)) hkm,hx,hy] at hs
  have hxy:(decide (x.1=y.1)&&(decide (x.2.1=y.2.1)&&(decide (x.2.2.1=y.2.2.1)&&(decide (x.2.2.2.1=y.2.2.2.1)&&decide (x.2.2.2.2=y.2.2.2.2)))))=decide (x=y):=by
   obtain⟨a1,a2,a3,a4,a5⟩:=x
   obtain⟨b1,b2,b3,b4,b5⟩:=y
   simp only[Prod.mk.injEq,Bool.decide_and]
  rw[hxy]
  refine⟨λh1=>?_,λh1=>?_⟩
  ·have hne:x≠y:=of_decide_eq_false h1
   have hf:decide (cs=ds)=false:=by
    rw[hs]
    simp only[decide_eq_false_iff_not,List.cons.injEq,not_and]
    exact λhe=>(hne he).elim
   repeat (first|(with_reducible refine GA.go aa rfl ?_)|simp only[go_sem,simprocAttr])
   exact ai (by rw[hf]) rfl
  ·have he:x=y:=(by
    have h2:=h1
    first
     |exact of_decide_eq_true h2
     |(rw[hxy] at h2;exact of_decide_eq_true h2)
     |(obtain⟨a1,a2,a3,a4,a5⟩:=x;obtain⟨b1,b2,b3,b4,b5⟩:=y;simp at h2;simp only[Prod.mk.injEq];exact h2))
   have hs2:decide (cs=ds)=decide (cs.drop (k+1)=ds.drop (k+1)):=by
    rw[hs,he]
    simp
   repeat (first|(with_reducible refine GA.go aa rfl ?_)|simp only[go_sem,simprocAttr])
   refine⟨_,_,_,?_,Wk.mk [1,0] [] ?_ ?_ ?_,k+1,rfl,by omega,hs2,rfl,rfl⟩
   ·omega
   ·simp only[aP,aR,go_sem,simprocAttr]
    repeat' refine ae ?_ ?_
    all_goals first|exact bB|skip
   ·exact .cons rfl (.ls) (.cons rfl (.ls) .nil)
   ·simp
 ·have:k=cs.length:=by omega
  rw[this,List.drop_length,hl,List.drop_length] at hs
  repeat (first|(with_reducible refine GA.go aa rfl ?_)|simp only[go_sem,simprocAttr])
  refine ai (by rw[hs];rfl) rfl
theorem kb (la:List (Bool×Int)) (hla:la.length<1000000) (regs par:Int) (cs ds:List In) (hcs:cs.length<1000000):a7 Tryz.prog 12 [ag la.length (aC la) regs par cs,ag la.length (aC la) regs par ds] [.v (.b (decide (cs=ds)))]:=by
 by_cases hl:cs.length=ds.length
 ·exact sB la hla regs par cs ds hcs hl
 have hll:¬((cs.length:Int)=(ds.length:Int)):=by omega
 have hf:decide (cs=ds)=false:=by
  simp only[decide_eq_false_iff_not]
  intro e
  exact hl (by rw[e])
 refine ah aa wO ⟨by simp,by decide⟩ ?_
 have hsa:=gn la la hla rfl
 rw[decide_eq_true rfl] at hsa
 simp only[aW,ag]
 repeat (first|(with_reducible refine GA.go aa rfl ?_)|simp only[decide_true,go_sem,simprocAttr])
 refine ab [] (.cons (.rfl (by rfl)) (.cons (.rfl (by rfl)) .nil)) hsa (by simp only[go_sem,simprocAttr]) ?_
 repeat (first|(with_reducible refine GA.go aa rfl ?_)|simp only[hll,decide_false,go_sem,simprocAttr])
 exact ai (by rw[hf]) rfl
/-! compactorlaw24.awake-/
abbrev Df:List AO:=
 [o1 0 (.mv (.c (.b false)))]
abbrev De:List AO:=
 [⟨some 15,none,.cl (.c (.f 23 [] [])) [(.c (.n .i64 0)),(.c (.n .i64 0)),(.c (.n .i64 (-1))),(.c (.n .i64 (-1))),(.c (.n .u32 2))]⟩,⟨some 16,none,.cl (.c (.f 23 [] [])) [(.c (.n .i64 0)),(.c (.n .i64 1)),(.c (.n .i64 (-1))),(.c (.n .i64 (-1))),(.c (.n .u32 3))]⟩,⟨some 17,none,.cl (.c (.f 23 [] [])) [(.c (.n .i64 8)),(.c (.n .i64 0)),(.c (.n .i64 0)),(.c (.n .i64 1)),(.c (.n .u32 0))]⟩,⟨some 18,none,.cl (.c (.f 23 [] [])) [(.c (.n .i64 34)),(.c (.n .i64 (-1))),(.c (.n .i64 0)),(.c (.n .i64 (-1))),(.c (.n .u32 0))]⟩,o1 19 (.bs 37 5 4 [.n .i64 0,.n .i64 0,.n .i64 0,.n .i64 0,.n .u32 0,.n .i64 0,.n .i64 0,.n .i64 0,.n .i64 0,.n .u32 0,.n .i64 0,.n .i64 0,.n .i64 0,.n .i64 0,.n .u32 0,.n .i64 0,.n .i64 0,.n .i64 0,.n .i64 0,.n .u32 0] [(0,5,(.t 15)),(5,5,(.t 16)),(10,5,(.t 17)),(15,5,(.t 18))]),⟨some 20,none,.cl (.c (.f 22 [] [])) [(.t 19)]⟩,o1 1 (.al 25 [.sl0,.n .i64 0,.n .i64 0,.sl0]),⟨none,none,.ap (.st 4 (.t 1) (.t 20))⟩]
abbrev Dd:List AO:=
 [o1 22 (.ld 4 true (.t 1)),⟨some 23,none,.cl (.c (.f 10 [] [])) [(.t 22)]⟩,o1 21 (.mv (.t 23)),o1 24 (.ext 0 (.t 21)),o1 25 (.ext 1 (.t 21)),o1 2 (.al 25 [.sl0,.n .i64 0,.n .i64 0,.sl0]),⟨none,none,.ap (.st 4 (.t 2) (.t 24))⟩,o1 3 (.mv (.t 25))]
abbrev Dc:List AO:=
 [o1 27 (.ld 4 true (.t 2)),⟨some 28,none,.cl (.c (.f 17 [] [])) [(.t 27)]⟩,o1 26 (.mv (.t 28)),o1 29 (.ext 0 (.t 26)),o1 30 (.ext 1 (.t 26)),o1 4 (.al 25 [.sl0,.n .i64 0,.n .i64 0,.sl0]),⟨none,none,.ap (.st 4 (.t 4) (.t 29))⟩,o1 5 (.mv (.t 30))]
abbrev Db:List AO:=
 [⟨some 31,none,.cl (.c (.f 23 [] [])) [(.c (.n .i64 0)),(.c (.n .i64 0)),(.c (.n .i64 (-1))),(.c (.n .i64 (-1))),(.c (.n .u32 5))]⟩,o1 6 (.al 37 [.n .i64 0,.n .i64 0,.n .i64 0,.n .i64 0,.n .u32 0]),⟨none,none,.ap (.st 5 (.t 6) (.t 31))⟩]
abbrev Dh:List (Nat×AO):=
 [(2,(o1 32 (.mv (.t 3)))),(2,(o1 33 (.mv (.t 5)))),(2,(o1 34 (.bin .add (.t 32) (.t 33)))),(2,(o1 35 (.bin .neq (.t 34) (.c (.n .i64 0))))),(2,(o1 36 (.mv (.t 35)))),(2,⟨some 38,some (36,false),.ap (.fa 3 (.t 1))⟩),(2,⟨some 42,some (36,false),.ap (.fa 3 (.t 1))⟩),(2,⟨some 47,some (36,false),.ap (.fa 3 (.t 1))⟩),(1,⟨some 37,some (36,false),.ap (.ld 4 true (.t 2))⟩),(1,⟨some 39,some (36,false),.ap (.ld 1 false (.t 38))⟩),(2,⟨some 40,some (36,false),.ap (.ia 5 (.t 39) (.c (.n .i64 0)))⟩),(1,⟨some 41,some (36,false),.ap (.ld 5 true (.t 40))⟩),(1,⟨some 43,some (36,false),.ap (.ld 1 false (.t 42))⟩),(2,⟨some 44,some (36,false),.ap (.ia 5 (.t 43) (.c (.n .i64 1)))⟩),(1,⟨some 45,some (36,false),.ap (.ld 5 true (.t 44))⟩),(1,⟨some 46,some (36,false),.ap (.ld 5 true (.t 6))⟩),(1,⟨some 48,some (36,false),.ap (.ld 1 false (.t 47))⟩),(2,⟨some 49,some (36,false),.ap (.ia 5 (.t 48) (.c (.n .i64 3)))⟩),(1,⟨some 50,some (36,false),.ap (.ld 5 true (.t 49))⟩),(0,⟨some 51,some (36,false),.ap (.bs 37 5 4 [.n .i64 0,.n .i64 0,.n .i64 0,.n .i64 0,.n .u32 0,.n .i64 0,.n .i64 0,.n .i64 0,.n .i64 0,.n .u32 0,.n .i64 0,.n .i64 0,.n .i64 0,.n .i64 0,.n .u32 0,.n .i64 0,.n .i64 0,.n .i64 0,.n .i64 0,.n .u32 0] [(0,5,(.t 41)),(5,5,(.t 45)),(10,5,(.t 46)),(15,5,(.t 50))])⟩),(0,⟨some 52,some (36,false),.cl (.c (.f 22 [] [])) [(.t 51)]⟩),(0,⟨some 53,some (36,false),.cl (.c (.f 12 [] [])) [(.t 37),(.t 52)]⟩),(2,⟨some 54,some (36,false),.ap (.un .not (.t 53))⟩),(2,(o1 55 (.pick (.t 36) (.c (.b true)) (.t 54)))),(2,(o1 56 (.mv (.t 55)))),(2,⟨some 59,some (56,false),.ap (.fa 3 (.t 1))⟩),(1,⟨some 57,some (56,false),.ap (.ld 4 true (.t 4))⟩),(1,⟨some 58,some (56,false),.ap (.ld 5 true (.t 6))⟩),(1,⟨some 60,some (56,false),.ap (.ld 1 false (.t 59))⟩),(2,⟨some 61,some (56,false),.ap (.ia 5 (.t 60) (.c (.n .i64 3)))⟩),(1,⟨some 62,some (56,false),.ap (.ld 5 true (.t 61))⟩),(0,⟨some 63,some (56,false),.ap (.bs 37 5 2 [.n .i64 0,.n .i64 0,.n .i64 0,.n .i64 0,.n .u32 0,.n .i64 0,.n .i64 0,.n .i64 0,.n .i64 0,.n .u32 0] [(0,5,(.t 58)),(5,5,(.t 62))])⟩),(0,⟨some 64,some (56,false),.cl (.c (.f 22 [] [])) [(.t 63)]⟩),(0,⟨some 65,some (56,false),.cl (.c (.f 12 [] [])) [(.t 57),(.t 64)]⟩),(2,⟨some 66,some (56,false),.ap (.un .not (.t 65))⟩),(2,(o1 67 (.pick (.t 56) (.c (.b true)) (.t 66))))]
abbrev Da:List AO:=
 [o1 0 (.mv (.c (.b false)))]
abbrev C9:List AO:=
 [⟨some 68,none,.cl (.c (.f 23 [] [])) [(.c (.n .i64 32)),(.c (.n .i64 1)),(.c (.n .i64 (-1))),(.c (.n .i64 (-1))),(.c (.n .u32 0))]⟩,⟨some 69,none,.cl (.c (.f 23 [] [])) [(.c (.n .i64 36)),(.c (.n .i64 2)),(.c (.n .i64 1)),(.c (.n .i64 (-1))),(.c (.n .u32 0))]⟩,⟨some 70,none,.cl (.c (.f 23 [] [])) [(.c (.n .i64 34)),(.c (.n .i64 (-1))),(.c (.n .i64 2)),(.c (.n .i64 (-1))),(.c (.n .u32 0))]⟩,⟨some 71,none,.cl (.c (.f 23 [] [])) [(.c (.n .i64 34)),(.c (.n .i64 (-1))),(.c (.n .i64 1)),(.c (.n .i64 (-1))),(.c (.n .u32 0))]⟩,o1 72 (.bs 37 5 4 [.n .i64 0,.n .i64 0,.n .i64 0,.n .i64 0,.n .u32 0,.n .i64 0,.n .i64 0,.n .i64 0,.n .i64 0,.n .u32 0,.n .i64 0,.n .i64 0,.n .i64 0,.n .i64 0,.n .u32 0,.n .i64 0,.n .i64 0,.n .i64 0,.n .i64 0,.n .u32 0] [(0,5,(.t 68)),(5,5,(.t 69)),(10,5,(.t 70)),(15,5,(.t 71))]),⟨some 73,none,.cl (.c (.f 22 [] [])) [(.t 72)]⟩,o1 7 (.al 25 [.sl0,.n .i64 0,.n .i64 0,.sl0]),⟨none,none,.ap (.st 4 (.t 7) (.t 73))⟩]
abbrev C8:List AO:=
 [o1 75 (.ld 4 true (.t 7)),⟨some 76,none,.cl (.c (.f 13 [] [])) [(.t 75)]⟩,o1 74 (.mv (.t 76)),o1 77 (.ext 0 (.t 74)),o1 78 (.ext 1 (.t 74)),o1 8 (.al 25 [.sl0,.n .i64 0,.n .i64 0,.sl0]),⟨none,none,.ap (.st 4 (.t 8) (.t 77))⟩,o1 3 (.mv (.t 78))]
abbrev C7:List AO:=
 [o1 80 (.ld 4 true (.t 8)),⟨some 81,none,.cl (.c (.f 17 [] [])) [(.t 80)]⟩,o1 79 (.mv (.t 81)),o1 82 (.ext 0 (.t 79)),o1 83 (.ext 1 (.t 79)),o1 9 (.al 25 [.sl0,.n .i64 0,.n .i64 0,.sl0]),⟨none,none,.ap (.st 4 (.t 9) (.t 82))⟩,o1 5 (.mv (.t 83))]
abbrev xj:List AO:=
 [o1 84 (.fa 3 (.t 7)),o1 85 (.ld 1 false (.t 84)),o1 86 (.ia 5 (.t 85) (.c (.n .i64 3))),o1 87 (.ld 5 true (.t 86)),o1 10 (.al 37 [.n .i64 0,.n .i64 0,.n .i64 0,.n .i64 0,.n .u32 0]),⟨none,none,.ap (.st 5 (.t 10) (.t 87))⟩]
abbrev xm:List (Nat×AO):=
 [(2,(o1 88 (.mv (.t 3)))),(2,(o1 89 (.mv (.t 5)))),(2,(o1 90 (.bin .add (.t 88) (.t 89)))),(2,(o1 91 (.bin .neq (.t 90) (.c (.n .i64 0))))),(2,(o1 92 (.mv (.t 91)))),(2,⟨some 94,some (92,false),.ap (.fa 3 (.t 7))⟩),(2,⟨some 98,some (92,false),.ap (.fa 3 (.t 7))⟩),(1,⟨some 93,some (92,false),.ap (.ld 4 true (.t 8))⟩),(1,⟨some 95,some (92,false),.ap (.ld 1 false (.t 94))⟩),(2,⟨some 96,some (92,false),.ap (.ia 5 (.t 95) (.c (.n .i64 0)))⟩),(1,⟨some 97,some (92,false),.ap (.ld 5 true (.t 96))⟩),(1,⟨some 99,some (92,false),.ap (.ld 1 false (.t 98))⟩),(2,⟨some 100,some (92,false),.ap (.ia 5 (.t 99) (.c (.n .i64 1)))⟩),(1,⟨some 101,some (92,false),.ap (.ld 5 true (.t 100))⟩),(1,⟨some 102,some (92,false),.ap (.ld 5 true (.t 10))⟩),(1,⟨some 103,some (92,false),.ap (.ld 5 true (.t 10))⟩),(0,⟨some 104,some (92,false),.ap (.bs 37 5 4 [.n .i64 0,.n .i64 0,.n .i64 0,.n .i64 0,.n .u32 0,.n .i64 0,.n .i64 0,.n .i64 0,.n .i64 0,.n .u32 0,.n .i64 0,.n .i64 0,.n .i64 0,.n .i64 0,.n .u32 0,.n .i64 0,.n .i64 0,.n .i64 0,.n .i64 0,.n .u32 0] [(0,5,(.t 97)),(5,5,(.t 101)),(10,5,(.t 102)),(15,5,(.t 103))])⟩),(0,⟨some 105,some (92,false),.cl (.c (.f 22 [] [])) [(.t 104)]⟩),(0,⟨some 106,some (92,false),.cl (.c (.f 12 [] [])) [(.t 93),(.t 105)]⟩),(2,⟨some 107,some (92,false),.ap (.un .not (.t 106))⟩),(2,(o1 108 (.pick (.t 92) (.c (.b true)) (.t 107)))),(2,(o1 109 (.mv (.t 108)))),(2,⟨some 111,some (109,false),.ap (.fa 3 (.t 7))⟩),(1,⟨some 110,some (109,false),.ap (.ld 4 true (.t 9))⟩),(1,⟨some 112,some (109,false),.ap (.ld 1 false (.t 111))⟩),(2,⟨some 113,some (109,false),.ap (.ia 5 (.t 112) (.c (.n .i64 0)))⟩),(1,⟨some 114,some (109,false),.ap (.ld 5 true (.t 113))⟩),(1,⟨some 115,some (109,false),.ap (.ld 5 true (.t 10))⟩),(1,⟨some 116,some (109,false),.ap (.ld 5 true (.t 10))⟩),(0,⟨some 117,some (109,false),.ap (.bs 37 5 3 [.n .i64 0,.n .i64 0,.n .i64 0,.n .i64 0,.n .u32 0,.n .i64 0,.n .i64 0,.n .i64 0,.n .i64 0,.n .u32 0,.n .i64 0,.n .i64 0,.n .i64 0,.n .i64 0,.n .u32 0] [(0,5,(.t 114)),(5,5,(.t 115)),(10,5,(.t 116))])⟩),(0,⟨some 118,some (109,false),.cl (.c (.f 22 [] [])) [(.t 117)]⟩),(0,⟨some 119,some (109,false),.cl (.c (.f 12 [] [])) [(.t 110),(.t 118)]⟩),(2,⟨some 120,some (109,false),.ap (.un .not (.t 119))⟩),(2,(o1 121 (.pick (.t 109) (.c (.b true)) (.t 120))))]
abbrev xi:List AO:=
 [o1 0 (.mv (.c (.b false)))]
abbrev xh:List AO:=
 [⟨some 122,none,.cl (.c (.f 23 [] [])) [(.c (.n .i64 32)),(.c (.n .i64 0)),(.c (.n .i64 (-1))),(.c (.n .i64 (-1))),(.c (.n .u32 0))]⟩,⟨some 123,none,.cl (.c (.f 23 [] [])) [(.c (.n .i64 32)),(.c (.n .i64 1)),(.c (.n .i64 (-1))),(.c (.n .i64 (-1))),(.c (.n .u32 0))]⟩,⟨some 124,none,.cl (.c (.f 23 [] [])) [(.c (.n .i64 8)),(.c (.n .i64 2)),(.c (.n .i64 0)),(.c (.n .i64 1)),(.c (.n .u32 0))]⟩,⟨some 125,none,.cl (.c (.f 23 [] [])) [(.c (.n .i64 8)),(.c (.n .i64 3)),(.c (.n .i64 0)),(.c (.n .i64 1)),(.c (.n .u32 0))]⟩,⟨some 126,none,.cl (.c (.f 23 [] [])) [(.c (.n .i64 34)),(.c (.n .i64 (-1))),(.c (.n .i64 3)),(.c (.n .i64 (-1))),(.c (.n .u32 0))]⟩,o1 127 (.bs 37 5 5 [.n .i64 0,.n .i64 0,.n .i64 0,.n .i64 0,.n .u32 0,.n .i64 0,.n .i64 0,.n .i64 0,.n .i64 0,.n .u32 0,.n .i64 0,.n .i64 0,.n .i64 0,.n .i64 0,.n .u32 0,.n .i64 0,.n .i64 0,.n .i64 0,.n .i64 0,.n .u32 0,.n .i64 0,.n .i64 0,.n .i64 0,.n .i64 0,.n .u32 0] [(0,5,(.t 122)),(5,5,(.t 123)),(10,5,(.t 124)),(15,5,(.t 125)),(20,5,(.t 126))]),⟨some 128,none,.cl (.c (.f 22 [] [])) [(.t 127)]⟩,o1 11 (.al 25 [.sl0,.n .i64 0,.n .i64 0,.sl0]),⟨none,none,.ap (.st 4 (.t 11) (.t 128))⟩]
abbrev xg:List AO:=
 [o1 130 (.ld 4 true (.t 11)),⟨some 131,none,.cl (.c (.f 15 [] [])) [(.t 130)]⟩,o1 129 (.mv (.t 131)),o1 132 (.ext 0 (.t 129)),o1 133 (.ext 1 (.t 129)),o1 12 (.al 25 [.sl0,.n .i64 0,.n .i64 0,.sl0]),⟨none,none,.ap (.st 4 (.t 12) (.t 132))⟩,o1 3 (.mv (.t 133))]
abbrev xf:List AO:=
 [o1 135 (.ld 4 true (.t 11)),⟨some 136,none,.cl (.c (.f 19 [] [])) [(.t 135)]⟩,o1 134 (.mv (.t 136)),o1 137 (.ext 0 (.t 134)),o1 138 (.ext 1 (.t 134)),o1 13 (.al 25 [.sl0,.n .i64 0,.n .i64 0,.sl0]),⟨none,none,.ap (.st 4 (.t 13) (.t 137))⟩,o1 5 (.mv (.t 138))]
abbrev xl:List (Nat×AO):=
 [(2,(o1 139 (.fa 3 (.t 11)))),(1,(o1 140 (.ld 1 false (.t 139)))),(2,(o1 141 (.ia 5 (.t 140) (.c (.n .i64 0))))),(1,(o1 142 (.ld 5 true (.t 141)))),(2,(o1 144 (.fa 3 (.t 11)))),(1,(o1 145 (.ld 1 false (.t 144)))),(2,(o1 146 (.ia 5 (.t 145) (.c (.n .i64 2))))),(1,(o1 147 (.ld 5 true (.t 146)))),(2,(o1 149 (.fa 3 (.t 11)))),(1,(o1 150 (.ld 1 false (.t 149)))),(2,(o1 151 (.ia 5 (.t 150) (.c (.n .i64 4))))),(1,(o1 152 (.ld 5 true (.t 151))))]
abbrev xe:AT:=
 (.alt ⟨some 143,none,.cl (.c (.f 23 [] [])) [(.c (.n .i64 36)),(.c (.n .i64 1)),(.c (.n .i64 0)),(.c (.n .i64 (-1))),(.c (.n .u32 0))]⟩ (.alt ⟨some 148,none,.cl (.c (.f 23 [] [])) [(.c (.n .i64 36)),(.c (.n .i64 3)),(.c (.n .i64 2)),(.c (.n .i64 (-1))),(.c (.n .u32 0))]⟩ (.alt (o1 153 (.bs 37 5 5 [.n .i64 0,.n .i64 0,.n .i64 0,.n .i64 0,.n .u32 0,.n .i64 0,.n .i64 0,.n .i64 0,.n .i64 0,.n .u32 0,.n .i64 0,.n .i64 0,.n .i64 0,.n .i64 0,.n .u32 0,.n .i64 0,.n .i64 0,.n .i64 0,.n .i64 0,.n .u32 0,.n .i64 0,.n .i64 0,.n .i64 0,.n .i64 0,.n .u32 0] [(0,5,(.t 142)),(5,5,(.t 143)),(10,5,(.t 147)),(15,5,(.t 148)),(20,5,(.t 152))])) (.alt ⟨some 154,none,.cl (.c (.f 22 [] [])) [(.t 153)]⟩ (.alt (o1 14 (.al 25 [.sl0,.n .i64 0,.n .i64 0,.sl0])) (.alt ⟨none,none,.ap (.st 4 (.t 14) (.t 154))⟩ .fin .none) .none) (.alt (o1 14 (.al 25 [.sl0,.n .i64 0,.n .i64 0,.sl0])) (.alt ⟨some 154,none,.cl (.c (.f 22 [] [])) [(.t 153)]⟩ (.alt ⟨none,none,.ap (.st 4 (.t 14) (.t 154))⟩ .fin .none) .none) .none)) (.alt (o1 14 (.al 25 [.sl0,.n .i64 0,.n .i64 0,.sl0])) (.alt (o1 153 (.bs 37 5 5 [.n .i64 0,.n .i64 0,.n .i64 0,.n .i64 0,.n .u32 0,.n .i64 0,.n .i64 0,.n .i64 0,.n .i64 0,.n .u32 0,.n .i64 0,.n .i64 0,.n .i64 0,.n .i64 0,.n .u32 0,.n .i64 0,.n .i64 0,.n .i64 0,.n .i64 0,.n .u32 0,.n .i64 0,.n .i64 0,.n .i64 0,.n .i64 0,.n .u32 0] [(0,5,(.t 142)),(5,5,(.t 143)),(10,5,(.t 147)),(15,5,(.t 148)),(20,5,(.t 152))])) (.alt ⟨some 154,none,.cl (.c (.f 22 [] [])) [(.t 153)]⟩ (.alt ⟨none,none,.ap (.st 4 (.t 14) (.t 154))⟩ .fin .none) .none) .none) .none)) (.alt (o1 14 (.al 25 [.sl0,.n .i64 0,.n .i64 0,.sl0])) (.alt ⟨some 148,none,.cl (.c (.f 23 [] [])) [(.c (.n .i64 36)),(.c (.n .i64 3)),(.c (.n .i64 2)),(.c (.n .i64 (-1))),(.c (.n .u32 0))]⟩ (.alt (o1 153 (.bs 37 5 5 [.n .i64 0,.n .i64 0,.n .i64 0,.n .i64 0,.n .u32 0,.n .i64 0,.n .i64 0,.n .i64 0,.n .i64 0,.n .u32 0,.n .i64 0,.n .i64 0,.n .i64 0,.n .i64 0,.n .u32 0,.n .i64 0,.n .i64 0,.n .i64 0,.n .i64 0,.n .u32 0,.n .i64 0,.n .i64 0,.n .i64 0,.n .i64 0,.n .u32 0] [(0,5,(.t 142)),(5,5,(.t 143)),(10,5,(.t 147)),(15,5,(.t 148)),(20,5,(.t 152))])) (.alt ⟨some 154,none,.cl (.c (.f 22 [] [])) [(.t 153)]⟩ (.alt ⟨none,none,.ap (.st 4 (.t 14) (.t 154))⟩ .fin .none) .none) .none) .none) .none)) (.alt (o1 14 (.al 25 [.sl0,.n .i64 0,.n .i64 0,.sl0])) (.alt ⟨some 143,none,.cl (.c (.f 23 [] [])) [(.c (.n .i64 36)),(.c (.n .i64 1)),(.c (.n .i64 0)),(.c (.n .i64 (-1))),(.c (.n .u32 0))]⟩ (.alt ⟨some 148,none,.cl (.c (.f 23 [] [])) [(.c (.n .i64 36)),(.c (.n .i64 3)),(.c (.n .i64 2)),(.c (.n .i64 (-1))),(.c (.n .u32 0))]⟩ (.alt (o1 153 (.bs 37 5 5 [.n .i64 0,.n .i64 0,.n .i64 0,.n .i64 0,.n .u32 0,.n .i64 0,.n .i64 0,.n .i64 0,.n .i64 0,.n .u32 0,.n .i64 0,.n .i64 0,.n .i64 0,.n .i64 0,.n .u32 0,.n .i64 0,.n .i64 0,.n .i64 0,.n .i64 0,.n .u32 0,.n .i64 0,.n .i64 0,.n .i64 0,.n .i64 0,.n .u32 0] [(0,5,(.t 142)),(5,5,(.t 143)),(10,5,(.t 147)),(15,5,(.t 148)),(20,5,(.t 152))])) (.alt ⟨some 154,none,.cl (.c (.f 22 [] [])) [(.t 153)]⟩ (.alt ⟨none,none,.ap (.st 4 (.t 14) (.t 154))⟩ .fin .none) .none) .none) .none) .none) .none))
abbrev xk:List (Nat×AO):=
 [(2,(o1 155 (.mv (.t 3)))),(2,(o1 156 (.mv (.t 5)))),(2,(o1 157 (.bin .add (.t 155) (.t 156)))),(2,(o1 158 (.bin .eql (.t 157) (.c (.n .i64 0))))),(2,(o1 159 (.mv (.t 158)))),(1,⟨some 160,some (159,true),.ap (.ld 4 true (.t 12))⟩),(1,⟨some 161,some (159,true),.ap (.ld 4 true (.t 14))⟩),(0,⟨some 162,some (159,true),.cl (.c (.f 12 [] [])) [(.t 160),(.t 161)]⟩),(2,(o1 163 (.pick (.t 159) (.t 162) (.c (.b false))))),(2,(o1 164 (.mv (.t 163)))),(2,⟨some 166,some (164,true),.ap (.fa 3 (.t 11))⟩),(1,⟨some 165,some (164,true),.ap (.ld 4 true (.t 13))⟩),(1,⟨some 167,some (164,true),.ap (.ld 1 false (.t 166))⟩),(2,⟨some 168,some (164,true),.ap (.ia 5 (.t 167) (.c (.n .i64 0)))⟩),(1,⟨some 169,some (164,true),.ap (.ld 5 true (.t 168))⟩),(0,⟨some 170,some (164,true),.cl (.c (.f 23 [] [])) [(.c (.n .i64 8)),(.c (.n .i64 2)),(.c (.n .i64 0)),(.c (.n .i64 0)),(.c (.n .u32 0))]⟩),(0,⟨some 171,some (164,true),.cl (.c (.f 23 [] [])) [(.c (.n .i64 34)),(.c (.n .i64 (-1))),(.c (.n .i64 2)),(.c (.n .i64 (-1))),(.c (.n .u32 0))]⟩),(0,⟨some 172,some (164,true),.ap (.bs 37 5 3 [.n .i64 0,.n .i64 0,.n .i64 0,.n .i64 0,.n .u32 0,.n .i64 0,.n .i64 0,.n .i64 0,.n .i64 0,.n .u32 0,.n .i64 0,.n .i64 0,.n .i64 0,.n .i64 0,.n .u32 0] [(0,5,(.t 169)),(5,5,(.t 170)),(10,5,(.t 171))])⟩),(0,⟨some 173,some (164,true),.cl (.c (.f 22 [] [])) [(.t 172)]⟩),(0,⟨some 174,some (164,true),.cl (.c (.f 12 [] [])) [(.t 165),(.t 173)]⟩),(2,(o1 175 (.pick (.t 164) (.t 174) (.c (.b false))))),(2,(o1 0 (.mv (.t 175))))]
abbrev NN:AF:=⟨176,(.seq (.reg Df) (.seq (.reg De) (.seq (.reg Dd) (.seq (.reg Dc) (.seq (.reg Db) (.seq (.seq (.mix Dh) (.cond (.t 67) (.seq (.reg Da) .ret) .skip)) (.seq (.reg C9) (.seq (.reg C8) (.seq (.reg C7) (.seq (.reg xj) (.seq (.seq (.mix xm) (.cond (.t 121) (.seq (.reg xi) .ret) .skip)) (.seq (.reg xh) (.seq (.reg xg) (.seq (.reg xf) (.seq (.frk xl xe) (.seq (.mix xk) .ret)))))))))))))))),[.mv (.t 0)]⟩
theorem Dg:bi Tryz.prog (tj Tryz.prog 9) 9=some NN:=by rw[<-u9];kernel_rfl
end Go.Proofs.YtidhfimbnjaceaaGreat