/- A part of the proof of CostBounds: CbC CbD CbE CbF. No condition. -/
import Derived.Test.YthehakngpbjgjaaGreatGd29
set_option linter.unusedSimpArgs false
set_option linter.unusedVariables false
set_option linter.constructorNameAsVariable false
set_option maxRecDepth 100000
set_option maxHeartbeats 4000000
namespace Go.Proofs.YthehakngpbjgjaaGreat
open Go.RowKit
def dz(cs:List (Int×Int))(r:Nat):AV:= .agg [.fs 2 cs.length (pI cs),.cv (.map (some r))]
theorem np(cs:List (Int×Int))(r a b:Nat)(hab:a<=b)(hb:b<=100000):cg Tryz.prog 34 [dz cs r,.n .i64 a,.n .i64 b] [.v (.n .i64 ((b-a:Nat):Int))]:=by
 refine az am yj ⟨by simp,by decide⟩ ?_
 simp only[aQ,dz]
 have w:IntKind.i64.wrap ((b:Int)-a)=((b-a:Nat):Int):=(ao (by omega)).trans (by omega)
 repeat first|with_reducible refine ay ?_|simp only[w,go_sem,simprocAttr]
 exact ai rfl rfl
def bG(cs:List (Int×Int))(a:Nat):Nat->Nat
 |0=>0
 |n+1=>bG cs a n+if ax cs (a+n)=34 then 1 else 0
theorem gG(cs:List (Int×Int))(a:Nat):∀n,bG cs a n<=n
 |0=>Nat.le_refl _
 |n+1=>by
  have:=gG cs a n
  rw[bG]
  split<;>omega
theorem ns(cs:List (Int×Int))(r a b:Nat)(hab:a<=b)(hb:b<=cs.length)(hcs:cs.length<=100000):cg Tryz.prog 38 [dz cs r,.n .i64 a,.n .i64 b] [.v (.n .i64 (bG cs a (b-a):Nat))]:=by
 refine az am rd ⟨by simp,by decide⟩ ?_
 simp only[aQ,dz]
 have s1:0<=(a:Int)/\(a:Int)<=b/\(b:Int)<=cs.length:=⟨by omega,by omega,by omega⟩
 repeat first|with_reducible refine ay ?_|simp only[s1,s1.1,s1.2.1,s1.2.2,go_sem,simprocAttr]
 refine GA.loop (I:=λm e H=>∃k:Nat,m=(b-a)-k/\k<=b-a/\e=aC [(7,.n .i64 (bG cs a k:Nat)),(14,.fs 2 (b-a) λk=>pI cs (a+k)),(15,.n .i64 ((b-a:Nat):Int)),(16,.n .i64 k)]/\H=ag []) (Wk.mk [] [] ?_ ?_ ?_) ⟨0,rfl,Nat.zero_le _,rfl,rfl⟩ ?_
 ·simp only[aK,aJ,go_sem,simprocAttr]
  repeat' refine af ?_ ?_
  all_goals first|exact aR|skip
 ·trivial
 ·simp
 rintro m e H ⟨k,rfl,hk,rfl,rfl⟩
 have h0:(0:Int)<=(k:Int):=by omega
 by_cases h:k<b-a
 rotate_left
 ·have h':¬(k:Int)<((b-a:Nat):Int):=by omega
  obtain rfl:k=b-a:=by omega
  repeat first|with_reducible refine ay ?_|simp only[h',decide_false,go_sem,simprocAttr]
  exact ai rfl rfl
 have h':(k:Int)<((b-a:Nat):Int):=by omega
 have wk:IntKind.i64.wrap ((k:Int)+1)=((k+1:Nat):Int):=(ao (by omega)).trans (by omega)
 have hle:=gG cs a k
 by_cases e1:(cs.getD (a+k) (0,0)).1=34
 ·have hs:bG cs a (k+1)=bG cs a k+1:=by rw[bG,if_pos (show ax cs (a+k)=34 from e1)]
  have we:IntKind.i64.wrap (((bG cs a k:Nat):Int)+1)=((bG cs a k+1:Nat):Int):=(ao (by omega)).trans (by omega)
  repeat first|with_reducible refine ay ?_|simp only[h',h0,bp,ja,e1,wk,we,decide_true,go_sem,simprocAttr]
  refine⟨_,_,_,?_,Wk.mk [] [] ?_ ?_ ?_,k+1,rfl,by omega,rfl,rfl⟩
  ·omega
  ·rw[hs]
   simp only[aK,aJ,go_sem,simprocAttr]
   repeat' refine af ?_ ?_
   all_goals first|exact aR|skip
  ·trivial
  ·simp
 ·have hs:bG cs a (k+1)=bG cs a k:=by rw[bG,if_neg (show ¬ax cs (a+k)=34 from e1)];rfl
  repeat first|with_reducible refine ay ?_|simp only[h',h0,bp,ja,e1,wk,decide_true,decide_false,go_sem,simprocAttr]
  refine⟨_,_,_,?_,Wk.mk [] [] ?_ ?_ ?_,k+1,rfl,by omega,rfl,rfl⟩
  ·omega
  ·rw[hs]
   simp only[aK,aJ,go_sem,simprocAttr]
   repeat' refine af ?_ ?_
   all_goals first|exact aR|skip
  ·trivial
  ·simp
def qI:Fo->Prop
 |.nil=>True
 |.pl x y r=>x<=y/\y<=100000/\qI r
 |.br op x y u v r=>(op=27\/op=29)/\qI u/\qI v/\qI r
theorem a8.okf{cs:List (Int×Int)}{out:List Int}:∀{o:Fo} {a b:Nat},a8 cs out o a b->b<=100000->qI o
 |.nil,_,_,_,_=>trivial
 |.pl x y r,a,b,h,hb=>by
  obtain⟨h0,h1,_,_,h4⟩:=h
  have:=h4.le
  exact⟨by omega,by omega,h4.okf hb⟩
 |.br op x y u v r,a,b,h,hb=>by
  obtain⟨_,_,h2,⟨m,_,g2,g3,g4,g5⟩,h4⟩:=h
  refine⟨h2,g4.okf (by omega),?_,h4.okf hb⟩
  rcases g5 with⟨_,e,_,_,q3,q4,_⟩|⟨_,q1,_⟩
  ·exact q4.okf (by omega)
  ·rw[q1];trivial
def aX(li:List cE):Fo->Int->Int
 |.nil,n=>n
 |.pl x y r,n=>aX li r (bA (n+(y-x)))
 |.br op x y u v r,n=>aX li r (if op=27 then bA (n+1+(if aX li u 0<aX li v 0 then aX li v 0 else aX li u 0)) else bA (n+1+bX (bA (aX li u 0+1)) (aN li x)))
theorem aI{n:Int}(h:0<=n):0<=bA n/\bA n<=281474976710657:=by unfold bA;split<;>omega
theorem cw{a n:Int}(h:0<=a)(hn:0<=n):0<=bX a n/\bX a n<=281474976710657:=by
 unfold bX
 split
 ·omega
 ·exact aI (Int.mul_nonneg h hn)
theorem cy{li:List cE}(hm:∀a,0<=aN li a):∀(o:Fo) (n:Int),qI o->0<=n/\n<=281474976710657->0<=aX li o n/\aX li o n<=281474976710657
 |.nil,n,_,h=>h
 |.pl x y r,n,ho,h=>cy hm r _ ho.2.2 (aI (by have:=ho.1;omega))
 |.br op x y u v r,n,ho,h=>by
  have hu:=cy hm u 0 ho.2.1 (by omega)
  have hv:=cy hm v 0 ho.2.2.1 (by omega)
  refine cy hm r _ ho.2.2.2 ?_
  split
  ·refine aI ?_
   split<;>omega
  ·refine aI ?_
   have:=(cw (aI (n:=aX li u 0+1) (by omega)).1 (hm x)).1
   omega
def kK(s e h:Int)(li:List cE)(o:Fo):Prop:=cg Tryz.prog 37 [.fs 5 o.len o.cell,bL s e h li] [.v (.n .i64 (aX li o 0))]
theorem k8(s e h:Int)(li:List cE)(hli:li.length<=60)(hm:∀a,0<=aN li a/\aN li a<=65536)(o:Fo)(ho:qI o)(hlen:o.len<=100000)(ih:∀u:Fo,u.size<o.size->qI u->kK s e h li u):kK s e h li o:=by
 refine az am re ⟨by simp,by decide⟩ ?_
 simp only[aQ,bL]
 repeat first|with_reducible refine ay ?_|simp only[go_sem,simprocAttr]
 refine GA.loop (I:=λm ev H=>∃(rest:Fo) (k:Nat) (n:Int),m=rest.size/\k+rest.len=o.len/\aX li o 0=aX li rest n/\(0<=n/\n<=281474976710657)/\qI rest/\(∀i j,i<rest.len->rest.cell i j=o.cell (k+i) j)/\rest.size<=o.size/\ev=aC [(0,.fs 5 o.len o.cell),(3,.p 0 0),(5,.n .i64 n),(6,.n .i64 k)]/\H=ag [aj 0 44 [.n .i64 s,.n .i64 e,.n .i64 h,.fs 3 li.length (vI li)]]) (Wk.mk [0] [] ?_ ?_ ?_) ⟨o,0,0,rfl,by omega,rfl,by omega,ho,λi j _=>by rw[Nat.zero_add],Nat.le_refl _,rfl,rfl⟩ ?_
 ·simp only[aK,aJ,go_sem,simprocAttr]
  repeat' refine af ?_ ?_
  all_goals first|exact aR|skip
 ·exact .cons rfl (.lstj (x:=_) (by simp only[go_sem,simprocAttr]<;>rfl) (by rfl) (by rfl) (by rfl) (by rfl) (by rfl) (by rfl) (by simp) (λi hi=>by rcases pj hi with rfl|rfl|rfl|rfl<;>(simp only[go_sem,simprocAttr];exact Wv.same rfl))) .nil
 ·simp
 rintro m ev H ⟨rest,k,n,rfl,hkl,hs,hn,hok,hc,hsz,rfl,rfl⟩
 have h0:(0:Int)<=(k:Int):=by omega
 cases rest with
 |nil=>
  have hk:¬(k:Int)<o.len:=by simp[Fo.len] at hkl;omega
  repeat first|with_reducible refine ay ?_|simp only[hk,decide_false,go_sem,simprocAttr]
  exact ai (by rw[hs];rfl) rfl
 |pl x y r=>
  obtain⟨g1,g2,g3⟩:=hok
  simp only[Fo.len] at hkl hc
  have hk:(k:Int)<o.len:=by omega
  have c0:=hc 0 0 (by omega)
  have c1:=hc 0 1 (by omega)
  have c2:=hc 0 2 (by omega)
  have c3:=hc 0 3 (by omega)
  have c4:=hc 0 4 (by omega)
  simp only[Nat.add_zero] at c0 c1 c2 c3 c4
  have d0:o.cell k 0= .n .i64 (-1):=c0.symm
  have d1:o.cell k 1= .n .i64 x:=c1.symm
  have d2:o.cell k 2= .n .i64 y:=c2.symm
  have d3:o.cell k 3= .sl0:=c3.symm
  have d4:o.cell k 4= .sl0:=c4.symm
  have wk:IntKind.i64.wrap ((k:Int)+1)=((k+1:Nat):Int):=(ao (by omega)).trans (by omega)
  have wa:IntKind.i64.wrap (n+y)=n+y:=ao (by omega)
  have wb:IntKind.i64.wrap (n+y-x)=n+(y-x):=(ao (by omega)).trans (by omega)
  repeat first|with_reducible refine ay ?_|simp only[h0,hk,d0,d1,d2,d3,d4,wa,wb,decide_true,go_sem,simprocAttr]
  refine ae [] (fargs:=[.n .i64 (n+((y:Int)-x))]) (aV.same rfl) (cF _) ?_ ?_
  ·simp only[go_sem,simprocAttr]
  repeat first|with_reducible refine ay ?_|simp only[wk,go_sem,simprocAttr]
  refine⟨_,_,_,?_,Wk.mk [0] [] ?_ ?_ ?_,r,k+1,bA (n+(y-x)),rfl,by omega,hs,aI (by omega),g3,λi j hi=>?_,by simp only[Fo.size] at hsz;omega,rfl,rfl⟩
  ·simp only[Fo.size];omega
  ·simp only[aK,aJ,go_sem,simprocAttr]
   repeat' refine af ?_ ?_
   all_goals first|exact aR|skip
  ·exact .cons rfl .ls .nil
  ·simp
  ·have:=hc (i+1) j (by omega)
   rw[show k+1+i=k+(i+1) by omega]
   exact this
 |br op x y u v r=>
  obtain⟨hop,gu,gv,gr⟩:=hok
  simp only[Fo.len] at hkl hc
  have hk:(k:Int)<o.len:=by omega
  have d0:o.cell k 0= .n .i64 op:=(hc 0 0 (by omega)).symm
  have d1:o.cell k 1= .n .i64 x:=(hc 0 1 (by omega)).symm
  have d2:o.cell k 2= .n .i64 y:=(hc 0 2 (by omega)).symm
  have d3:o.cell k 3= .fs 5 u.len u.cell:=(hc 0 3 (by omega)).symm
  have d4:o.cell k 4= .fs 5 v.len v.cell:=(hc 0 4 (by omega)).symm
  have wk:IntKind.i64.wrap ((k:Int)+1)=((k+1:Nat):Int):=(ao (by omega)).trans (by omega)
  have wn:IntKind.i64.wrap (n+1)=n+1:=ao (by omega)
  have hsu:u.size<o.size:=by simp only[Fo.size] at hsz;omega
  have hsv:v.size<o.size:=by simp only[Fo.size] at hsz;omega
  have Bu:=cy (λa=>(hm a).1) u 0 gu (by omega)
  have Bv:=cy (λa=>(hm a).1) v 0 gv (by omega)
  have hc':∀i j,i<r.len->r.cell i j=o.cell (k+1+i) j:=λi j hi=>by
   have:=hc (i+1) j (by omega)
   rw[show k+1+i=k+(i+1) by omega]
   exact this
  rcases hop with rfl|rfl
  ·obtain⟨M,hM⟩:∃M,M=(if aX li u 0<aX li v 0 then aX li v 0 else aX li u 0):=⟨_,rfl⟩
   have BM:0<=M/\M<=281474976710657:=by rw[hM];split<;>omega
   have wM:IntKind.i64.wrap (n+1+M)=n+1+M:=ao (by omega)
   rw[aX,if_pos rfl,<-hM] at hs
   repeat first|with_reducible refine ay ?_|simp only[h0,hk,d0,d1,d2,d3,d4,wn,decide_true,go_sem,simprocAttr]
   refine ae [] (fargs:=[.fs 5 u.len u.cell,bL s e h li]) (aV.same rfl) (ih u hsu gu) ?_ ?_
   ·simp only[go_sem,simprocAttr]
   repeat first|with_reducible refine ay ?_|simp only[go_sem,simprocAttr]
   refine ae [] (fargs:=[.fs 5 v.len v.cell,bL s e h li]) (aV.same rfl) (ih v hsv gv) ?_ ?_
   ·simp only[go_sem,simprocAttr]
   repeat first|with_reducible refine ay ?_|simp only[fR,eE,mN,go_sem,simprocAttr]
   rw[<-hM,wM]
   refine ae [] (fargs:=[.n .i64 (n+1+M)]) (aV.same rfl) (cF _) ?_ ?_
   ·simp only[go_sem,simprocAttr]
   repeat first|with_reducible refine ay ?_|simp only[wk,go_sem,simprocAttr]
   refine⟨_,_,_,?_,Wk.mk [0] [] ?_ ?_ ?_,r,k+1,bA (n+1+M),rfl,by omega,hs,aI (by omega),gr,hc',by simp only[Fo.size] at hsz;omega,rfl,rfl⟩
   ·simp only[Fo.size];omega
   ·simp only[aK,aJ,go_sem,simprocAttr]
    repeat' refine af ?_ ?_
    all_goals first|exact aR|skip
   ·exact .cons rfl .ls .nil
   ·simp
  ·obtain⟨S,hS⟩:∃S,S=bA (aX li u 0+1):=⟨_,rfl⟩
   have BS:0<=S/\S<=281474976710657:=by rw[hS];exact aI (by omega)
   obtain⟨T,hT⟩:∃T,T=bX S (aN li x):=⟨_,rfl⟩
   have BT:0<=T/\T<=281474976710657:=by rw[hT];exact cw BS.1 (hm x).1
   have wS:IntKind.i64.wrap (aX li u 0+1)=aX li u 0+1:=ao (by omega)
   have wT:IntKind.i64.wrap (n+1+T)=n+1+T:=ao (by omega)
   rw[aX,if_neg (by decide),<-hS,<-hT] at hs
   repeat first|with_reducible refine ay ?_|simp only[h0,hk,d0,d1,d2,d3,d4,wn,decide_true,decide_false,go_sem,simprocAttr]
   refine ae [] (fargs:=[.fs 5 u.len u.cell,bL s e h li]) (aV.same rfl) (ih u hsu gu) ?_ ?_
   ·simp only[go_sem,simprocAttr]
   repeat first|with_reducible refine ay ?_|simp only[wS,go_sem,simprocAttr]
   refine ae [] (fargs:=[.n .i64 (aX li u 0+1)]) (aV.same rfl) (cF _) ?_ ?_
   ·simp only[go_sem,simprocAttr]
   rw[<-hS]
   repeat first|with_reducible refine ay ?_|simp only[go_sem,simprocAttr]
   refine ae [] (fargs:=[bL s e h li,.n .i64 x]) (aV.same rfl) (lu s e h li (by omega) x) ?_ ?_
   ·simp only[go_sem,simprocAttr]
   repeat first|with_reducible refine ay ?_|simp only[go_sem,simprocAttr]
   refine ae [] (fargs:=[.n .i64 S,.n .i64 (aN li x)]) (aV.same rfl) (i4 S (aN li x) BS (hm x)) ?_ ?_
   ·simp only[go_sem,simprocAttr]
   rw[<-hT]
   repeat first|with_reducible refine ay ?_|simp only[wT,go_sem,simprocAttr]
   refine ae [] (fargs:=[.n .i64 (n+1+T)]) (aV.same rfl) (cF _) ?_ ?_
   ·simp only[go_sem,simprocAttr]
   repeat first|with_reducible refine ay ?_|simp only[wk,go_sem,simprocAttr]
   refine⟨_,_,_,?_,Wk.mk [0] [] ?_ ?_ ?_,r,k+1,bA (n+1+T),rfl,by omega,hs,aI (by omega),gr,hc',by simp only[Fo.size] at hsz;omega,rfl,rfl⟩
   ·simp only[Fo.size];omega
   ·simp only[aK,aJ,go_sem,simprocAttr]
    repeat' refine af ?_ ?_
    all_goals first|exact aR|skip
   ·exact .cons rfl .ls .nil
   ·simp
theorem Fo.len_le_size:∀o:Fo,o.len<=o.size
 |.nil=>Nat.le_refl _
 |.pl x y r=>by have:=Fo.len_le_size r;simp only[Fo.len,Fo.size];omega
 |.br op x y u v r=>by have:=Fo.len_le_size r;simp only[Fo.len,Fo.size];omega
theorem a8.size{cs:List (Int×Int)}{out:List Int}:∀{o:Fo} {a b:Nat},a8 cs out o a b->a+o.size<=b
 |.nil,a,b,h=>by cases h;exact Nat.le_refl _
 |.pl x y r,a,b,h=>by
  obtain⟨_,h1,_,_,h2⟩:=h
  have:=h2.size
  simp only[Fo.size]
  omega
 |.br op x y u v r,a,b,h=>by
  obtain⟨_,_,_,⟨m,_,h1,_,h4,h2⟩,h3⟩:=h
  have e1:=h3.size
  have e2:=h4.size
  simp only[Fo.size]
  rcases h2 with⟨_,e,_,q2,_,q4,h5⟩|⟨_,q1,h5⟩
  ·have e3:=q4.size
   omega
  ·rw[q1]
   simp only[Fo.size]
   omega
theorem i5(s e h:Int)(li:List cE)(hli:li.length<=60)(hm:∀a,0<=aN li a/\aN li a<=65536):∀(n:Nat) (o:Fo),o.size<n->o.size<=100000->qI o->kK s e h li o
 |0,o,hn,_,_=>absurd hn (Nat.not_lt_zero _)
 |n+1,o,hn,hs,ho=>k8 s e h li hli hm o ho (Nat.le_trans (Fo.len_le_size o) hs) λu hu gu=>i5 s e h li hli hm n u (by omega) (by omega) gu
def bu(li:List cE)(pl:Nat->Nat->Int)(own:Int):Fo->Int->Int
 |.nil,n=>n
 |.pl x y r,n=>bu li pl own r (bA (n+pl x y))
 |.br op x y u v r,n=>bu li pl own r (bA (n+(if op=27 then bA (own+(if bu li pl own u 0<bu li pl own v 0 then bu li pl own v 0 else bu li pl own u 0)) else bA (own+bX (bA (own+bu li pl own u 0)) (aN li x)))))
theorem gD{a b:Int}(h:0<=a):bA (a+bA b)=bA (a+b):=by
 unfold bA
 split<;>split<;>(try split)<;>omega
theorem cQ{li:List cE}(hm:∀a,0<=aN li a):∀(o:Fo) (n:Int),qI o->0<=n/\n<=281474976710657->bu li (λx y=>(y:Int)-x) 1 o n=aX li o n
 |.nil,n,_,_=>rfl
 |.pl x y r,n,ho,h=>by
  rw[bu,aX]
  exact cQ hm r _ ho.2.2 (aI (by have:=ho.1;omega))
 |.br op x y u v r,n,ho,h=>by
  have hu:=cy hm u 0 ho.2.1 (by omega)
  have hv:=cy hm v 0 ho.2.2.1 (by omega)
  rw[bu,aX,cQ hm u 0 ho.2.1 (by omega),cQ hm v 0 ho.2.2.1 (by omega)]
  by_cases e:op=27
  ·rw[if_pos e,if_pos e,gD h.1,<-Int.add_assoc]
   refine cQ hm r _ ho.2.2.2 (aI ?_)
   split<;>omega
  ·rw[if_neg e,if_neg e,gD h.1,<-Int.add_assoc,Int.add_comm 1 (aX li u 0)]
   refine cQ hm r _ ho.2.2.2 (aI ?_)
   have:=(cw (aI (n:=aX li u 0+1) (by omega)).1 (hm x)).1
   omega
def bk(cs:List (Int×Int))(li:List cE):Fo->Int->Int
 |.nil,n=>n
 |.pl x y r,n=>bk cs li r (bA (n+(bG cs x (y-x):Nat)))
 |.br op x y u v r,n=>bk cs li r (if op=27 then bA (n+(if bk cs li u 0<bk cs li v 0 then bk cs li v 0 else bk cs li u 0)) else bA (n+bX (bk cs li u 0) (aN li x)))
theorem cD{cs:List (Int×Int)}{li:List cE}(hm:∀a,0<=aN li a):∀(o:Fo) (n:Int),0<=n/\n<=281474976710657->0<=bk cs li o n/\bk cs li o n<=281474976710657
 |.nil,n,h=>h
 |.pl x y r,n,h=>cD hm r _ (aI (by omega))
 |.br op x y u v r,n,h=>by
  have hu:=cD (cs:=cs) hm u 0 (by omega)
  have hv:=cD (cs:=cs) hm v 0 (by omega)
  refine cD hm r _ ?_
  split
  ·refine aI ?_
   split<;>omega
  ·refine aI ?_
   have:=(cw hu.1 (hm x)).1
   omega
theorem oh{n:Int}(h:n<=281474976710657):bA n=n:=by unfold bA;split<;>omega
theorem cR{cs:List (Int×Int)}{li:List cE}(hm:∀a,0<=aN li a):∀(o:Fo) (n:Int),0<=n/\n<=281474976710657->bu li (λx y=>(bG cs x (y-x):Nat)) 0 o n=bk cs li o n
 |.nil,n,_=>rfl
 |.pl x y r,n,h=>by
  rw[bu,bk]
  exact cR hm r _ (aI (by omega))
 |.br op x y u v r,n,h=>by
  have hu:=cD (cs:=cs) hm u 0 (by omega)
  have hv:=cD (cs:=cs) hm v 0 (by omega)
  rw[bu,bk,cR hm u 0 (by omega),cR hm v 0 (by omega)]
  by_cases e:op=27
  ·rw[if_pos e,if_pos e,gD h.1,Int.zero_add]
   refine cR hm r _ (aI ?_)
   split<;>omega
  ·rw[if_neg e,if_neg e,gD h.1,Int.zero_add,Int.zero_add,oh hu.2]
   refine cR hm r _ (aI ?_)
   have:=(cw hu.1 (hm x)).1
   omega
theorem qb{n:Int}(h:0<=n/\n<=281474976710657)(k:Nat):bA (bA (n+k)+1)=bA (n+(k+1:Nat)):=by
 unfold bA
 split<;>split<;>(try split)<;>omega
theorem fj:∀{li:List cE},(∀x ∈ li,0<=x.2.1/\x.2.1<=65536)->∀a,0<=aN li a/\aN li a<=65536
 |[],_,a=>⟨Int.le_refl _,(by decide:(0:Int)<=65536)⟩
 |x::l,h,a=>by
  unfold aN
  split
  ·exact h x (List.mem_cons_self ..)
  ·exact fj (λy hy=>h y (List.mem_cons_of_mem _ hy)) a
def ir(ls:List Int)(li:List cE):Int:=if ls.length=li.length/\(li.map λx=>x.1)=ls then(if ∀x ∈ li,0<=x.2.1/\x.2.1<=65536 then 0 else 2) else 23
def jH(cs:List (Int×Int)):Fo->Prop
 |.nil=>True
 |.pl x y r=>x<=y/\y<=cs.length/\jH cs r
 |.br op x y u v r=>(op=27\/op=29)/\jH cs u/\jH cs v/\jH cs r
def kO(cs:List (Int×Int))(s e h:Int)(li:List cE)(o:Fo):Prop:=cg Tryz.prog 39 [.fs 5 o.len o.cell,.fs 2 cs.length (pI cs),bL s e h li] [.v (.n .i64 (bk cs li o 0))]
theorem lg(cs:List (Int×Int))(hcs:cs.length<=100000)(s e h:Int)(li:List cE)(hli:li.length<=60)(hm:∀a,0<=aN li a/\aN li a<=65536)(o:Fo)(ho:jH cs o)(hlen:o.len<=100000)(ih:∀u:Fo,u.size<o.size->jH cs u->kO cs s e h li u):kO cs s e h li o:=by
 refine az am ra ⟨by simp,by decide⟩ ?_
 simp only[aQ,bL]
 repeat first|with_reducible refine ay ?_|simp only[go_sem,simprocAttr]
 refine GA.loop (I:=λm ev H=>∃(rest:Fo) (k:Nat) (n:Int),m=rest.size/\k+rest.len=o.len/\bk cs li o 0=bk cs li rest n/\(0<=n/\n<=281474976710657)/\jH cs rest/\(∀i j,i<rest.len->rest.cell i j=o.cell (k+i) j)/\rest.size<=o.size/\ev=aC [(0,.fs 5 o.len o.cell),(1,.fs 2 cs.length (pI cs)),(5,.p 0 0),(7,.n .i64 n),(8,.n .i64 k)]/\H=ag [aj 0 44 [.n .i64 s,.n .i64 e,.n .i64 h,.fs 3 li.length (vI li)]]) (Wk.mk [0] [] ?_ ?_ ?_) ⟨o,0,0,rfl,by omega,rfl,by omega,ho,λi j _=>by rw[Nat.zero_add],Nat.le_refl _,rfl,rfl⟩ ?_
 ·simp only[aK,aJ,go_sem,simprocAttr]
  repeat' refine af ?_ ?_
  all_goals first|exact aR|skip
 ·exact .cons rfl (.lstj (x:=_) (by simp only[go_sem,simprocAttr]<;>rfl) (by rfl) (by rfl) (by rfl) (by rfl) (by rfl) (by rfl) (by simp) (λi hi=>by rcases pj hi with rfl|rfl|rfl|rfl<;>(simp only[go_sem,simprocAttr];exact Wv.same rfl))) .nil
 ·simp
 rintro m ev H ⟨rest,k,n,rfl,hkl,hs,hn,hok,hc,hsz,rfl,rfl⟩
 have h0:(0:Int)<=(k:Int):=by omega
 cases rest with
 |nil=>
  have hk:¬(k:Int)<o.len:=by simp[Fo.len] at hkl;omega
  repeat first|with_reducible refine ay ?_|simp only[hk,decide_false,go_sem,simprocAttr]
  exact ai (by rw[hs];rfl) rfl
 |pl x y r=>
  obtain⟨g1,g2,g3⟩:=hok
  simp only[Fo.len] at hkl hc
  have hk:(k:Int)<o.len:=by omega
  have c0:=hc 0 0 (by omega)
  have c1:=hc 0 1 (by omega)
  have c2:=hc 0 2 (by omega)
  have c3:=hc 0 3 (by omega)
  have c4:=hc 0 4 (by omega)
  simp only[Nat.add_zero] at c0 c1 c2 c3 c4
  have d0:o.cell k 0= .n .i64 (-1):=c0.symm
  have d1:o.cell k 1= .n .i64 x:=c1.symm
  have d2:o.cell k 2= .n .i64 y:=c2.symm
  have d3:o.cell k 3= .sl0:=c3.symm
  have d4:o.cell k 4= .sl0:=c4.symm
  have wk:IntKind.i64.wrap ((k:Int)+1)=((k+1:Nat):Int):=(ao (by omega)).trans (by omega)
  have hlst:ag [aj 0 44 [.n .i64 s,.n .i64 e,.n .i64 h,.fs 3 li.length (vI li)]]=ag [aj 0 44 [.n .i64 s,.n .i64 e,.n .i64 h,.fs 3 li.length (vI li)]]:=rfl
  repeat first|with_reducible refine ay ?_|simp only[h0,hk,d0,d1,d2,d3,d4,decide_true,decide_false,go_sem,simprocAttr]
  refine GA.loop (I:=λm ev H=>∃q:Nat,m=y-q/\x<=q/\q<=y/\ev=aC [(0,.fs 5 o.len o.cell),(1,.fs 2 cs.length (pI cs)),(5,.p 0 0),(7,.n .i64 (bA (n+(bG cs x (q-x):Nat)))),(8,.n .i64 k),(9,.p 1 0),(10,.n .i64 q)]/\H=ag [aj 0 106 [.n .i64 (-1),.n .i64 x,.n .i64 y,.sl0,.sl0],aj 0 44 [.n .i64 s,.n .i64 e,.n .i64 h,.fs 3 li.length (vI li)]]) (Wk.mk [1,0] [] ?_ ?_ ?_) ⟨x,rfl,Nat.le_refl _,g1,rfl,rfl⟩ ?_
  ·simp only[aK,aJ,go_sem,simprocAttr]
   repeat' refine af ?_ ?_
   all_goals first|exact aR|skip
   exact Wv.n (by rw[Nat.sub_self];simp only[bG];rw[show n+((0:Nat):Int)=n by omega,oh hn.2])
  ·exact .cons rfl (.lstj (x:=_) (by simp only[go_sem,simprocAttr]<;>rfl) (by rfl) (by rfl) (by rfl) (by rfl) (by rfl) (by rfl) (by simp) (λi hi=>by rcases bo hi with rfl|rfl|rfl|rfl|rfl<;>(simp only[go_sem,simprocAttr];exact Wv.same rfl))) (.cons rfl .ls .nil)
  ·simp
  rintro m ev H ⟨q,rfl,hxq,hqy,rfl,rfl⟩
  have q0:(0:Int)<=(q:Int):=by omega
  have hel:=gG cs x (q-x)
  have hF:=aI (n:=n+(bG cs x (q-x):Nat)) (by omega)
  by_cases hq:q<y
  ·have q1:(q:Int)<y:=by omega
   have q2:(q:Int)<cs.length:=by omega
   have wq:IntKind.i64.wrap ((q:Int)+1)=((q+1:Nat):Int):=(ao (by omega)).trans (by omega)
   have hsx:q+1-x=(q-x)+1:=by omega
   have hxx:x+(q-x)=q:=by omega
   by_cases e34:(cs.getD q (0,0)).1=34
   ·have he:bG cs x (q+1-x)=bG cs x (q-x)+1:=by rw[hsx,bG,hxx,if_pos (show ax cs q=34 from e34)]
    have wf:IntKind.i64.wrap (bA (n+(bG cs x (q-x):Nat))+1)=bA (n+(bG cs x (q-x):Nat))+1:=ao (by omega)
    repeat first|with_reducible refine ay ?_|simp only[q0,q1,q2,bp,e34,wf,decide_true,go_sem,simprocAttr]
    refine ae [] (fargs:=[.n .i64 (bA (n+(bG cs x (q-x):Nat))+1)]) (aV.same rfl) (cF _) ?_ ?_
    ·simp only[go_sem,simprocAttr]
    repeat first|with_reducible refine ay ?_|simp only[wq,go_sem,simprocAttr]
    refine⟨_,_,_,?_,Wk.mk [1,0] [] ?_ ?_ ?_,q+1,rfl,by omega,by omega,rfl,rfl⟩
    ·omega
    ·rw[he,<-qb hn]
     simp only[aK,aJ,go_sem,simprocAttr]
     repeat' refine af ?_ ?_
     all_goals first|exact aR|skip
    ·exact .cons rfl .ls (.cons rfl .ls .nil)
    ·simp
   ·have he:bG cs x (q+1-x)=bG cs x (q-x):=by rw[hsx,bG,hxx,if_neg (show ¬ax cs q=34 from e34)];rfl
    repeat first|with_reducible refine ay ?_|simp only[q0,q1,q2,bp,e34,wq,decide_true,decide_false,go_sem,simprocAttr]
    refine⟨_,_,_,?_,Wk.mk [1,0] [] ?_ ?_ ?_,q+1,rfl,by omega,by omega,rfl,rfl⟩
    ·omega
    ·rw[he]
     simp only[aK,aJ,go_sem,simprocAttr]
     repeat' refine af ?_ ?_
     all_goals first|exact aR|skip
    ·exact .cons rfl .ls (.cons rfl .ls .nil)
    ·simp
  ·have q1:¬(q:Int)<y:=by omega
   obtain rfl:q=y:=by omega
   repeat first|with_reducible refine ay ?_|simp only[q1,wk,decide_false,go_sem,simprocAttr]
   refine⟨_,_,_,?_,Wk.mk [0] [] ?_ ?_ ?_,r,k+1,bA (n+(bG cs x (q-x):Nat)),rfl,by omega,hs,hF,g3,λi j hi=>?_,by simp only[Fo.size] at hsz;omega,rfl,rfl⟩
   ·simp only[Fo.size];omega
   ·simp only[aK,aJ,go_sem,simprocAttr]
    repeat' refine af ?_ ?_
    all_goals first|exact aR|skip
   ·exact .cons rfl .ls .nil
   ·simp
   ·have:=hc (i+1) j (by omega)
    rw[show k+1+i=k+(i+1) by omega]
    exact this
 |br op x y u v r=>
  obtain⟨hop,gu,gv,gr⟩:=hok
  simp only[Fo.len] at hkl hc
  have hk:(k:Int)<o.len:=by omega
  have d0:o.cell k 0= .n .i64 op:=(hc 0 0 (by omega)).symm
  have d1:o.cell k 1= .n .i64 x:=(hc 0 1 (by omega)).symm
  have d2:o.cell k 2= .n .i64 y:=(hc 0 2 (by omega)).symm
  have d3:o.cell k 3= .fs 5 u.len u.cell:=(hc 0 3 (by omega)).symm
  have d4:o.cell k 4= .fs 5 v.len v.cell:=(hc 0 4 (by omega)).symm
  have wk:IntKind.i64.wrap ((k:Int)+1)=((k+1:Nat):Int):=(ao (by omega)).trans (by omega)
  have wn:IntKind.i64.wrap (n+1)=n+1:=ao (by omega)
  have hsu:u.size<o.size:=by simp only[Fo.size] at hsz;omega
  have hsv:v.size<o.size:=by simp only[Fo.size] at hsz;omega
  have Bu:=cD (cs:=cs) (λa=>(hm a).1) u 0 (by omega)
  have Bv:=cD (cs:=cs) (λa=>(hm a).1) v 0 (by omega)
  have hc':∀i j,i<r.len->r.cell i j=o.cell (k+1+i) j:=λi j hi=>by
   have:=hc (i+1) j (by omega)
   rw[show k+1+i=k+(i+1) by omega]
   exact this
  rcases hop with rfl|rfl
  ·obtain⟨M,hM⟩:∃M,M=(if bk cs li u 0<bk cs li v 0 then bk cs li v 0 else bk cs li u 0):=⟨_,rfl⟩
   have BM:0<=M/\M<=281474976710657:=by rw[hM];split<;>omega
   have wM:IntKind.i64.wrap (n+M)=n+M:=ao (by omega)
   rw[bk,if_pos rfl,<-hM] at hs
   repeat first|with_reducible refine ay ?_|simp only[h0,hk,d0,d1,d2,d3,d4,wn,decide_true,go_sem,simprocAttr]
   refine ae [] (fargs:=[.fs 5 u.len u.cell,.fs 2 cs.length (pI cs),bL s e h li]) (aV.same rfl) (ih u hsu gu) ?_ ?_
   ·simp only[go_sem,simprocAttr]
   repeat first|with_reducible refine ay ?_|simp only[go_sem,simprocAttr]
   refine ae [] (fargs:=[.fs 5 v.len v.cell,.fs 2 cs.length (pI cs),bL s e h li]) (aV.same rfl) (ih v hsv gv) ?_ ?_
   ·simp only[go_sem,simprocAttr]
   repeat first|with_reducible refine ay ?_|simp only[fR,eE,mN,go_sem,simprocAttr]
   rw[<-hM,wM]
   refine ae [] (fargs:=[.n .i64 (n+M)]) (aV.same rfl) (cF _) ?_ ?_
   ·simp only[go_sem,simprocAttr]
   repeat first|with_reducible refine ay ?_|simp only[wk,go_sem,simprocAttr]
   refine⟨_,_,_,?_,Wk.mk [0] [] ?_ ?_ ?_,r,k+1,bA (n+M),rfl,by omega,hs,aI (by omega),gr,hc',by simp only[Fo.size] at hsz;omega,rfl,rfl⟩
   ·simp only[Fo.size];omega
   ·simp only[aK,aJ,go_sem,simprocAttr]
    repeat' refine af ?_ ?_
    all_goals first|exact aR|skip
   ·exact .cons rfl .ls .nil
   ·simp
  ·obtain⟨T,hT⟩:∃T,T=bX (bk cs li u 0) (aN li x):=⟨_,rfl⟩
   have BT:0<=T/\T<=281474976710657:=by rw[hT];exact cw Bu.1 (hm x).1
   have wT:IntKind.i64.wrap (n+T)=n+T:=ao (by omega)
   rw[bk,if_neg (by decide),<-hT] at hs
   repeat first|with_reducible refine ay ?_|simp only[h0,hk,d0,d1,d2,d3,d4,decide_true,decide_false,go_sem,simprocAttr]
   refine ae [] (fargs:=[.fs 5 u.len u.cell,.fs 2 cs.length (pI cs),bL s e h li]) (aV.same rfl) (ih u hsu gu) ?_ ?_
   ·simp only[go_sem,simprocAttr]
   repeat first|with_reducible refine ay ?_|simp only[go_sem,simprocAttr]
   refine ae [] (fargs:=[bL s e h li,.n .i64 x]) (aV.same rfl) (lu s e h li (by omega) x) ?_ ?_
   ·simp only[go_sem,simprocAttr]
   repeat first|with_reducible refine ay ?_|simp only[go_sem,simprocAttr]
   refine ae [] (fargs:=[.n .i64 (bk cs li u 0),.n .i64 (aN li x)]) (aV.same rfl) (i4 _ (aN li x) Bu (hm x)) ?_ ?_
   ·simp only[go_sem,simprocAttr]
   rw[<-hT]
   repeat first|with_reducible refine ay ?_|simp only[wT,go_sem,simprocAttr]
   refine ae [] (fargs:=[.n .i64 (n+T)]) (aV.same rfl) (cF _) ?_ ?_
   ·simp only[go_sem,simprocAttr]
   repeat first|with_reducible refine ay ?_|simp only[wk,go_sem,simprocAttr]
   refine⟨_,_,_,?_,Wk.mk [0] [] ?_ ?_ ?_,r,k+1,bA (n+T),rfl,by omega,hs,aI (by omega),gr,hc',by simp only[Fo.size] at hsz;omega,rfl,rfl⟩
   ·simp only[Fo.size];omega
   ·simp only[aK,aJ,go_sem,simprocAttr]
    repeat' refine af ?_ ?_
    all_goals first|exact aR|skip
   ·exact .cons rfl .ls .nil
   ·simp
theorem a8.oke{cs:List (Int×Int)}{out:List Int}:∀{o:Fo} {a b:Nat},a8 cs out o a b->b<=cs.length->jH cs o
 |.nil,_,_,_,_=>trivial
 |.pl x y r,a,b,h,hb=>by
  obtain⟨h0,h1,_,_,h4⟩:=h
  have:=h4.le
  exact⟨by omega,by omega,h4.oke hb⟩
 |.br op x y u v r,a,b,h,hb=>by
  obtain⟨_,_,h2,⟨m,_,g2,g3,g4,g5⟩,h4⟩:=h
  refine⟨h2,g4.oke (by omega),?_,h4.oke hb⟩
  rcases g5 with⟨_,e,_,_,q3,q4,_⟩|⟨_,q1,_⟩
  ·exact q4.oke (by omega)
  ·rw[q1];trivial
theorem i7(cs:List (Int×Int))(hcs:cs.length<=100000)(s e h:Int)(li:List cE)(hli:li.length<=60)(hm:∀a,0<=aN li a/\aN li a<=65536):∀(n:Nat) (o:Fo),o.size<n->o.size<=100000->jH cs o->kO cs s e h li o
 |0,o,hn,_,_=>absurd hn (Nat.not_lt_zero _)
 |n+1,o,hn,hs,ho=>lg cs hcs s e h li hli hm o ho (Nat.le_trans (Fo.len_le_size o) hs) λu hu gu=>i7 cs hcs s e h li hli hm n u (by omega) (by omega) gu
end Go.Proofs.YthehakngpbjgjaaGreat