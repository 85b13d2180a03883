/- A part of the proof of CostOrders: CsG CsH CsI. No condition. -/
import Derived.Test.YthehakngpbjgjaaGreatGb21
import Derived.Test.YthehakngpbjgjaaGreatGb22
import Derived.Test.YthehakngpbjgjaaGreatGb17
set_option linter.unusedSimpArgs false
set_option linter.unusedVariables false
set_option linter.constructorNameAsVariable false
set_option maxRecDepth 100000
set_option maxHeartbeats 4000000
namespace Go.Proofs.YthehakngpbjgjaaGreat
open Go.RowKit
theorem db{a:Int}(h0:0<=a)(h1:a<=562949953421312):IntKind.i64.wrap a=a:=dc (by omega)
theorem gM(a b:Int):iM 9 (.st [(0,1,.n),(1,1,.n)]) (.agg [.n .i64 a,.n .i64 b]) (.agg [.n .i64 a,.n .i64 b])=some true:=by
 simp[iM,iP,eN,SH.row,BU]
structure aW(a:Int):Prop where
 lo:0<=a
 hi:a<=4294967295
theorem ck{a:Int}(h:0<=a)(h2:a<=8589934590):ed a=true:=by simp[ed,h];omega
theorem oC{a b c d:Int}(ha:0<=a/\a<=8589934590)(hb:0<=b/\b<=8589934590)(hc:0<=c/\c<=8589934590)(hd:0<=d/\d<=8589934590):ej a b c d=(decide (a<=c)&&decide (b<=d)):=by
 simp only[ej,ck ha.1 ha.2,ck hb.1 hb.2,ck hc.1 hc.2,ck hd.1 hd.2,Bool.true_and]
theorem gm{a b:Int}(ha:aW a)(hb:aW b):dT a b=a+b:=by
 have h1:=ha.lo;have h2:=ha.hi;have h3:=hb.lo;have h4:=hb.hi
 have hw:IntKind.i64.wrap (a+b)=a+b:=db (by omega) (by omega)
 simp only[dT,hw,ck h1 (by omega),ck h3 (by omega),ck (show(0:Int)<=a+b by omega) (by omega),and_self,if_true]
theorem ba{a b c d:Int}{r:Bool}(ha:0<=a/\a<=8589934590)(hb:0<=b/\b<=8589934590)(hc:0<=c/\c<=8589934590)(hd:0<=d/\d<=8589934590)(h:(decide (a<=c)&&decide (b<=d))=r):ez Tryz.prog 13 [.agg [.n .i64 a,.n .i64 b],.agg [.n .i64 c,.n .i64 d]] [.v (.b r)]:=by
 have:=kt a b c d
 rw[oC ha hb hc hd,h] at this
 exact this
theorem f8{a b c d:Int}(ha:aW a)(hb:aW b)(hc:aW c)(hd:aW d):ez Tryz.prog 11 [.agg [.n .i64 a,.n .i64 b],.agg [.n .i64 c,.n .i64 d]] [.v (.agg [.n .i64 (a+c),.n .i64 (b+d)])]:=by
 have:=oW a b c d
 rw[gm ha hc,gm hb hd] at this
 exact this
theorem bW{a:Int}(h:aW a):IntKind.i64.wrap a=a:=db h.lo (by have:=h.hi;omega)
theorem rg{a:Int}(h:aW a):0<=a/\a<=8589934590:=⟨h.lo,by have:=h.hi;omega⟩
theorem rgs{a b:Int}(h:aW a)(h2:aW b):0<=a+b/\a+b<=8589934590:=by
 have:=h.lo;have:=h.hi;have:=h2.lo;have:=h2.hi;omega
theorem z32:aW 0:=⟨by omega,by omega⟩
theorem BK(a b c d:Int):iM 9 (.st [(0,1,.n),(1,1,.n)]) (.agg [.n .i64 (c+a),.n .i64 (d+b)]) (.agg [.n .i64 (a+c),.n .i64 (b+d)])=some true:=by
 rw[Int.add_comm c,Int.add_comm d];exact gM _ _
theorem BL(a b:Int):iM 9 (.st [(0,1,.n),(1,1,.n)]) (.agg [.n .i64 (a+0),.n .i64 (b+0)]) (.agg [.n .i64 a,.n .i64 b])=some true:=by
 rw[Int.add_zero,Int.add_zero];exact gM _ _
theorem fG(a b c d p q:Int)(ha:aW a)(hb:aW b)(hc:aW c)(hd:aW d)(hp:aW p)(hq:aW q):
  ez Tryz.prog 5 [.agg [.n .u32 a,.n .u32 b,.n .u32 c,.n .u32 d,.n .u32 p,.n .u32 q]] [.v (.b true)]:=by
 refine aV dm oZ ⟨by simp,by decide⟩ ?_
 simp only[cE]
 have ga:=bW ha;have gb:=bW hb;have gc:=bW hc;have gd:=bW hd;have gp:=bW hp;have gq:=bW hq
 repeat first|with_reducible refine aZ ?_|simp only[go_sem,simprocAttr]
 refine GA.loop (I:=λm e H=>∃(k:Nat) (x0 y0 x1 y1 x2 y2:Int),m=3-k/\k<=3/\(0<k->x0=a/\y0=b)/\(1<k->x1=c/\y1=d)/\(2<k->x2=p/\y2=q)/\e=bo [(1,.p 0 0),(3,.p 1 0),(6,.n .i64 k),(2,.b false)]/\H=ax [b7 0 40 [.n .i64 x0,.n .i64 y0,.n .i64 x1,.n .i64 y1,.n .i64 x2,.n .i64 y2],b7 0 39 [.n .u32 a,.n .u32 b,.n .u32 c,.n .u32 d,.n .u32 p,.n .u32 q]]) (Wk.mk [1,0] [] ?_ ?_ ?_) ⟨0,0,0,0,0,0,0,rfl,by omega,λh=>by omega,λh=>by omega,λh=>by omega,rfl,rfl⟩ ?_
 ·simp only[oX,eA,go_sem,simprocAttr]
  repeat' refine ew ?_ ?_
  all_goals first|exact O8|skip
 ·exact .cons rfl .ls (.cons rfl .ls .nil)
 ·simp
 rintro m e H ⟨k,x0,y0,x1,y1,x2,y2,rfl,hk,e0,e1,e2,rfl,rfl⟩
 repeat first|with_reducible refine aZ ?_|simp only[go_sem,simprocAttr]
 refine⟨λh=>?_,λh=>?_⟩
 ·rcases(show k=0\/k=1\/k=2 by omega) with rfl|rfl|rfl
  all_goals
   clear h
   repeat first|with_reducible refine aZ ?_|simp only[ga,gb,gc,gd,gp,gq,go_sem,simprocAttr]
  ·refine⟨_,_,_,?_,Wk.mk [1,0] [] ?_ ?_ ?_,1,a,b,x1,y1,x2,y2,rfl,by omega,λ_=>⟨rfl,rfl⟩,λh=>by omega,λh=>by omega,rfl,rfl⟩
   ·omega
   ·simp only[oX,eA,go_sem,simprocAttr]
    repeat' refine ew ?_ ?_
    all_goals first|exact O8|skip
   ·exact .cons rfl (.lstj (x:=_) (by simp only[go_sem,simprocAttr]<;>rfl) (by rfl) (by rfl) (by rfl) (by rfl) (by rfl) (by rfl) (by simp) (λi hi=>by rcases BA hi with rfl|rfl|rfl|rfl|rfl|rfl<;>(simp only[go_sem,simprocAttr];exact Wv.same rfl))) (.cons rfl .ls .nil)
   ·simp
  ·obtain⟨rfl,rfl⟩:=e0 (by omega)
   refine⟨_,_,_,?_,Wk.mk [1,0] [] ?_ ?_ ?_,2,_,_,c,d,x2,y2,rfl,by omega,λ_=>⟨rfl,rfl⟩,λ_=>⟨rfl,rfl⟩,λh=>by omega,rfl,rfl⟩
   ·omega
   ·simp only[oX,eA,go_sem,simprocAttr]
    repeat' refine ew ?_ ?_
    all_goals first|exact O8|skip
   ·exact .cons rfl (.lstj (x:=_) (by simp only[go_sem,simprocAttr]<;>rfl) (by rfl) (by rfl) (by rfl) (by rfl) (by rfl) (by rfl) (by simp) (λi hi=>by rcases BA hi with rfl|rfl|rfl|rfl|rfl|rfl<;>(simp only[go_sem,simprocAttr];exact Wv.same rfl))) (.cons rfl .ls .nil)
   ·simp
  ·obtain⟨rfl,rfl⟩:=e0 (by omega)
   obtain⟨rfl,rfl⟩:=e1 (by omega)
   refine⟨_,_,_,?_,Wk.mk [1,0] [] ?_ ?_ ?_,3,_,_,_,_,p,q,rfl,by omega,λ_=>⟨rfl,rfl⟩,λ_=>⟨rfl,rfl⟩,λ_=>⟨rfl,rfl⟩,rfl,rfl⟩
   ·omega
   ·simp only[oX,eA,go_sem,simprocAttr]
    repeat' refine ew ?_ ?_
    all_goals first|exact O8|skip
   ·exact .cons rfl (.lstj (x:=_) (by simp only[go_sem,simprocAttr]<;>rfl) (by rfl) (by rfl) (by rfl) (by rfl) (by rfl) (by rfl) (by simp) (λi hi=>by rcases BA hi with rfl|rfl|rfl|rfl|rfl|rfl<;>(simp only[go_sem,simprocAttr];exact Wv.same rfl))) (.cons rfl .ls .nil)
   ·simp
 ·obtain rfl:k=3:=by omega
  obtain⟨rfl,rfl⟩:=e0 (by omega)
  obtain⟨rfl,rfl⟩:=e1 (by omega)
  obtain⟨rfl,rfl⟩:=e2 (by omega)
  repeat first|with_reducible refine aZ ?_|simp only[go_sem,simprocAttr]
  have l0:=rg ha;have m0:=rg hb;have l1:=rg hc;have m1:=rg hd;have l2:=rg hp;have m2:=rg hq
  have ls:=rgs ha hc;have ms:=rgs hb hd
  have n0:=ha.lo;have n1:=hb.lo;have n2:=hc.lo;have n3:=hd.lo
  refine aj [] (fargs:=[.agg [.n .i64 x0,.n .i64 y0],.agg [.n .i64 x1,.n .i64 y1]]) (bA.same rfl) (f8 ha hb hc hd) ?_ ?_
  ·simp only[go_sem,simprocAttr]
  repeat first|with_reducible refine aZ ?_|simp only[go_sem,simprocAttr]
  cases hP:(decide (x0+x1<=x2)&&decide (y0+y1<=y2))
  all_goals
   refine aj [] (fargs:=[.agg [.n .i64 (x0+x1),.n .i64 (y0+y1)],.agg [.n .i64 x2,.n .i64 y2]]) (bA.same rfl) (ba ls ms l2 m2 (hP)) ?_ ?_
   ·simp only[go_sem,simprocAttr]
   repeat first|with_reducible refine aZ ?_|simp only[go_sem,simprocAttr]
  rotate_left
  simp only[Bool.and_eq_true,decide_eq_true_eq] at hP
  refine aj [] (fargs:=[.agg [.n .i64 x0,.n .i64 y0],.agg [.n .i64 x2,.n .i64 y2]]) (bA.same rfl) (ba (r:=true) l0 m0 l2 m2 (by simp only[Bool.and_eq_true,decide_eq_true_eq];omega)) ?_ ?_
  ·simp only[go_sem,simprocAttr]
  repeat first|with_reducible refine aZ ?_|simp only[go_sem,simprocAttr]
  refine aj [] (fargs:=[.agg [.n .i64 x1,.n .i64 y1],.agg [.n .i64 x2,.n .i64 y2]]) (bA.same rfl) (ba (r:=true) l1 m1 l2 m2 (by simp only[Bool.and_eq_true,decide_eq_true_eq];omega)) ?_ ?_
  ·simp only[go_sem,simprocAttr]
  repeat first|with_reducible refine aZ ?_|simp only[go_sem,simprocAttr]
  all_goals
   refine aj [] (fargs:=[.agg [.n .i64 x0,.n .i64 y0],.agg [.n .i64 (x0+x1),.n .i64 (y0+y1)]]) (bA.same rfl) (ba (r:=true) l0 m0 ls ms (by simp only[Bool.and_eq_true,decide_eq_true_eq];omega)) ?_ ?_
   ·simp only[go_sem,simprocAttr]
   repeat first|with_reducible refine aZ ?_|simp only[go_sem,simprocAttr]
   refine aj [] (fargs:=[.agg [.n .i64 x1,.n .i64 y1],.agg [.n .i64 (x0+x1),.n .i64 (y0+y1)]]) (bA.same rfl) (ba (r:=true) l1 m1 ls ms (by simp only[Bool.and_eq_true,decide_eq_true_eq];omega)) ?_ ?_
   ·simp only[go_sem,simprocAttr]
   repeat first|with_reducible refine aZ ?_|simp only[go_sem,simprocAttr]
   refine aj [] (fargs:=[.agg [.n .i64 x0,.n .i64 y0],.agg [.n .i64 x1,.n .i64 y1]]) (bA.same rfl) (ba l0 m0 l1 m1 (rfl)) ?_ ?_
   ·simp only[go_sem,simprocAttr]
   repeat first|with_reducible refine aZ ?_|simp only[go_sem,simprocAttr]
   cases hA:(decide (x0<=x1)&&decide (y0<=y1))
   all_goals
    repeat first|with_reducible refine aZ ?_|simp only[go_sem,simprocAttr]
   rotate_left
   refine aj [] (fargs:=[.agg [.n .i64 x1,.n .i64 y1],.agg [.n .i64 x2,.n .i64 y2]]) (bA.same rfl) (ba l1 m1 l2 m2 (rfl)) ?_ ?_
   ·simp only[go_sem,simprocAttr]
   repeat first|with_reducible refine aZ ?_|simp only[go_sem,simprocAttr]
   cases hB:(decide (x1<=x2)&&decide (y1<=y2))
   all_goals
    repeat first|with_reducible refine aZ ?_|simp only[go_sem,simprocAttr]
   rotate_left
   refine aj [] (fargs:=[.agg [.n .i64 x0,.n .i64 y0],.agg [.n .i64 x2,.n .i64 y2]]) (bA.same rfl) (ba (r:=true) l0 m0 l2 m2 (by simp only[Bool.and_eq_true,decide_eq_true_eq] at*;omega)) ?_ ?_
   ·simp only[go_sem,simprocAttr]
   repeat first|with_reducible refine aZ ?_|simp only[go_sem,simprocAttr]
  all_goals
   refine aj [] (fargs:=[.agg [.n .i64 x1,.n .i64 y1],.agg [.n .i64 x0,.n .i64 y0]]) (bA.same rfl) (f8 hc hd ha hb) ?_ ?_
   ·simp only[go_sem,simprocAttr]
   repeat first|with_reducible refine aZ ?_|simp only[BK,go_sem,simprocAttr]
   refine aj [] (fargs:=[.agg [.n .i64 x0,.n .i64 y0],.agg [.n .i64 0,.n .i64 0]]) (bA.same rfl) (f8 ha hb z32 z32) ?_ ?_
   ·simp only[go_sem,simprocAttr]
   repeat first|with_reducible refine aZ ?_|simp only[BL,go_sem,simprocAttr]
   refine aj [] (fargs:=[.agg [.n .i64 x0,.n .i64 y0],.agg [.n .i64 x0,.n .i64 y0]]) (bA.same rfl) (ba (r:=true) l0 m0 l0 m0 (by simp)) ?_ ?_
   ·simp only[go_sem,simprocAttr]
   repeat first|with_reducible refine aZ ?_|simp only[go_sem,simprocAttr]
   refine aj [] (fargs:=[]) (bA.same rfl) fg ?_ ?_
   ·simp only[go_sem,simprocAttr]
   repeat first|with_reducible refine aZ ?_|simp only[go_sem,simprocAttr]
   exact aw rfl rfl
end Go.Proofs.YthehakngpbjgjaaGreat