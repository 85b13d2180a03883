/- A part of the proof of CostBounds: FlC FlD FlS. No condition. -/
import Derived.Test.YthehakngpbjgjaaGreatGd26
import Derived.Test.YthehakngpbjgjaaGreatGd17
set_option linter.unusedSimpArgs false
set_option linter.unusedVariables false
set_option linter.constructorNameAsVariable false
set_option maxRecDepth 100000
set_option maxHeartbeats 4000000
namespace Go.Proofs.YthehakngpbjgjaaGreat
open Go.RowKit
theorem dq.put2{r:Nat->Option Nat}{M:List Nat}{H:AH}{b ty n z a c:Nat}{row row2:Nat->Nat->AV}{v w:AV}(hx:H.at b=some (((ah ty 1 n z row).putN a [v]).putN c [w]))(ha:a<n)(hc:c<n)(hM:M.contains b=false)(hn:n<999999)
  (h2:∀i,i<n->(if i=c then w else if i=a then v else row i 0)=row2 i 0) (hp:∀i j,i<n->j<1->(row2 i j).pu 3=true):dq r M H b (ah ty 1 n z row2):=by
 refine dq.rows hx rfl rfl rfl (Nat.le_refl _) (by rw[if_neg (by simpa using hM)];exact Nat.le_refl _) (by decide) (λi j hi hj=>?_) hp
 obtain rfl:j=0:=by omega
 rw[<-h2 i hi,dC (by simp only[List.length_cons,List.length_nil];omega),dC (by simp only[List.length_cons,List.length_nil];omega)]
 simp only[List.length_cons,List.length_nil,Nat.mul_one,Nat.add_zero,Nat.zero_add]
 by_cases e:i=c
 ·subst e
  rw[if_pos (by omega),if_pos rfl,Nat.sub_self]
  rfl
 rw[if_neg (by omega),if_neg e]
 by_cases e2:i=a
 ·subst e2
  rw[if_pos (by omega),if_pos rfl,Nat.sub_self]
  rfl
 rw[if_neg (by omega),if_neg e2]
 exact dd i
theorem dN{pt:List Int}{a c:Nat}(ha:a<pt.length)(hc:c<pt.length)(v w:Int)(i:Nat):(if i=c then AV.n .i64 w else if i=a then AV.n .i64 v else iC pt i 0)=iC ((pt.set a v).set c w) i 0:=by
 simp only[iC]
 rw[bR (by rw[List.length_set];exact hc),bR ha]
 by_cases h:i=c
 ·rw[if_pos h,if_pos h]
 ·rw[if_neg h,if_neg h]
  by_cases h2:i=a
  ·rw[if_pos h2,if_pos h2]
  ·rw[if_neg h2,if_neg h2]
theorem ce.nilb{n:Nat}{kk:Nat->Bool}{e:Tr AV}{H:AH}(b i esz ty:Nat){x:AB}(hx:H.at b=some x)(hg:x.get i= .sl0)(hi:i<1000000)(hb:b<1000000)(hbn:b<H.next)(hlv:x.live=true)(hn:H.next<1000000):
  ce n kk e H e ((H.new (fK esz ty)).upd b (x.set i (.os H.next 0))):=by
 intro B σ a w hE hH
 have hle:=σ.le_extNil H.next
 have h1:=hH.placeNil (x:=fK esz ty) (H1:=H) rfl (λ_ _ h=>h) (by omega) rfl rfl rfl ⟨rfl,rfl⟩
 refine⟨σ.extNil H.next,⟨⟨hE.er.df,λt' v hv=>(hE.er.get t' v hv).mono hle⟩,hE.sz,hE.sm⟩,?_,Below.refl _ _,.of_eq rfl,λb c o h=> .inl ⟨b,o,h⟩,λ_ _ _=> .inl rfl,λ_ _ _=>rfl,λb x _ h=>h⟩
 have hx1:(H.new (fK esz ty)).at b=some x:=by rw[js hn,if_neg (by omega)];exact hx
 refine h1.recell hx1 hb rfl rfl rfl rfl hlv rfl (λj u hj hu=>?_)
 rw[kb hi]
 by_cases e:j=i
 ·rw[if_pos e]
  rw[e,hg] at hu
  cases hu
  exact .os0 (σ:=σ.extNil H.next) (Or.inl rfl) _
 ·rw[if_neg e];exact hu
theorem fW:∀(l pt:List Int) (v i:Int),bM pt v (l++[i])=(bM pt v l).set i.toNat v
 |[],_,_,_=>rfl
 |j::l,pt,v,i=>by rw[List.cons_append,bM,fW l,bM]
theorem jK{l:List Int}{k:Nat}(h:k<l.length):l.take (k+1)=l.take k++[l.getD k 0]:=by
 rw[List.take_succ_eq_append_getElem h,List.getD_eq_getElem?_getD,List.getElem?_eq_getElem h]
 rfl
theorem bo{i:Nat}(h:i<5):i=0\/i=1\/i=2\/i=3\/i=4:=by omega
theorem qr(cs:List (Int×Int))(hcs:cs.length<=1024)(f:Nat)(hF:kM cs f)(hT:kL cs f):oy cs (λd inL p pt lv=>lst cs f d inL p pt lv .nil):=by
 intro d p pt lv r hd hp hpt hlv hop hr
 have hok:=jr (λd inL p pt lv r h1 h2 h3 h4=>cf f d inL p pt lv .nil r h1 h2 h3 h4) hp hpt hlv hr
 rw[dT] at hr
 refine PC.vw (fP qM ⟨by simp,by decide⟩ ?_)
 simp only[aQ]
 have h0:(0:Int)<=(p:Int):=by omega
 have h1':(p:Int)<cs.length:=by omega
 have w0:IntKind.i64.wrap ((p:Int)+1)=((p+1:Nat):Int):=(ao (by omega)).trans (by omega)
 by_cases h8:8<d
 ·rw[if_pos h8] at hr
  have h8':¬(d:Int)<=8:=by omega
  repeat (first|(with_reducible refine GE.go am rfl ?_)|simp only[h8',decide_false,go_sem,simprocAttr])
  exact bb [] (fargs:=[.b false,.n .i64 (p:Int),.n .i64 15]) (aV.same rfl) (aP p 15) ⟨p,(Option.some.inj hr).symm,rfl⟩
 rw[if_neg h8] at hr
 have h8':(d:Int)<=8:=by omega
 repeat (first|(with_reducible refine GE.go am rfl ?_)|simp only[h8',decide_true,go_sem,simprocAttr])
 refine bg [] (fargs:=[.b true,.n .i64 (p:Int),.n .i64 15]) (aV.same rfl) (bI p 15) ?_ ?_
 ·simp only[go_sem,simprocAttr]
 rcases hop with hop|hop
 ·have hop':(cs.getD p (0,0)).1=27:=hop
  have hn29:¬ax cs p=29:=by rw[hop];decide
  rw[if_neg hn29] at hr
  repeat (first|(with_reducible refine GE.go am rfl ?_)|simp only[h1',h0,bp,hop',w0,decide_true,decide_false,go_sem,simprocAttr])
  cases hl:lst cs f d false (p+1) pt lv .nil with
  |none=>simp[hn29,hl] at hr
  |some r1=>
  have hr1:=cf f d false (p+1) pt lv .nil r1 (by omega) hpt (by omega) hl
  simp only[hn29,decide_false,Bool.or_false,hl] at hr
  refine dj (ob:=λ_=>none) cm [4,3,2,1,0] [] [(0,.p 0 0),(1,.n .i64 d),(2,.p0),(6,.p 2 0),(7,.p 3 0),(8,.p 4 0)] [.p 0 0,.n .i64 d,.p0] [aj 0 100 [.sl0],aj 0 106 [.n .i64 27,.n .i64 p,.n .i64 0,.sl0,.sl0],aj 0 106 [.n .i64 0,.n .i64 0,.n .i64 0,.sl0,.sl0]] [ah 3 1 pt.length 0 (iC pt),aj 0 150 [.fs 2 cs.length (pI cs),.n .i64 ((p+1:Nat):Int),.os 1 pt.length]] (hF d (p+1) pt lv r1 (by omega) (by omega) hpt (by omega) hl).o ?_ ?_ ?_ ?_ ?_ ?_ ?_ ?_ ?_ ?_ ?_ ?_ ?_ ?_
  ·simp only[aK,aJ,go_sem,simprocAttr]
   repeat' refine af ?_ ?_
   all_goals first|exact aR|skip
  ·exact .cons rfl (.lstj (x:=_) (by simp only[go_sem,simprocAttr]<;>rfl) (by rfl) (by rfl) (by rfl) (by rfl) (by rfl) (by rfl) (by simp) (λi hi=>by rcases bi hi with rfl<;>(simp only[go_sem,simprocAttr];first|exact Wv.same rfl|exact Wv.os rfl|exact Wv.p rfl|exact Wv.n (by omega)))) (.cons rfl (.lstj (x:=_) (by simp only[go_sem,simprocAttr]<;>rfl) (by rfl) (by rfl) (by rfl) (by rfl) (by rfl) (by rfl) (by simp) (λi hi=>by rcases bo hi with rfl|rfl|rfl|rfl|rfl<;>(simp only[go_sem,simprocAttr];first|exact Wv.same rfl|exact Wv.os rfl|exact Wv.p rfl|exact Wv.n (by omega)))) (.cons rfl (.lstj (x:=_) (by simp only[go_sem,simprocAttr]<;>rfl) (by rfl) (by rfl) (by rfl) (by rfl) (by rfl) (by rfl) (by simp) (λi hi=>by rcases bo hi with rfl|rfl|rfl|rfl|rfl<;>(simp only[go_sem,simprocAttr];first|exact Wv.same rfl|exact Wv.os rfl|exact Wv.p rfl|exact Wv.n (by omega)))) (.cons rfl .k1 (.cons rfl (.lstj (x:=_) (by simp only[go_sem,simprocAttr]<;>rfl) (by rfl) (by rfl) (by rfl) (by rfl) (by rfl) (by rfl) (by simp) (λi hi=>by rcases bh hi with rfl|rfl|rfl<;>(simp only[go_sem,simprocAttr];first|exact Wv.same rfl|exact Wv.os rfl|exact Wv.p rfl|exact Wv.n (by omega)))) .nil))))
  ·exact⟨Wv.p rfl,Wv.n rfl,Wv.same rfl,trivial⟩
  ·exact λr x hx=>by cases hx
  ·simp
  ·rfl
  ·exact λb hb=>by simp[cm] at hb;simp;omega
  ·rw[aw];exact fm (by simp) (by rfl)
  ·simp[AV.nm]
  ·simp[AV.nm,cm]
  ·exact .cons (.row (by decide) (λi j _ _=>rfl)) (.cons (.lst (by simp) (by rfl)) .nil)
  ·exact .cons (.lst (by simp) (by rfl)) (.cons (.lst (by simp) (by simp[AV.nm])) (.cons (.lst (by simp) (by rfl)) .nil))
  ·rintro v H' ⟨x,p1,pt1,lv1,rfl,rfl,rfl⟩
   refine⟨λ_=>none,λ_=>none,[ah 3 1 pt1.length 0 (iC pt1),aj 0 150 [.fs 2 cs.length (pI cs),.n .i64 p1,.os 1 pt1.length]],[aj 0 100 [.sl0],aj 0 106 [.n .i64 27,.n .i64 p,.n .i64 0,.sl0,.sl0],aj 0 106 [.n .i64 0,.n .i64 0,.n .i64 0,.sl0,.sl0],ah 3 1 pt1.length 0 (iC pt1),aj 0 150 [.fs 2 cs.length (pI cs),.n .i64 p1,.os 1 pt1.length]],[4,3,2,1,0],[],_,[(0,.p 0 0),(1,.n .i64 d),(2,.p0),(6,.p 2 0),(7,.p 3 0),(8,.p 4 0)],(aw _).symm,rfl,?_,?_,Wv.same rfl,by simp,(λr x hx=>by cases hx),?_,?_⟩
   ·simp only[aK,aJ,go_sem,simprocAttr]
    repeat' refine af ?_ ?_
    all_goals first|exact aR|skip
   ·simp only[List.cons_append,List.nil_append,aw]
    exact .cons rfl (.lstj (x:=_) (by simp only[go_sem,simprocAttr]<;>rfl) (by rfl) (by rfl) (by rfl) (by rfl) (by rfl) (by rfl) (by simp) (λi hi=>by rcases bi hi with rfl<;>(simp only[go_sem,simprocAttr];first|exact Wv.same rfl|exact Wv.os rfl|exact Wv.p rfl|exact Wv.n (by omega)))) (.cons rfl (.lstj (x:=_) (by simp only[go_sem,simprocAttr]<;>rfl) (by rfl) (by rfl) (by rfl) (by rfl) (by rfl) (by rfl) (by simp) (λi hi=>by rcases bo hi with rfl|rfl|rfl|rfl|rfl<;>(simp only[go_sem,simprocAttr];first|exact Wv.same rfl|exact Wv.os rfl|exact Wv.p rfl|exact Wv.n (by omega)))) (.cons rfl (.lstj (x:=_) (by simp only[go_sem,simprocAttr]<;>rfl) (by rfl) (by rfl) (by rfl) (by rfl) (by rfl) (by rfl) (by simp) (λi hi=>by rcases bo hi with rfl|rfl|rfl|rfl|rfl<;>(simp only[go_sem,simprocAttr];first|exact Wv.same rfl|exact Wv.os rfl|exact Wv.p rfl|exact Wv.n (by omega)))) (.cons rfl .k1 (.cons rfl (.lstj (x:=_) (by simp only[go_sem,simprocAttr]<;>rfl) (by rfl) (by rfl) (by rfl) (by rfl) (by rfl) (by rfl) (by simp) (λi hi=>by rcases bh hi with rfl|rfl|rfl<;>(simp only[go_sem,simprocAttr];first|exact Wv.same rfl|exact Wv.os rfl|exact Wv.p rfl|exact Wv.n (by omega)))) .nil))))
   ·intro b hb;have hb':=of_decide_eq_true hb;obtain rfl:b=0:=by omega
    exact⟨0,rfl,rfl,.inl rfl⟩
   rw[aw]
   have hr1':=hr1 x p1 pt1 lv1 rfl
   obtain⟨g1,g2,g3,g4,g5⟩:=hr1'
   dsimp only at hr
   have h01:(0:Int)<=(p1:Int):=by omega
   by_cases hc:p1<cs.length/\ax cs p1=28
   ·rw[if_pos ⟨hop,hc⟩] at hr
    have hlt':(p1:Int)<cs.length:=by omega
    have e28:(cs.getD p1 (0,0)).1=28:=hc.2
    have q1:(p:Int)<pt1.length:=by omega
    have q3:p+1<=pt1.length:=by omega
    have w1:IntKind.i64.wrap ((p1:Int)+1)=((p1+1:Nat):Int):=(ao (by omega)).trans (by omega)
    obtain⟨ptB,hB⟩:∃l,l=pt1.set p (p1:Int):=⟨_,rfl⟩
    have hBl:ptB.length=pt1.length:=by rw[hB,List.length_set]
    rw[<-hB] at hr
    repeat (first|(with_reducible refine GE.go am rfl ?_)|simp only[h01,hlt',bp,hop',decide_true,go_sem,simprocAttr])
    refine⟨λ_=>?_,λh=>by rw[e28] at h;exact absurd h (by decide)⟩
    with_reducible refine GE.go am rfl ?_
    simp only[go_sem,simprocAttr]
    refine GE.mixm am 1 (by simp only[go_sem,simprocAttr,bP]) ?_
    simp only[h0,h01,q1,q3,go_sem,simprocAttr]
    try refine(And.intro (by decide) ?_)
    repeat (first|(with_reducible refine GE.go am rfl ?_)|simp only[w1,bp,go_sem,simprocAttr])
    cases hl2:lst cs f d false (p1+1) ptB lv1 .nil with
    |none=>rw[hl2] at hr;cases hr
    |some r2=>
    have hr2:=cf f d false (p1+1) ptB lv1 .nil r2 (by omega) (by omega) (by omega) hl2
    rw[hl2] at hr
    refine dj (ob:=λ_=>none) cm [4,3,2,1,0] [] [(0,.p 0 0),(1,.n .i64 d),(2,.p0),(6,.p 2 0),(7,.p 3 0),(8,.p 4 0),(9,.n .i64 p1)] [.p 0 0,.n .i64 d,.p0] [aj 0 100 [.sl0],aj 0 106 [.n .i64 27,.n .i64 p,.n .i64 0,.fs 5 x.len x.cell,.sl0],aj 0 106 [.n .i64 0,.n .i64 0,.n .i64 0,.sl0,.sl0]] [ah 3 1 ptB.length 0 (iC ptB),aj 0 150 [.fs 2 cs.length (pI cs),.n .i64 ((p1+1:Nat):Int),.os 1 ptB.length]] (hF d (p1+1) ptB lv1 r2 (by omega) (by omega) (by omega) (by omega) hl2).o ?_ ?_ ?_ ?_ ?_ ?_ ?_ ?_ ?_ ?_ ?_ ?_ ?_ ?_
    ·simp only[aK,aJ,go_sem,simprocAttr]
     repeat' refine af ?_ ?_
     all_goals first|exact aR|skip
    ·(try rw[hBl]);exact .cons rfl (.lstj (x:=_) (by simp only[go_sem,simprocAttr]<;>rfl) (by rfl) (by rfl) (by rfl) (by rfl) (by rfl) (by rfl) (by simp) (λi hi=>by rcases bi hi with rfl<;>(simp only[go_sem,simprocAttr];first|exact Wv.same rfl|exact Wv.os rfl|exact Wv.p rfl|exact Wv.n (by omega)))) (.cons rfl (.lstj (x:=_) (by simp only[go_sem,simprocAttr]<;>rfl) (by rfl) (by rfl) (by rfl) (by rfl) (by rfl) (by rfl) (by simp) (λi hi=>by rcases bo hi with rfl|rfl|rfl|rfl|rfl<;>(simp only[go_sem,simprocAttr];first|exact Wv.same rfl|exact Wv.os rfl|exact Wv.p rfl|exact Wv.n (by omega)))) (.cons rfl (.lstj (x:=_) (by simp only[go_sem,simprocAttr]<;>rfl) (by rfl) (by rfl) (by rfl) (by rfl) (by rfl) (by rfl) (by simp) (λi hi=>by rcases bo hi with rfl|rfl|rfl|rfl|rfl<;>(simp only[go_sem,simprocAttr];first|exact Wv.same rfl|exact Wv.os rfl|exact Wv.p rfl|exact Wv.n (by omega)))) (.cons rfl (.put1 (row:=iC pt1) (row2:=iC ptB) (o:=p) (q:=p) (t:=0) (v:= .n .i64 (p1:Int)) (by simp only[go_sem,simprocAttr]) (by omega) (by decide) (by omega) rfl (by omega) (λi j hi hj=>by rw[hB];simp only[iC];rw[bR (by omega)];by_cases hh:i=p<;>simp[hh];omega) (λ_ _ _ _=>rfl)) (.cons rfl (.lstj (x:=_) (by simp only[go_sem,simprocAttr]<;>rfl) (by rfl) (by rfl) (by rfl) (by rfl) (by rfl) (by rfl) (by simp) (λi hi=>by rcases bh hi with rfl|rfl|rfl<;>(simp only[go_sem,simprocAttr];first|exact Wv.same rfl|exact Wv.os rfl|exact Wv.p rfl|exact Wv.n (by omega)))) .nil))))
    ·exact⟨Wv.p rfl,Wv.n rfl,Wv.same rfl,trivial⟩
    ·exact λr x hx=>by cases hx
    ·simp
    ·rfl
    ·exact λb hb=>by simp[cm] at hb;simp;omega
    ·rw[aw];exact fm (by simp) (by rfl)
    ·simp[AV.nm]
    ·simp[AV.nm,cm]
    ·exact .cons (.row (by decide) (λi j _ _=>rfl)) (.cons (.lst (by simp) (by rfl)) .nil)
    ·exact .cons (.lst (by simp) (by rfl)) (.cons (.lst (by simp) (by simp[AV.nm])) (.cons (.lst (by simp) (by rfl)) .nil))
    ·rintro v H' ⟨y,p2,pt2,lv2,rfl,rfl,rfl⟩
     refine⟨λ_=>none,λ_=>none,[ah 3 1 pt2.length 0 (iC pt2),aj 0 150 [.fs 2 cs.length (pI cs),.n .i64 p2,.os 1 pt2.length]],[aj 0 100 [.sl0],aj 0 106 [.n .i64 27,.n .i64 p,.n .i64 0,.fs 5 x.len x.cell,.sl0],aj 0 106 [.n .i64 0,.n .i64 0,.n .i64 0,.sl0,.sl0],ah 3 1 pt2.length 0 (iC pt2),aj 0 150 [.fs 2 cs.length (pI cs),.n .i64 p2,.os 1 pt2.length]],[4,3,2,1,0],[],_,[(0,.p 0 0),(1,.n .i64 d),(2,.p0),(6,.p 2 0),(7,.p 3 0),(8,.p 4 0),(9,.n .i64 p1)],(aw _).symm,rfl,?_,?_,Wv.same rfl,by simp,(λr x hx=>by cases hx),?_,?_⟩
     ·simp only[aK,aJ,go_sem,simprocAttr]
      repeat' refine af ?_ ?_
      all_goals first|exact aR|skip
     ·simp only[List.cons_append,List.nil_append,aw]
      exact .cons rfl (.lstj (x:=_) (by simp only[go_sem,simprocAttr]<;>rfl) (by rfl) (by rfl) (by rfl) (by rfl) (by rfl) (by rfl) (by simp) (λi hi=>by rcases bi hi with rfl<;>(simp only[go_sem,simprocAttr];first|exact Wv.same rfl|exact Wv.os rfl|exact Wv.p rfl|exact Wv.n (by omega)))) (.cons rfl (.lstj (x:=_) (by simp only[go_sem,simprocAttr]<;>rfl) (by rfl) (by rfl) (by rfl) (by rfl) (by rfl) (by rfl) (by simp) (λi hi=>by rcases bo hi with rfl|rfl|rfl|rfl|rfl<;>(simp only[go_sem,simprocAttr];first|exact Wv.same rfl|exact Wv.os rfl|exact Wv.p rfl|exact Wv.n (by omega)))) (.cons rfl (.lstj (x:=_) (by simp only[go_sem,simprocAttr]<;>rfl) (by rfl) (by rfl) (by rfl) (by rfl) (by rfl) (by rfl) (by simp) (λi hi=>by rcases bo hi with rfl|rfl|rfl|rfl|rfl<;>(simp only[go_sem,simprocAttr];first|exact Wv.same rfl|exact Wv.os rfl|exact Wv.p rfl|exact Wv.n (by omega)))) (.cons rfl .k1 (.cons rfl (.lstj (x:=_) (by simp only[go_sem,simprocAttr]<;>rfl) (by rfl) (by rfl) (by rfl) (by rfl) (by rfl) (by rfl) (by simp) (λi hi=>by rcases bh hi with rfl|rfl|rfl<;>(simp only[go_sem,simprocAttr];first|exact Wv.same rfl|exact Wv.os rfl|exact Wv.p rfl|exact Wv.n (by omega)))) .nil))))
     ·intro b hb;have hb':=of_decide_eq_true hb;obtain rfl:b=0:=by omega
      exact⟨0,rfl,rfl,.inl rfl⟩
     rw[aw]
     obtain⟨f1,f2,f3,f4,f5⟩:=hr2 y p2 pt2 lv2 rfl
     dsimp only at hr
     have h02:(0:Int)<=(p2:Int):=by omega
     by_cases hlt:p2<cs.length
     ·have hlt':(p2:Int)<cs.length:=by omega
      by_cases hend:ax cs p2=31
      ·have e31:(cs.getD p2 (0,0)).1=31:=hend
       rw[di,if_pos ⟨hlt,hend⟩] at hr
       repeat (first|(with_reducible refine GE.go am rfl ?_)|simp only[h01,bp,hop',decide_true,decide_false,hlt',h02,e31,go_sem,simprocAttr])
       refine bg [] (fargs:=[.b true,.n .i64 (p2:Int),.n .i64 15]) (aV.same rfl) (bI p2 15) ?_ ?_
       ·simp only[go_sem,simprocAttr]
       have q1:(p1:Int)<pt2.length:=by omega
       have q2:(p2:Int)<pt2.length:=by omega
       have q3:p1+1<=pt2.length:=by omega
       have q4:p2+1<=pt2.length:=by omega
       simp only[go_sem,simprocAttr]
       with_reducible refine GE.go am rfl ?_
       simp only[go_sem,simprocAttr]
       refine GE.wk (ce.mk (L:=[(0,.p 0 0),(6,.p 1 0),(7,.p 2 0),(8,.p 3 0),(9,.n .i64 p1)]) (bl:=[ah 3 1 pt2.length 0 (iC pt2),aj 0 100 [.sl0],aj 0 106 [.n .i64 27,.n .i64 p,.n .i64 0,.fs 5 x.len x.cell,.fs 5 y.len y.cell],aj 0 106 [.n .i64 0,.n .i64 0,.n .i64 0,.sl0,.sl0],aj 0 150 [.fs 2 cs.length (pI cs),.n .i64 p2,.os 4 pt2.length]]) [1,4,3,2,0] [] ?_ ?_ (by simp) (aO rfl)) ?_
       ·simp only[aK,aJ,go_sem,simprocAttr]
        repeat' refine af ?_ ?_
        all_goals first|exact aR|skip
       ·exact .cons rfl .k1 (.cons rfl (.lstj (x:=_) (by simp only[go_sem,simprocAttr]<;>rfl) (by rfl) (by rfl) (by rfl) (by rfl) (by rfl) (by rfl) (by simp) (λi hi=>by rcases bi hi with rfl<;>(simp only[go_sem,simprocAttr];first|exact Wv.same rfl|exact Wv.os rfl|exact Wv.p rfl|exact Wv.n (by omega)))) (.cons rfl (.lstj (x:=_) (by simp only[go_sem,simprocAttr]<;>rfl) (by rfl) (by rfl) (by rfl) (by rfl) (by rfl) (by rfl) (by simp) (λi hi=>by rcases bo hi with rfl|rfl|rfl|rfl|rfl<;>(simp only[go_sem,simprocAttr];first|exact Wv.same rfl|exact Wv.os rfl|exact Wv.p rfl|exact Wv.n (by omega)))) (.cons rfl (.lstj (x:=_) (by simp only[go_sem,simprocAttr]<;>rfl) (by rfl) (by rfl) (by rfl) (by rfl) (by rfl) (by rfl) (by simp) (λi hi=>by rcases bo hi with rfl|rfl|rfl|rfl|rfl<;>(simp only[go_sem,simprocAttr];first|exact Wv.same rfl|exact Wv.os rfl|exact Wv.p rfl|exact Wv.n (by omega)))) (.cons rfl (.lstj (x:=_) (by simp only[go_sem,simprocAttr]<;>rfl) (by rfl) (by rfl) (by rfl) (by rfl) (by rfl) (by rfl) (by simp) (λi hi=>by rcases bh hi with rfl|rfl|rfl<;>(simp only[go_sem,simprocAttr];first|exact Wv.same rfl|exact Wv.os rfl|exact Wv.p rfl|exact Wv.n (by omega)))) .nil))))
       refine GE.mixm am 4 (by simp only[go_sem,simprocAttr,bP]) ?_
       repeat (first|(with_reducible refine GE.go am rfl ?_)|simp only[h01,h0,q1,q2,q3,q4,decide_true,h02,go_sem,simprocAttr])
       refine⟨by decide,?_⟩
       repeat (first|(with_reducible refine GE.go am rfl ?_)|simp only[go_sem,simprocAttr])
       obtain⟨ptA,hA⟩:∃l,l=(pt2.set p1 (p2:Int)).set p2 (p:Int):=⟨_,rfl⟩
       have hAl:ptA.length=pt2.length:=by rw[hA,List.length_set,List.length_set]
       rw[<-hA] at hr
       have w9:IntKind.i64.wrap ((p2:Int)+1)=((p2+1:Nat):Int):=(ao (by omega)).trans (by omega)
       refine GE.loop (I:=λm e H=>e=aC [(0,.p 0 0),(6,.p 1 0),(7,.p 2 0),(158,.n .i64 0),(159,.n .i64 0)]/\H=ag [ah 3 1 ptA.length 0 (iC ptA),aj 0 100 [.sl0],aj 0 106 [.n .i64 27,.n .i64 p,.n .i64 0,.fs 5 x.len x.cell,.fs 5 y.len y.cell],aj 0 106 [.n .i64 0,.n .i64 0,.n .i64 0,.sl0,.sl0],aj 0 150 [.fs 2 cs.length (pI cs),.n .i64 p2,.os 4 ptA.length]]) (m:=0) (ce.mk [4,3,2,1,0] [] ?_ ?_ (by simp) (aO rfl)) ⟨rfl,rfl⟩ ?_
       ·simp only[aK,aJ,go_sem,simprocAttr]
        repeat' refine af ?_ ?_
        all_goals first|exact aR|skip
       ·rw[hAl]
        exact .cons rfl (.put2 (row:=iC pt2) (row2:=iC ptA) (a:=p1) (c:=p2) (v:= .n .i64 (p2:Int)) (w:= .n .i64 (p:Int)) (by simp only[go_sem,simprocAttr]) (by omega) (by omega) rfl (by omega) (λi hi=>by rw[hA];exact dN (by omega) (by omega) _ _ i) (λ_ _ _ _=>rfl)) (.cons rfl (.lstj (x:=_) (by simp only[go_sem,simprocAttr]<;>rfl) (by rfl) (by rfl) (by rfl) (by rfl) (by rfl) (by rfl) (by simp) (λi hi=>by rcases bi hi with rfl<;>(simp only[go_sem,simprocAttr];first|exact Wv.same rfl|exact Wv.os rfl|exact Wv.p rfl|exact Wv.n (by omega)))) (.cons rfl (.lstj (x:=_) (by simp only[go_sem,simprocAttr]<;>rfl) (by rfl) (by rfl) (by rfl) (by rfl) (by rfl) (by rfl) (by simp) (λi hi=>by rcases bo hi with rfl|rfl|rfl|rfl|rfl<;>(simp only[go_sem,simprocAttr];first|exact Wv.same rfl|exact Wv.os rfl|exact Wv.p rfl|exact Wv.n (by omega)))) (.cons rfl (.lstj (x:=_) (by simp only[go_sem,simprocAttr]<;>rfl) (by rfl) (by rfl) (by rfl) (by rfl) (by rfl) (by rfl) (by simp) (λi hi=>by rcases bo hi with rfl|rfl|rfl|rfl|rfl<;>(simp only[go_sem,simprocAttr];first|exact Wv.same rfl|exact Wv.os rfl|exact Wv.p rfl|exact Wv.n (by omega)))) (.cons rfl (.lstj (x:=_) (by simp only[go_sem,simprocAttr]<;>rfl) (by rfl) (by rfl) (by rfl) (by rfl) (by rfl) (by rfl) (by simp) (λi hi=>by rcases bh hi with rfl|rfl|rfl<;>(simp only[go_sem,simprocAttr];first|exact Wv.same rfl|exact Wv.os rfl|exact Wv.p rfl|exact Wv.n (by omega)))) .nil))))
       rintro m e H ⟨rfl,rfl⟩
       repeat (first|(with_reducible refine GE.go am rfl ?_)|simp only[w9,h01,bp,h02,go_sem,simprocAttr])
       rw[hop] at hr
       rw[if_neg (by decide),if_neg (by decide)] at hr
       refine eP [4,0] [] (.agg [.n .i64 27,.n .i64 p,.n .i64 ((p2+1:Nat):Int),.fs 5 (x).len (x).cell,.fs 5 (y).len (y).cell]) [ah 3 1 ptA.length 0 (iC ptA),aj 0 150 [.fs 2 cs.length (pI cs),.n .i64 ((p2+1:Nat):Int),.os 1 ptA.length]] (.cons rfl .k1 (.cons rfl (.lstj (x:=_) (by simp only[go_sem,simprocAttr]<;>rfl) (by rfl) (by rfl) (by rfl) (by rfl) (by rfl) (by rfl) (by simp) (λi hi=>by rcases bh hi with rfl|rfl|rfl<;>(simp only[go_sem,simprocAttr];first|exact Wv.same rfl|exact Wv.os rfl|exact Wv.p rfl|exact Wv.n (by omega)))) .nil)) (.agg rfl (λi v v' k1 k2=>?_)) (by simp) (aO rfl) ⟨.br 27 p (p2+1) x y .nil,p2+1,ptA,lv2,(Option.some.inj hr).symm,⟨27,p,p2+1,x,y,rfl,Nat.le_refl _⟩,by omega,by omega,by omega,by omega,rfl,rfl⟩
       rcases i with _|_|_|_|_|i<;>simp only[List.getElem?_cons_zero,List.getElem?_cons_succ,Option.some.injEq,List.getElem?_nil,reduceCtorEq] at k1 k2<;>subst k1 k2<;>first|exact Wv.same rfl|exact .cv (.sl0 _ _)
      ·have e31:¬(cs.getD p2 (0,0)).1=31:=hend
       rw[di,if_neg (λh=>hend h.2)] at hr
       repeat (first|(with_reducible refine GE.go am rfl ?_)|simp only[h01,bp,hop',decide_true,decide_false,hlt',h02,e31,go_sem,simprocAttr])
       exact bb [] (fargs:=[.b false,.n .i64 (p2:Int),.n .i64 15]) (aV.same rfl) (aP p2 15) ⟨p2,(Option.some.inj hr).symm,rfl⟩
     ·have hlt':¬(p2:Int)<cs.length:=by omega
      ·rw[di,if_neg (λh=>hlt h.1)] at hr
       repeat (first|(with_reducible refine GE.go am rfl ?_)|simp only[h01,bp,hop',decide_true,decide_false,hlt',h02,go_sem,simprocAttr])
       exact bb [] (fargs:=[.b false,.n .i64 (p2:Int),.n .i64 15]) (aV.same rfl) (aP p2 15) ⟨p2,(Option.some.inj hr).symm,rfl⟩
    ·rintro c H' ⟨z,rfl,rfl⟩
     exact⟨z,(Option.some.inj hr).symm,rfl⟩
   ·rw[if_neg (λh=>hc h.2)] at hr
    by_cases hlt:p1<cs.length
    ·have hlt':(p1:Int)<cs.length:=by omega
     have e28:¬(cs.getD p1 (0,0)).1=28:=λh=>hc ⟨hlt,h⟩
     by_cases hend:ax cs p1=31
     ·have e31:(cs.getD p1 (0,0)).1=31:=hend
      rw[di,if_pos ⟨hlt,hend⟩] at hr
      repeat (first|(with_reducible refine GE.go am rfl ?_)|simp only[h01,bp,hop',decide_true,decide_false,hlt',e28,e31,go_sem,simprocAttr])
      refine bg [] (fargs:=[.b true,.n .i64 (p1:Int),.n .i64 15]) (aV.same rfl) (bI p1 15) ?_ ?_
      ·simp only[go_sem,simprocAttr]
      have q1:(p:Int)<pt1.length:=by omega
      have q2:(p1:Int)<pt1.length:=by omega
      have q3:p+1<=pt1.length:=by omega
      have q4:p1+1<=pt1.length:=by omega
      simp only[go_sem,simprocAttr]
      with_reducible refine GE.go am rfl ?_
      simp only[go_sem,simprocAttr]
      refine GE.wk (ce.mk (L:=[(0,.p 0 0),(6,.p 1 0),(7,.p 2 0),(8,.p 3 0),(9,.n .i64 p)]) (bl:=[ah 3 1 pt1.length 0 (iC pt1),aj 0 100 [.sl0],aj 0 106 [.n .i64 27,.n .i64 p,.n .i64 0,.fs 5 x.len x.cell,.sl0],aj 0 106 [.n .i64 0,.n .i64 0,.n .i64 0,.sl0,.sl0],aj 0 150 [.fs 2 cs.length (pI cs),.n .i64 p1,.os 4 pt1.length]]) [1,4,3,2,0] [] ?_ ?_ (by simp) (aO rfl)) ?_
      ·simp only[aK,aJ,go_sem,simprocAttr]
       repeat' refine af ?_ ?_
       all_goals first|exact aR|skip
      ·exact .cons rfl .k1 (.cons rfl (.lstj (x:=_) (by simp only[go_sem,simprocAttr]<;>rfl) (by rfl) (by rfl) (by rfl) (by rfl) (by rfl) (by rfl) (by simp) (λi hi=>by rcases bi hi with rfl<;>(simp only[go_sem,simprocAttr];first|exact Wv.same rfl|exact Wv.os rfl|exact Wv.p rfl|exact Wv.n (by omega)))) (.cons rfl (.lstj (x:=_) (by simp only[go_sem,simprocAttr]<;>rfl) (by rfl) (by rfl) (by rfl) (by rfl) (by rfl) (by rfl) (by simp) (λi hi=>by rcases bo hi with rfl|rfl|rfl|rfl|rfl<;>(simp only[go_sem,simprocAttr];first|exact Wv.same rfl|exact Wv.os rfl|exact Wv.p rfl|exact Wv.n (by omega)))) (.cons rfl (.lstj (x:=_) (by simp only[go_sem,simprocAttr]<;>rfl) (by rfl) (by rfl) (by rfl) (by rfl) (by rfl) (by rfl) (by simp) (λi hi=>by rcases bo hi with rfl|rfl|rfl|rfl|rfl<;>(simp only[go_sem,simprocAttr];first|exact Wv.same rfl|exact Wv.os rfl|exact Wv.p rfl|exact Wv.n (by omega)))) (.cons rfl (.lstj (x:=_) (by simp only[go_sem,simprocAttr]<;>rfl) (by rfl) (by rfl) (by rfl) (by rfl) (by rfl) (by rfl) (by simp) (λi hi=>by rcases bh hi with rfl|rfl|rfl<;>(simp only[go_sem,simprocAttr];first|exact Wv.same rfl|exact Wv.os rfl|exact Wv.p rfl|exact Wv.n (by omega)))) .nil))))
      refine GE.mixm am 4 (by simp only[go_sem,simprocAttr,bP]) ?_
      repeat (first|(with_reducible refine GE.go am rfl ?_)|simp only[h01,h0,q1,q2,q3,q4,decide_true,go_sem,simprocAttr])
      refine⟨by decide,?_⟩
      repeat (first|(with_reducible refine GE.go am rfl ?_)|simp only[go_sem,simprocAttr])
      obtain⟨ptA,hA⟩:∃l,l=(pt1.set p (p1:Int)).set p1 (p:Int):=⟨_,rfl⟩
      have hAl:ptA.length=pt1.length:=by rw[hA,List.length_set,List.length_set]
      rw[<-hA] at hr
      have w9:IntKind.i64.wrap ((p1:Int)+1)=((p1+1:Nat):Int):=(ao (by omega)).trans (by omega)
      refine GE.loop (I:=λm e H=>e=aC [(0,.p 0 0),(6,.p 1 0),(7,.p 2 0),(158,.n .i64 0),(159,.n .i64 0)]/\H=ag [ah 3 1 ptA.length 0 (iC ptA),aj 0 100 [.sl0],aj 0 106 [.n .i64 27,.n .i64 p,.n .i64 0,.fs 5 x.len x.cell,.sl0],aj 0 106 [.n .i64 0,.n .i64 0,.n .i64 0,.sl0,.sl0],aj 0 150 [.fs 2 cs.length (pI cs),.n .i64 p1,.os 4 ptA.length]]) (m:=0) (ce.mk [4,3,2,1,0] [] ?_ ?_ (by simp) (aO rfl)) ⟨rfl,rfl⟩ ?_
      ·simp only[aK,aJ,go_sem,simprocAttr]
       repeat' refine af ?_ ?_
       all_goals first|exact aR|skip
      ·rw[hAl]
       exact .cons rfl (.put2 (row:=iC pt1) (row2:=iC ptA) (a:=p) (c:=p1) (v:= .n .i64 (p1:Int)) (w:= .n .i64 (p:Int)) (by simp only[go_sem,simprocAttr]) (by omega) (by omega) rfl (by omega) (λi hi=>by rw[hA];exact dN (by omega) (by omega) _ _ i) (λ_ _ _ _=>rfl)) (.cons rfl (.lstj (x:=_) (by simp only[go_sem,simprocAttr]<;>rfl) (by rfl) (by rfl) (by rfl) (by rfl) (by rfl) (by rfl) (by simp) (λi hi=>by rcases bi hi with rfl<;>(simp only[go_sem,simprocAttr];first|exact Wv.same rfl|exact Wv.os rfl|exact Wv.p rfl|exact Wv.n (by omega)))) (.cons rfl (.lstj (x:=_) (by simp only[go_sem,simprocAttr]<;>rfl) (by rfl) (by rfl) (by rfl) (by rfl) (by rfl) (by rfl) (by simp) (λi hi=>by rcases bo hi with rfl|rfl|rfl|rfl|rfl<;>(simp only[go_sem,simprocAttr];first|exact Wv.same rfl|exact Wv.os rfl|exact Wv.p rfl|exact Wv.n (by omega)))) (.cons rfl (.lstj (x:=_) (by simp only[go_sem,simprocAttr]<;>rfl) (by rfl) (by rfl) (by rfl) (by rfl) (by rfl) (by rfl) (by simp) (λi hi=>by rcases bo hi with rfl|rfl|rfl|rfl|rfl<;>(simp only[go_sem,simprocAttr];first|exact Wv.same rfl|exact Wv.os rfl|exact Wv.p rfl|exact Wv.n (by omega)))) (.cons rfl (.lstj (x:=_) (by simp only[go_sem,simprocAttr]<;>rfl) (by rfl) (by rfl) (by rfl) (by rfl) (by rfl) (by rfl) (by simp) (λi hi=>by rcases bh hi with rfl|rfl|rfl<;>(simp only[go_sem,simprocAttr];first|exact Wv.same rfl|exact Wv.os rfl|exact Wv.p rfl|exact Wv.n (by omega)))) .nil))))
      rintro m e H ⟨rfl,rfl⟩
      repeat (first|(with_reducible refine GE.go am rfl ?_)|simp only[w9,h01,bp,go_sem,simprocAttr])
      rw[hop] at hr
      rw[if_neg (by decide),if_neg (by decide)] at hr
      refine eP [4,0] [] (.agg [.n .i64 27,.n .i64 p,.n .i64 ((p1+1:Nat):Int),.fs 5 (x).len (x).cell,.fs 5 (Fo.nil).len (Fo.nil).cell]) [ah 3 1 ptA.length 0 (iC ptA),aj 0 150 [.fs 2 cs.length (pI cs),.n .i64 ((p1+1:Nat):Int),.os 1 ptA.length]] (.cons rfl .k1 (.cons rfl (.lstj (x:=_) (by simp only[go_sem,simprocAttr]<;>rfl) (by rfl) (by rfl) (by rfl) (by rfl) (by rfl) (by rfl) (by simp) (λi hi=>by rcases bh hi with rfl|rfl|rfl<;>(simp only[go_sem,simprocAttr];first|exact Wv.same rfl|exact Wv.os rfl|exact Wv.p rfl|exact Wv.n (by omega)))) .nil)) (.agg rfl (λi v v' k1 k2=>?_)) (by simp) (aO rfl) ⟨.br 27 p (p1+1) x Fo.nil .nil,p1+1,ptA,lv1,(Option.some.inj hr).symm,⟨27,p,p1+1,x,Fo.nil,rfl,Nat.le_refl _⟩,by omega,by omega,by omega,by omega,rfl,rfl⟩
      rcases i with _|_|_|_|_|i<;>simp only[List.getElem?_cons_zero,List.getElem?_cons_succ,Option.some.injEq,List.getElem?_nil,reduceCtorEq] at k1 k2<;>subst k1 k2<;>first|exact Wv.same rfl|exact .cv (.sl0 _ _)
     ·have e31:¬(cs.getD p1 (0,0)).1=31:=hend
      rw[di,if_neg (λh=>hend h.2)] at hr
      repeat (first|(with_reducible refine GE.go am rfl ?_)|simp only[h01,bp,hop',decide_true,decide_false,hlt',e28,e31,go_sem,simprocAttr])
      exact bb [] (fargs:=[.b false,.n .i64 (p1:Int),.n .i64 15]) (aV.same rfl) (aP p1 15) ⟨p1,(Option.some.inj hr).symm,rfl⟩
    ·have hlt':¬(p1:Int)<cs.length:=by omega
     ·rw[di,if_neg (λh=>hlt h.1)] at hr
      repeat (first|(with_reducible refine GE.go am rfl ?_)|simp only[h01,bp,hop',decide_true,decide_false,hlt',go_sem,simprocAttr])
      exact bb [] (fargs:=[.b false,.n .i64 (p1:Int),.n .i64 15]) (aV.same rfl) (aP p1 15) ⟨p1,(Option.some.inj hr).symm,rfl⟩
  ·rintro c H' ⟨z,rfl,rfl⟩
   exact⟨z,(Option.some.inj hr).symm,rfl⟩
 ·have hop':(cs.getD p (0,0)).1=29:=hop
  have hn27:¬ax cs p=27:=by rw[hop];decide
  have hdec:decide (ax cs p=29)=true:=by rw[hop];rfl
  rw[if_pos hop] at hr
  simp only[hdec,Bool.or_true] at hr
  repeat (first|(with_reducible refine GE.go am rfl ?_)|simp only[h1',h0,bp,go_sem,simprocAttr])
  refine⟨λ_=>?_,λh=>by rw[hop'] at h;exact absurd h (by decide)⟩
  refine GE.wk (ce.nilb 4 0 1 3 (x:=_) (by simp only[go_sem,simprocAttr]<;>rfl) (by simp only[go_sem,simprocAttr]<;>rfl) (by decide) (by decide) (by simp only[go_sem,simprocAttr]<;>decide) (by rfl) (by simp only[go_sem,simprocAttr]<;>decide)) ?_
  repeat (first|(with_reducible refine GE.go am rfl ?_)|simp only[w0,go_sem,simprocAttr])
  cases hl:lst cs f d true (p+1) pt [] .nil with
  |none=>rw[hl] at hr;cases hr
  |some r1=>
  have hr1:=cf f d true (p+1) pt [] .nil r1 (by omega) hpt (by simp) hl
  rw[hl] at hr
  obtain⟨lvE,hE⟩:∃l:List Int,l=[]:=⟨_,rfl⟩
  have hEl:lvE.length=0:=by rw[hE];rfl
  rw[<-hE] at hl
  refine dj (ob:=λ_=>none) cJ [3,2,5,1,4,0] [] [(0,.p 0 0),(1,.n .i64 d),(2,.p 1 0),(6,.p 4 0),(7,.p 5 0),(8,.p 1 0)] [.p 0 0,.n .i64 d,.p 1 0] [aj 0 106 [.n .i64 29,.n .i64 p,.n .i64 0,.sl0,.sl0],aj 0 106 [.n .i64 0,.n .i64 0,.n .i64 0,.sl0,.sl0]] [ah 3 1 lvE.length 0 (iC lvE),ah 3 1 pt.length 0 (iC pt),aj 0 100 [.os 3 lvE.length],aj 0 150 [.fs 2 cs.length (pI cs),.n .i64 ((p+1:Nat):Int),.os 2 pt.length]] (hT d (p+1) pt lvE r1 (by omega) (by omega) hpt (by omega) hl).o ?_ ?_ ?_ ?_ ?_ ?_ ?_ ?_ ?_ ?_ ?_ ?_ ?_ ?_
  ·simp only[aK,aJ,go_sem,simprocAttr]
   repeat' refine af ?_ ?_
   all_goals first|exact aR|skip
  ·rw[hEl];exact .cons rfl (.lstj (x:=_) (by simp only[go_sem,simprocAttr]<;>rfl) (by rfl) (by rfl) (by rfl) (by rfl) (by rfl) (by rfl) (by simp) (λi hi=>by rcases bo hi with rfl|rfl|rfl|rfl|rfl<;>(simp only[go_sem,simprocAttr];first|exact Wv.same rfl|exact Wv.os rfl|exact Wv.p rfl|exact Wv.n (by omega)))) (.cons rfl (.lstj (x:=_) (by simp only[go_sem,simprocAttr]<;>rfl) (by rfl) (by rfl) (by rfl) (by rfl) (by rfl) (by rfl) (by simp) (λi hi=>by rcases bo hi with rfl|rfl|rfl|rfl|rfl<;>(simp only[go_sem,simprocAttr];first|exact Wv.same rfl|exact Wv.os rfl|exact Wv.p rfl|exact Wv.n (by omega)))) (.cons rfl (.rows (x:=_) (by simp only[go_sem,simprocAttr];rfl) (by rfl) (by rfl) (by rfl) (by simp) (by decide) (by decide) (λi j h=>absurd h (Nat.not_lt_zero _)) (λi j h=>absurd h (Nat.not_lt_zero _))) (.cons rfl .k1 (.cons rfl (.lstj (x:=_) (by simp only[go_sem,simprocAttr]<;>rfl) (by rfl) (by rfl) (by rfl) (by rfl) (by rfl) (by rfl) (by simp) (λi hi=>by rcases bi hi with rfl<;>(simp only[go_sem,simprocAttr];first|exact Wv.same rfl|exact Wv.os rfl|exact Wv.p rfl|exact Wv.n (by omega)))) (.cons rfl (.lstj (x:=_) (by simp only[go_sem,simprocAttr]<;>rfl) (by rfl) (by rfl) (by rfl) (by rfl) (by rfl) (by rfl) (by simp) (λi hi=>by rcases bh hi with rfl|rfl|rfl<;>(simp only[go_sem,simprocAttr];first|exact Wv.same rfl|exact Wv.os rfl|exact Wv.p rfl|exact Wv.n (by omega)))) .nil)))))
  ·exact⟨Wv.p rfl,Wv.n rfl,Wv.p rfl,trivial⟩
  ·exact λr x hx=>by cases hx
  ·simp
  ·rfl
  ·exact λb hb=>by simp[cJ] at hb;simp;omega
  ·rw[aw];exact fk (by simp) (by rfl) (by rfl)
  ·simp[AV.nm]
  ·simp[AV.nm,cJ]
  ·exact .cons (.row (by decide) (λi j _ _=>rfl)) (.cons (.row (by decide) (λi j _ _=>rfl)) (.cons (.lst (by simp) (by rfl)) (.cons (.lst (by simp) (by rfl)) .nil)))
  ·exact .cons (.lst (by simp) (by simp[AV.nm])) (.cons (.lst (by simp) (by rfl)) .nil)
  ·rintro v H' ⟨x,p1,pt1,lv1,rfl,rfl,rfl⟩
   refine⟨λ_=>none,λ_=>none,[ah 3 1 lv1.length 0 (iC lv1),ah 3 1 pt1.length 0 (iC pt1),aj 0 100 [.os 3 lv1.length],aj 0 150 [.fs 2 cs.length (pI cs),.n .i64 p1,.os 2 pt1.length]],[ah 3 1 lv1.length 0 (iC lv1),aj 0 100 [.os 5 lv1.length],aj 0 106 [.n .i64 29,.n .i64 p,.n .i64 0,.sl0,.sl0],aj 0 106 [.n .i64 0,.n .i64 0,.n .i64 0,.sl0,.sl0],ah 3 1 pt1.length 0 (iC pt1),aj 0 150 [.fs 2 cs.length (pI cs),.n .i64 p1,.os 1 pt1.length]],[3,1,5,4,2,0],[],_,[(0,.p 0 0),(1,.n .i64 d),(2,.p 4 0),(6,.p 2 0),(7,.p 3 0),(8,.p 4 0)],(aw _).symm,rfl,?_,?_,Wv.same rfl,by simp,(λr x hx=>by cases hx),?_,?_⟩
   ·simp only[aK,aJ,go_sem,simprocAttr]
    repeat' refine af ?_ ?_
    all_goals first|exact aR|skip
   ·simp only[List.cons_append,List.nil_append,aw]
    exact .cons rfl .k1 (.cons rfl (.lstj (x:=_) (by simp only[go_sem,simprocAttr]<;>rfl) (by rfl) (by rfl) (by rfl) (by rfl) (by rfl) (by rfl) (by simp) (λi hi=>by rcases bi hi with rfl<;>(simp only[go_sem,simprocAttr];first|exact Wv.same rfl|exact Wv.os rfl|exact Wv.p rfl|exact Wv.n (by omega)))) (.cons rfl (.lstj (x:=_) (by simp only[go_sem,simprocAttr]<;>rfl) (by rfl) (by rfl) (by rfl) (by rfl) (by rfl) (by rfl) (by simp) (λi hi=>by rcases bo hi with rfl|rfl|rfl|rfl|rfl<;>(simp only[go_sem,simprocAttr];first|exact Wv.same rfl|exact Wv.os rfl|exact Wv.p rfl|exact Wv.n (by omega)))) (.cons rfl (.lstj (x:=_) (by simp only[go_sem,simprocAttr]<;>rfl) (by rfl) (by rfl) (by rfl) (by rfl) (by rfl) (by rfl) (by simp) (λi hi=>by rcases bo hi with rfl|rfl|rfl|rfl|rfl<;>(simp only[go_sem,simprocAttr];first|exact Wv.same rfl|exact Wv.os rfl|exact Wv.p rfl|exact Wv.n (by omega)))) (.cons rfl .k1 (.cons rfl (.lstj (x:=_) (by simp only[go_sem,simprocAttr]<;>rfl) (by rfl) (by rfl) (by rfl) (by rfl) (by rfl) (by rfl) (by simp) (λi hi=>by rcases bh hi with rfl|rfl|rfl<;>(simp only[go_sem,simprocAttr];first|exact Wv.same rfl|exact Wv.os rfl|exact Wv.p rfl|exact Wv.n (by omega)))) .nil)))))
   ·intro b hb;have hb':=of_decide_eq_true hb;obtain rfl:b=0:=by omega
    exact⟨0,rfl,rfl,.inl rfl⟩
   rw[aw]
   obtain⟨g1,g2,g3,g4,g5⟩:=hr1 x p1 pt1 lv1 rfl
   dsimp only at hr
   have h01:(0:Int)<=(p1:Int):=by omega
   rw[if_neg (λh=>hn27 h.1)] at hr
   by_cases hlt:p1<cs.length
   ·have hlt':(p1:Int)<cs.length:=by omega
    by_cases hend:ax cs p1=31
    ·have e31:(cs.getD p1 (0,0)).1=31:=hend
     rw[di,if_pos ⟨hlt,hend⟩] at hr
     repeat (first|(with_reducible refine GE.go am rfl ?_)|simp only[h01,bp,hop',decide_true,decide_false,hlt',e31,go_sem,simprocAttr])
     refine bg [] (fargs:=[.b true,.n .i64 (p1:Int),.n .i64 15]) (aV.same rfl) (bI p1 15) ?_ ?_
     ·simp only[go_sem,simprocAttr]
     have q1:(p:Int)<pt1.length:=by omega
     have q2:(p1:Int)<pt1.length:=by omega
     have q3:p+1<=pt1.length:=by omega
     have q4:p1+1<=pt1.length:=by omega
     simp only[go_sem,simprocAttr]
     with_reducible refine GE.go am rfl ?_
     simp only[go_sem,simprocAttr]
     refine GE.wk (ce.mk (L:=[(0,.p 0 0),(6,.p 1 0),(7,.p 2 0),(8,.p 3 0),(9,.n .i64 p)]) (bl:=[ah 3 1 pt1.length 0 (iC pt1),ah 3 1 lv1.length 0 (iC lv1),aj 0 100 [.os 4 lv1.length],aj 0 106 [.n .i64 29,.n .i64 p,.n .i64 0,.fs 5 x.len x.cell,.sl0],aj 0 106 [.n .i64 0,.n .i64 0,.n .i64 0,.sl0,.sl0],aj 0 150 [.fs 2 cs.length (pI cs),.n .i64 p1,.os 5 pt1.length]]) [1,5,4,3,2,0] [] ?_ ?_ (by simp) (aO rfl)) ?_
     ·simp only[aK,aJ,go_sem,simprocAttr]
      repeat' refine af ?_ ?_
      all_goals first|exact aR|skip
     ·exact .cons rfl .k1 (.cons rfl .k1 (.cons rfl (.lstj (x:=_) (by simp only[go_sem,simprocAttr]<;>rfl) (by rfl) (by rfl) (by rfl) (by rfl) (by rfl) (by rfl) (by simp) (λi hi=>by rcases bi hi with rfl<;>(simp only[go_sem,simprocAttr];first|exact Wv.same rfl|exact Wv.os rfl|exact Wv.p rfl|exact Wv.n (by omega)))) (.cons rfl (.lstj (x:=_) (by simp only[go_sem,simprocAttr]<;>rfl) (by rfl) (by rfl) (by rfl) (by rfl) (by rfl) (by rfl) (by simp) (λi hi=>by rcases bo hi with rfl|rfl|rfl|rfl|rfl<;>(simp only[go_sem,simprocAttr];first|exact Wv.same rfl|exact Wv.os rfl|exact Wv.p rfl|exact Wv.n (by omega)))) (.cons rfl (.lstj (x:=_) (by simp only[go_sem,simprocAttr]<;>rfl) (by rfl) (by rfl) (by rfl) (by rfl) (by rfl) (by rfl) (by simp) (λi hi=>by rcases bo hi with rfl|rfl|rfl|rfl|rfl<;>(simp only[go_sem,simprocAttr];first|exact Wv.same rfl|exact Wv.os rfl|exact Wv.p rfl|exact Wv.n (by omega)))) (.cons rfl (.lstj (x:=_) (by simp only[go_sem,simprocAttr]<;>rfl) (by rfl) (by rfl) (by rfl) (by rfl) (by rfl) (by rfl) (by simp) (λi hi=>by rcases bh hi with rfl|rfl|rfl<;>(simp only[go_sem,simprocAttr];first|exact Wv.same rfl|exact Wv.os rfl|exact Wv.p rfl|exact Wv.n (by omega)))) .nil)))))
     refine GE.mixm am 5 (by simp only[go_sem,simprocAttr,bP]) ?_
     repeat (first|(with_reducible refine GE.go am rfl ?_)|simp only[h01,h0,q1,q2,q3,q4,decide_true,go_sem,simprocAttr])
     refine⟨by decide,?_⟩
     repeat (first|(with_reducible refine GE.go am rfl ?_)|simp only[go_sem,simprocAttr])
     obtain⟨ptA,hA⟩:∃l,l=(pt1.set p (p1:Int)).set p1 (p:Int):=⟨_,rfl⟩
     have hAl:ptA.length=pt1.length:=by rw[hA,List.length_set,List.length_set]
     rw[<-hA] at hr
     have w9:IntKind.i64.wrap ((p1:Int)+1)=((p1+1:Nat):Int):=(ao (by omega)).trans (by omega)
     have hsl:∀l,(bM ptA (p1:Int) l).length=ptA.length:=λl=>eA l ptA _
     refine GE.loop (I:=λm e H=>∃k,m+k=lv1.length/\e=aC [(0,.p 0 0),(6,.p 1 0),(7,.p 2 0),(157,.os 4 lv1.length),(158,.n .i64 lv1.length),(159,.n .i64 k)]/\H=ag [ah 3 1 (bM ptA p1 (lv1.take k)).length 0 (iC (bM ptA p1 (lv1.take k))),ah 3 1 lv1.length 0 (iC lv1),aj 0 100 [.os 4 lv1.length],aj 0 106 [.n .i64 29,.n .i64 p,.n .i64 0,.fs 5 x.len x.cell,.sl0],aj 0 106 [.n .i64 0,.n .i64 0,.n .i64 0,.sl0,.sl0],aj 0 150 [.fs 2 cs.length (pI cs),.n .i64 p1,.os 5 (bM ptA p1 (lv1.take k)).length]]) (m:=lv1.length) (ce.mk [5,4,3,2,1,0] [] ?_ ?_ (by simp) (aO rfl)) ⟨0,rfl,rfl,rfl⟩ ?_
     ·simp only[aK,aJ,go_sem,simprocAttr]
      repeat' refine af ?_ ?_
      all_goals first|exact aR|skip
     ·show aJ _ _ _ _ [ah 3 1 ptA.length 0 (iC ptA),ah 3 1 lv1.length 0 (iC lv1),aj 0 100 [.os 4 lv1.length],aj 0 106 [.n .i64 29,.n .i64 p,.n .i64 0,.fs 5 x.len x.cell,.sl0],aj 0 106 [.n .i64 0,.n .i64 0,.n .i64 0,.sl0,.sl0],aj 0 150 [.fs 2 cs.length (pI cs),.n .i64 p1,.os 5 ptA.length]]
      rw[hAl]
      exact .cons rfl (.put2 (row:=iC pt1) (row2:=iC ptA) (a:=p) (c:=p1) (v:= .n .i64 (p1:Int)) (w:= .n .i64 (p:Int)) (by simp only[go_sem,simprocAttr]) (by omega) (by omega) rfl (by omega) (λi hi=>by rw[hA];exact dN (by omega) (by omega) _ _ i) (λ_ _ _ _=>rfl)) (.cons rfl .k1 (.cons rfl (.lstj (x:=_) (by simp only[go_sem,simprocAttr]<;>rfl) (by rfl) (by rfl) (by rfl) (by rfl) (by rfl) (by rfl) (by simp) (λi hi=>by rcases bi hi with rfl<;>(simp only[go_sem,simprocAttr];first|exact Wv.same rfl|exact Wv.os rfl|exact Wv.p rfl|exact Wv.n (by omega)))) (.cons rfl (.lstj (x:=_) (by simp only[go_sem,simprocAttr]<;>rfl) (by rfl) (by rfl) (by rfl) (by rfl) (by rfl) (by rfl) (by simp) (λi hi=>by rcases bo hi with rfl|rfl|rfl|rfl|rfl<;>(simp only[go_sem,simprocAttr];first|exact Wv.same rfl|exact Wv.os rfl|exact Wv.p rfl|exact Wv.n (by omega)))) (.cons rfl (.lstj (x:=_) (by simp only[go_sem,simprocAttr]<;>rfl) (by rfl) (by rfl) (by rfl) (by rfl) (by rfl) (by rfl) (by simp) (λi hi=>by rcases bo hi with rfl|rfl|rfl|rfl|rfl<;>(simp only[go_sem,simprocAttr];first|exact Wv.same rfl|exact Wv.os rfl|exact Wv.p rfl|exact Wv.n (by omega)))) (.cons rfl (.lstj (x:=_) (by simp only[go_sem,simprocAttr]<;>rfl) (by rfl) (by rfl) (by rfl) (by rfl) (by rfl) (by rfl) (by simp) (λi hi=>by rcases bh hi with rfl|rfl|rfl<;>(simp only[go_sem,simprocAttr];first|exact Wv.same rfl|exact Wv.os rfl|exact Wv.p rfl|exact Wv.n (by omega)))) .nil)))))
     rintro m e H ⟨k,hk,rfl,rfl⟩
     obtain⟨ptK,hK⟩:∃l,l=bM ptA (p1:Int) (lv1.take k):=⟨_,rfl⟩
     have hKl:ptK.length=pt1.length:=by rw[hK,hsl,hAl]
     rw[<-hK]
     have h0k:(0:Int)<=(k:Int):=by omega
     by_cases hm:k<lv1.length
     ·have hkk:(k:Int)<lv1.length:=by omega
      have hmem:lv1.getD k 0 ∈ lv1:=by rw[List.getD_eq_getElem?_getD,List.getElem?_eq_getElem hm];exact List.getElem_mem hm
      obtain⟨hz0,hz1⟩:=(g5 _ hmem).elim (λh=>absurd h (List.not_mem_nil)) id
      obtain⟨z,hz⟩:∃z:Nat,lv1.getD k 0=(z:Int):=⟨(lv1.getD k 0).toNat,by omega⟩
      have hzl:z<ptK.length:=by omega
      have hzi:(z:Int)<ptK.length:=by omega
      have hz2:(0:Int)<=(z:Int):=by omega
      have hzs:z+1<=ptK.length:=hzl
      have hgk:(ah 3 1 lv1.length 0 (iC lv1)).get k= .n .i64 (z:Int):=by rw[dd];simp only[iC,hz]
      have wk:IntKind.i64.wrap ((k:Int)+1)=((k+1:Nat):Int):=(ao (by omega)).trans (by omega)
      have hK1:bM ptA (p1:Int) (lv1.take (k+1))=ptK.set z (p1:Int):=by rw[jK hm,fW,<-hK,hz,Int.toNat_natCast]
      repeat (first|with_reducible refine GE.seq ?_|with_reducible refine GE.block ?_|with_reducible refine GE.skip ?_|with_reducible refine GE.reg ?_|with_reducible refine GE.cond ?_|simp only[hkk,h0k,hm,hgk,decide_true,go_sem,simprocAttr])
      refine GE.mixm am 5 (by simp only[go_sem,simprocAttr,bP]) ?_
      simp only[hzi,hz2,hzs,h01,go_sem,simprocAttr]
      try refine(And.intro (by decide) ?_)
      repeat (first|(with_reducible refine GE.go am rfl ?_)|simp only[wk,go_sem,simprocAttr])
      refine⟨m-1,_,_,by omega,ce.mk [5,4,3,2,1,0] [] ?_ ?_ (by simp) (aO rfl),k+1,by omega,rfl,rfl⟩
      ·simp only[aK,aJ,go_sem,simprocAttr]
       repeat' refine af ?_ ?_
       all_goals first|exact aR|skip
      ·rw[hK1,List.length_set]
       exact .cons rfl (.put1 (row:=iC ptK) (row2:=iC (ptK.set z (p1:Int))) (o:=z) (q:=z) (t:=0) (v:= .n .i64 (p1:Int)) (by simp only[go_sem,simprocAttr]) (by omega) (by decide) (by omega) rfl (by omega) (λi j hi hj=>by simp only[iC];rw[bR hzl];by_cases hh:i=z<;>simp[hh];omega) (λ_ _ _ _=>rfl)) (.cons rfl .k1 (.cons rfl (.lstj (x:=_) (by simp only[go_sem,simprocAttr]<;>rfl) (by rfl) (by rfl) (by rfl) (by rfl) (by rfl) (by rfl) (by simp) (λi hi=>by rcases bi hi with rfl<;>(simp only[go_sem,simprocAttr];first|exact Wv.same rfl|exact Wv.os rfl|exact Wv.p rfl|exact Wv.n (by omega)))) (.cons rfl (.lstj (x:=_) (by simp only[go_sem,simprocAttr]<;>rfl) (by rfl) (by rfl) (by rfl) (by rfl) (by rfl) (by rfl) (by simp) (λi hi=>by rcases bo hi with rfl|rfl|rfl|rfl|rfl<;>(simp only[go_sem,simprocAttr];first|exact Wv.same rfl|exact Wv.os rfl|exact Wv.p rfl|exact Wv.n (by omega)))) (.cons rfl (.lstj (x:=_) (by simp only[go_sem,simprocAttr]<;>rfl) (by rfl) (by rfl) (by rfl) (by rfl) (by rfl) (by rfl) (by simp) (λi hi=>by rcases bo hi with rfl|rfl|rfl|rfl|rfl<;>(simp only[go_sem,simprocAttr];first|exact Wv.same rfl|exact Wv.os rfl|exact Wv.p rfl|exact Wv.n (by omega)))) (.cons rfl (.lstj (x:=_) (by simp only[go_sem,simprocAttr]<;>rfl) (by rfl) (by rfl) (by rfl) (by rfl) (by rfl) (by rfl) (by simp) (λi hi=>by rcases bh hi with rfl|rfl|rfl<;>(simp only[go_sem,simprocAttr];first|exact Wv.same rfl|exact Wv.os rfl|exact Wv.p rfl|exact Wv.n (by omega)))) .nil)))))
     ·have hkk:¬(k:Int)<lv1.length:=by omega
      have hKe:bM ptA (p1:Int) lv1=ptK:=by rw[hK,List.take_of_length_le (by omega)]
      repeat (first|(with_reducible refine GE.go am rfl ?_)|simp only[hkk,w9,h01,bp,decide_false,go_sem,simprocAttr])
      rw[hop] at hr
      rw[if_pos rfl,if_pos rfl,hKe] at hr
      refine eP [5,0] [] (.agg [.n .i64 29,.n .i64 p,.n .i64 ((p1+1:Nat):Int),.fs 5 (x).len (x).cell,.fs 5 (Fo.nil).len (Fo.nil).cell]) [ah 3 1 ptK.length 0 (iC ptK),aj 0 150 [.fs 2 cs.length (pI cs),.n .i64 ((p1+1:Nat):Int),.os 1 ptK.length]] (.cons rfl .k1 (.cons rfl (.lstj (x:=_) (by simp only[go_sem,simprocAttr]<;>rfl) (by rfl) (by rfl) (by rfl) (by rfl) (by rfl) (by rfl) (by simp) (λi hi=>by rcases bh hi with rfl|rfl|rfl<;>(simp only[go_sem,simprocAttr];first|exact Wv.same rfl|exact Wv.os rfl|exact Wv.p rfl|exact Wv.n (by omega)))) .nil)) (.agg rfl (λi v v' k1 k2=>?_)) (by simp) (aO rfl) ⟨.br 29 p (p1+1) x Fo.nil .nil,p1+1,ptK,lv,(Option.some.inj hr).symm,⟨29,p,p1+1,x,Fo.nil,rfl,Nat.le_refl _⟩,by omega,by omega,by omega,by omega,rfl,rfl⟩
      rcases i with _|_|_|_|_|i<;>simp only[List.getElem?_cons_zero,List.getElem?_cons_succ,Option.some.injEq,List.getElem?_nil,reduceCtorEq] at k1 k2<;>subst k1 k2<;>first|exact Wv.same rfl|exact .cv (.sl0 _ _)
    ·have e31:¬(cs.getD p1 (0,0)).1=31:=hend
     rw[di,if_neg (λh=>hend h.2)] at hr
     repeat (first|(with_reducible refine GE.go am rfl ?_)|simp only[h01,bp,hop',decide_true,decide_false,hlt',e31,go_sem,simprocAttr])
     exact bb [] (fargs:=[.b false,.n .i64 (p1:Int),.n .i64 15]) (aV.same rfl) (aP p1 15) ⟨p1,(Option.some.inj hr).symm,rfl⟩
   ·have hlt':¬(p1:Int)<cs.length:=by omega
    ·rw[di,if_neg (λh=>hlt h.1)] at hr
     repeat (first|(with_reducible refine GE.go am rfl ?_)|simp only[h01,bp,hop',decide_true,decide_false,hlt',go_sem,simprocAttr])
     exact bb [] (fargs:=[.b false,.n .i64 (p1:Int),.n .i64 15]) (aV.same rfl) (aP p1 15) ⟨p1,(Option.some.inj hr).symm,rfl⟩
  ·rintro c H' ⟨z,rfl,rfl⟩
   exact⟨z,(Option.some.inj hr).symm,rfl⟩
theorem qq(cs:List (Int×Int))(hcs:cs.length<=1024)(f:Nat)(hF:kM cs f)(hT:kL cs f):ox cs (λd inL p pt lv=>lst cs f d inL p pt lv .nil):=by
 intro d p pt lv r hd hp hpt hlv hop hr
 have hok:=jr (λd inL p pt lv r h1 h2 h3 h4=>cf f d inL p pt lv .nil r h1 h2 h3 h4) hp hpt hlv hr
 rw[dT] at hr
 refine PC.vw (fP qM ⟨by simp,by decide⟩ ?_)
 simp only[aQ]
 have h0:(0:Int)<=(p:Int):=by omega
 have h1':(p:Int)<cs.length:=by omega
 have w0:IntKind.i64.wrap ((p:Int)+1)=((p+1:Nat):Int):=(ao (by omega)).trans (by omega)
 by_cases h8:8<d
 ·rw[if_pos h8] at hr
  have h8':¬(d:Int)<=8:=by omega
  repeat (first|(with_reducible refine GE.go am rfl ?_)|simp only[h8',decide_false,go_sem,simprocAttr])
  exact bb [] (fargs:=[.b false,.n .i64 (p:Int),.n .i64 15]) (aV.same rfl) (aP p 15) ⟨p,(Option.some.inj hr).symm,rfl⟩
 rw[if_neg h8] at hr
 have h8':(d:Int)<=8:=by omega
 repeat (first|(with_reducible refine GE.go am rfl ?_)|simp only[h8',decide_true,go_sem,simprocAttr])
 refine bg [] (fargs:=[.b true,.n .i64 (p:Int),.n .i64 15]) (aV.same rfl) (bI p 15) ?_ ?_
 ·simp only[go_sem,simprocAttr]
 rcases hop with hop|hop
 ·have hop':(cs.getD p (0,0)).1=27:=hop
  have hn29:¬ax cs p=29:=by rw[hop];decide
  rw[if_neg hn29] at hr
  repeat (first|(with_reducible refine GE.go am rfl ?_)|simp only[h1',h0,bp,hop',w0,decide_true,decide_false,go_sem,simprocAttr])
  cases hl:lst cs f d true (p+1) pt lv .nil with
  |none=>simp[hn29,hl] at hr
  |some r1=>
  have hr1:=cf f d true (p+1) pt lv .nil r1 (by omega) hpt (by omega) hl
  simp only[hn29,decide_false,Bool.or_false,hl] at hr
  refine dj (ob:=λ_=>none) cJ [6,5,4,3,2,1,0] [] [(0,.p 0 0),(1,.n .i64 d),(2,.p 1 0),(6,.p 4 0),(7,.p 5 0),(8,.p 6 0)] [.p 0 0,.n .i64 d,.p 1 0] [aj 0 100 [.sl0],aj 0 106 [.n .i64 27,.n .i64 p,.n .i64 0,.sl0,.sl0],aj 0 106 [.n .i64 0,.n .i64 0,.n .i64 0,.sl0,.sl0]] [ah 3 1 lv.length 0 (iC lv),ah 3 1 pt.length 0 (iC pt),aj 0 100 [.os 3 lv.length],aj 0 150 [.fs 2 cs.length (pI cs),.n .i64 ((p+1:Nat):Int),.os 2 pt.length]] (hT d (p+1) pt lv r1 (by omega) (by omega) hpt (by omega) hl).o ?_ ?_ ?_ ?_ ?_ ?_ ?_ ?_ ?_ ?_ ?_ ?_ ?_ ?_
  ·simp only[aK,aJ,go_sem,simprocAttr]
   repeat' refine af ?_ ?_
   all_goals first|exact aR|skip
  ·exact .cons rfl (.lstj (x:=_) (by simp only[go_sem,simprocAttr]<;>rfl) (by rfl) (by rfl) (by rfl) (by rfl) (by rfl) (by rfl) (by simp) (λi hi=>by rcases bi hi with rfl<;>(simp only[go_sem,simprocAttr];first|exact Wv.same rfl|exact Wv.os rfl|exact Wv.p rfl|exact Wv.n (by omega)))) (.cons rfl (.lstj (x:=_) (by simp only[go_sem,simprocAttr]<;>rfl) (by rfl) (by rfl) (by rfl) (by rfl) (by rfl) (by rfl) (by simp) (λi hi=>by rcases bo hi with rfl|rfl|rfl|rfl|rfl<;>(simp only[go_sem,simprocAttr];first|exact Wv.same rfl|exact Wv.os rfl|exact Wv.p rfl|exact Wv.n (by omega)))) (.cons rfl (.lstj (x:=_) (by simp only[go_sem,simprocAttr]<;>rfl) (by rfl) (by rfl) (by rfl) (by rfl) (by rfl) (by rfl) (by simp) (λi hi=>by rcases bo hi with rfl|rfl|rfl|rfl|rfl<;>(simp only[go_sem,simprocAttr];first|exact Wv.same rfl|exact Wv.os rfl|exact Wv.p rfl|exact Wv.n (by omega)))) (.cons rfl .k1 (.cons rfl .k1 (.cons rfl (.lstj (x:=_) (by simp only[go_sem,simprocAttr]<;>rfl) (by rfl) (by rfl) (by rfl) (by rfl) (by rfl) (by rfl) (by simp) (λi hi=>by rcases bi hi with rfl<;>(simp only[go_sem,simprocAttr];first|exact Wv.same rfl|exact Wv.os rfl|exact Wv.p rfl|exact Wv.n (by omega)))) (.cons rfl (.lstj (x:=_) (by simp only[go_sem,simprocAttr]<;>rfl) (by rfl) (by rfl) (by rfl) (by rfl) (by rfl) (by rfl) (by simp) (λi hi=>by rcases bh hi with rfl|rfl|rfl<;>(simp only[go_sem,simprocAttr];first|exact Wv.same rfl|exact Wv.os rfl|exact Wv.p rfl|exact Wv.n (by omega)))) .nil))))))
  ·exact⟨Wv.p rfl,Wv.n rfl,Wv.p rfl,trivial⟩
  ·exact λr x hx=>by cases hx
  ·simp
  ·rfl
  ·exact λb hb=>by simp[cJ] at hb;simp;omega
  ·rw[aw];exact fk (by simp) (by rfl) (by rfl)
  ·simp[AV.nm]
  ·simp[AV.nm,cJ]
  ·exact .cons (.row (by decide) (λi j _ _=>rfl)) (.cons (.row (by decide) (λi j _ _=>rfl)) (.cons (.lst (by simp) (by rfl)) (.cons (.lst (by simp) (by rfl)) .nil)))
  ·exact .cons (.lst (by simp) (by rfl)) (.cons (.lst (by simp) (by simp[AV.nm])) (.cons (.lst (by simp) (by rfl)) .nil))
  ·rintro v H' ⟨x,p1,pt1,lv1,rfl,rfl,rfl⟩
   refine⟨λ_=>none,λ_=>none,[ah 3 1 lv1.length 0 (iC lv1),ah 3 1 pt1.length 0 (iC pt1),aj 0 100 [.os 3 lv1.length],aj 0 150 [.fs 2 cs.length (pI cs),.n .i64 p1,.os 2 pt1.length]],[aj 0 100 [.sl0],aj 0 106 [.n .i64 27,.n .i64 p,.n .i64 0,.sl0,.sl0],aj 0 106 [.n .i64 0,.n .i64 0,.n .i64 0,.sl0,.sl0],ah 3 1 lv1.length 0 (iC lv1),ah 3 1 pt1.length 0 (iC pt1),aj 0 100 [.os 3 lv1.length],aj 0 150 [.fs 2 cs.length (pI cs),.n .i64 p1,.os 2 pt1.length]],[6,5,4,3,2,1,0],[],_,[(0,.p 0 0),(1,.n .i64 d),(2,.p 1 0),(6,.p 4 0),(7,.p 5 0),(8,.p 6 0)],(aw _).symm,rfl,?_,?_,Wv.same rfl,by simp,(λr x hx=>by cases hx),?_,?_⟩
   ·simp only[aK,aJ,go_sem,simprocAttr]
    repeat' refine af ?_ ?_
    all_goals first|exact aR|skip
   ·simp only[List.cons_append,List.nil_append,aw]
    exact .cons rfl (.lstj (x:=_) (by simp only[go_sem,simprocAttr]<;>rfl) (by rfl) (by rfl) (by rfl) (by rfl) (by rfl) (by rfl) (by simp) (λi hi=>by rcases bi hi with rfl<;>(simp only[go_sem,simprocAttr];first|exact Wv.same rfl|exact Wv.os rfl|exact Wv.p rfl|exact Wv.n (by omega)))) (.cons rfl (.lstj (x:=_) (by simp only[go_sem,simprocAttr]<;>rfl) (by rfl) (by rfl) (by rfl) (by rfl) (by rfl) (by rfl) (by simp) (λi hi=>by rcases bo hi with rfl|rfl|rfl|rfl|rfl<;>(simp only[go_sem,simprocAttr];first|exact Wv.same rfl|exact Wv.os rfl|exact Wv.p rfl|exact Wv.n (by omega)))) (.cons rfl (.lstj (x:=_) (by simp only[go_sem,simprocAttr]<;>rfl) (by rfl) (by rfl) (by rfl) (by rfl) (by rfl) (by rfl) (by simp) (λi hi=>by rcases bo hi with rfl|rfl|rfl|rfl|rfl<;>(simp only[go_sem,simprocAttr];first|exact Wv.same rfl|exact Wv.os rfl|exact Wv.p rfl|exact Wv.n (by omega)))) (.cons rfl .k1 (.cons rfl .k1 (.cons rfl (.lstj (x:=_) (by simp only[go_sem,simprocAttr]<;>rfl) (by rfl) (by rfl) (by rfl) (by rfl) (by rfl) (by rfl) (by simp) (λi hi=>by rcases bi hi with rfl<;>(simp only[go_sem,simprocAttr];first|exact Wv.same rfl|exact Wv.os rfl|exact Wv.p rfl|exact Wv.n (by omega)))) (.cons rfl (.lstj (x:=_) (by simp only[go_sem,simprocAttr]<;>rfl) (by rfl) (by rfl) (by rfl) (by rfl) (by rfl) (by rfl) (by simp) (λi hi=>by rcases bh hi with rfl|rfl|rfl<;>(simp only[go_sem,simprocAttr];first|exact Wv.same rfl|exact Wv.os rfl|exact Wv.p rfl|exact Wv.n (by omega)))) .nil))))))
   ·intro b hb;have hb':=of_decide_eq_true hb;rcases(show b=0\/b=1 by omega) with rfl|rfl
    ·exact⟨0,rfl,rfl,.inl rfl⟩
    ·exact⟨1,rfl,rfl,.inl rfl⟩
   rw[aw]
   have hr1':=hr1 x p1 pt1 lv1 rfl
   obtain⟨g1,g2,g3,g4,g5⟩:=hr1'
   dsimp only at hr
   have h01:(0:Int)<=(p1:Int):=by omega
   by_cases hc:p1<cs.length/\ax cs p1=28
   ·rw[if_pos ⟨hop,hc⟩] at hr
    have hlt':(p1:Int)<cs.length:=by omega
    have e28:(cs.getD p1 (0,0)).1=28:=hc.2
    have q1:(p:Int)<pt1.length:=by omega
    have q3:p+1<=pt1.length:=by omega
    have w1:IntKind.i64.wrap ((p1:Int)+1)=((p1+1:Nat):Int):=(ao (by omega)).trans (by omega)
    obtain⟨ptB,hB⟩:∃l,l=pt1.set p (p1:Int):=⟨_,rfl⟩
    have hBl:ptB.length=pt1.length:=by rw[hB,List.length_set]
    rw[<-hB] at hr
    repeat (first|(with_reducible refine GE.go am rfl ?_)|simp only[h01,hlt',bp,hop',decide_true,go_sem,simprocAttr])
    refine⟨λ_=>?_,λh=>by rw[e28] at h;exact absurd h (by decide)⟩
    with_reducible refine GE.go am rfl ?_
    simp only[go_sem,simprocAttr]
    refine GE.mixm am 2 (by simp only[go_sem,simprocAttr,bP]) ?_
    simp only[h0,h01,q1,q3,go_sem,simprocAttr]
    try refine(And.intro (by decide) ?_)
    repeat (first|(with_reducible refine GE.go am rfl ?_)|simp only[w1,bp,go_sem,simprocAttr])
    cases hl2:lst cs f d true (p1+1) ptB lv1 .nil with
    |none=>rw[hl2] at hr;cases hr
    |some r2=>
    have hr2:=cf f d true (p1+1) ptB lv1 .nil r2 (by omega) (by omega) (by omega) hl2
    rw[hl2] at hr
    refine dj (ob:=λ_=>none) cJ [6,5,4,3,2,1,0] [] [(0,.p 0 0),(1,.n .i64 d),(2,.p 1 0),(6,.p 4 0),(7,.p 5 0),(8,.p 6 0),(9,.n .i64 p1)] [.p 0 0,.n .i64 d,.p 1 0] [aj 0 100 [.sl0],aj 0 106 [.n .i64 27,.n .i64 p,.n .i64 0,.fs 5 x.len x.cell,.sl0],aj 0 106 [.n .i64 0,.n .i64 0,.n .i64 0,.sl0,.sl0]] [ah 3 1 lv1.length 0 (iC lv1),ah 3 1 ptB.length 0 (iC ptB),aj 0 100 [.os 3 lv1.length],aj 0 150 [.fs 2 cs.length (pI cs),.n .i64 ((p1+1:Nat):Int),.os 2 ptB.length]] (hT d (p1+1) ptB lv1 r2 (by omega) (by omega) (by omega) (by omega) hl2).o ?_ ?_ ?_ ?_ ?_ ?_ ?_ ?_ ?_ ?_ ?_ ?_ ?_ ?_
    ·simp only[aK,aJ,go_sem,simprocAttr]
     repeat' refine af ?_ ?_
     all_goals first|exact aR|skip
    ·(try rw[hBl]);exact .cons rfl (.lstj (x:=_) (by simp only[go_sem,simprocAttr]<;>rfl) (by rfl) (by rfl) (by rfl) (by rfl) (by rfl) (by rfl) (by simp) (λi hi=>by rcases bi hi with rfl<;>(simp only[go_sem,simprocAttr];first|exact Wv.same rfl|exact Wv.os rfl|exact Wv.p rfl|exact Wv.n (by omega)))) (.cons rfl (.lstj (x:=_) (by simp only[go_sem,simprocAttr]<;>rfl) (by rfl) (by rfl) (by rfl) (by rfl) (by rfl) (by rfl) (by simp) (λi hi=>by rcases bo hi with rfl|rfl|rfl|rfl|rfl<;>(simp only[go_sem,simprocAttr];first|exact Wv.same rfl|exact Wv.os rfl|exact Wv.p rfl|exact Wv.n (by omega)))) (.cons rfl (.lstj (x:=_) (by simp only[go_sem,simprocAttr]<;>rfl) (by rfl) (by rfl) (by rfl) (by rfl) (by rfl) (by rfl) (by simp) (λi hi=>by rcases bo hi with rfl|rfl|rfl|rfl|rfl<;>(simp only[go_sem,simprocAttr];first|exact Wv.same rfl|exact Wv.os rfl|exact Wv.p rfl|exact Wv.n (by omega)))) (.cons rfl .k1 (.cons rfl (.put1 (row:=iC pt1) (row2:=iC ptB) (o:=p) (q:=p) (t:=0) (v:= .n .i64 (p1:Int)) (by simp only[go_sem,simprocAttr]) (by omega) (by decide) (by omega) rfl (by omega) (λi j hi hj=>by rw[hB];simp only[iC];rw[bR (by omega)];by_cases hh:i=p<;>simp[hh];omega) (λ_ _ _ _=>rfl)) (.cons rfl (.lstj (x:=_) (by simp only[go_sem,simprocAttr]<;>rfl) (by rfl) (by rfl) (by rfl) (by rfl) (by rfl) (by rfl) (by simp) (λi hi=>by rcases bi hi with rfl<;>(simp only[go_sem,simprocAttr];first|exact Wv.same rfl|exact Wv.os rfl|exact Wv.p rfl|exact Wv.n (by omega)))) (.cons rfl (.lstj (x:=_) (by simp only[go_sem,simprocAttr]<;>rfl) (by rfl) (by rfl) (by rfl) (by rfl) (by rfl) (by rfl) (by simp) (λi hi=>by rcases bh hi with rfl|rfl|rfl<;>(simp only[go_sem,simprocAttr];first|exact Wv.same rfl|exact Wv.os rfl|exact Wv.p rfl|exact Wv.n (by omega)))) .nil))))))
    ·exact⟨Wv.p rfl,Wv.n rfl,Wv.p rfl,trivial⟩
    ·exact λr x hx=>by cases hx
    ·simp
    ·rfl
    ·exact λb hb=>by simp[cJ] at hb;simp;omega
    ·rw[aw];exact fk (by simp) (by rfl) (by rfl)
    ·simp[AV.nm]
    ·simp[AV.nm,cJ]
    ·exact .cons (.row (by decide) (λi j _ _=>rfl)) (.cons (.row (by decide) (λi j _ _=>rfl)) (.cons (.lst (by simp) (by rfl)) (.cons (.lst (by simp) (by rfl)) .nil)))
    ·exact .cons (.lst (by simp) (by rfl)) (.cons (.lst (by simp) (by simp[AV.nm])) (.cons (.lst (by simp) (by rfl)) .nil))
    ·rintro v H' ⟨y,p2,pt2,lv2,rfl,rfl,rfl⟩
     refine⟨λ_=>none,λ_=>none,[ah 3 1 lv2.length 0 (iC lv2),ah 3 1 pt2.length 0 (iC pt2),aj 0 100 [.os 3 lv2.length],aj 0 150 [.fs 2 cs.length (pI cs),.n .i64 p2,.os 2 pt2.length]],[aj 0 100 [.sl0],aj 0 106 [.n .i64 27,.n .i64 p,.n .i64 0,.fs 5 x.len x.cell,.sl0],aj 0 106 [.n .i64 0,.n .i64 0,.n .i64 0,.sl0,.sl0],ah 3 1 lv2.length 0 (iC lv2),ah 3 1 pt2.length 0 (iC pt2),aj 0 100 [.os 3 lv2.length],aj 0 150 [.fs 2 cs.length (pI cs),.n .i64 p2,.os 2 pt2.length]],[6,5,4,3,2,1,0],[],_,[(0,.p 0 0),(1,.n .i64 d),(2,.p 1 0),(6,.p 4 0),(7,.p 5 0),(8,.p 6 0),(9,.n .i64 p1)],(aw _).symm,rfl,?_,?_,Wv.same rfl,by simp,(λr x hx=>by cases hx),?_,?_⟩
     ·simp only[aK,aJ,go_sem,simprocAttr]
      repeat' refine af ?_ ?_
      all_goals first|exact aR|skip
     ·simp only[List.cons_append,List.nil_append,aw]
      exact .cons rfl (.lstj (x:=_) (by simp only[go_sem,simprocAttr]<;>rfl) (by rfl) (by rfl) (by rfl) (by rfl) (by rfl) (by rfl) (by simp) (λi hi=>by rcases bi hi with rfl<;>(simp only[go_sem,simprocAttr];first|exact Wv.same rfl|exact Wv.os rfl|exact Wv.p rfl|exact Wv.n (by omega)))) (.cons rfl (.lstj (x:=_) (by simp only[go_sem,simprocAttr]<;>rfl) (by rfl) (by rfl) (by rfl) (by rfl) (by rfl) (by rfl) (by simp) (λi hi=>by rcases bo hi with rfl|rfl|rfl|rfl|rfl<;>(simp only[go_sem,simprocAttr];first|exact Wv.same rfl|exact Wv.os rfl|exact Wv.p rfl|exact Wv.n (by omega)))) (.cons rfl (.lstj (x:=_) (by simp only[go_sem,simprocAttr]<;>rfl) (by rfl) (by rfl) (by rfl) (by rfl) (by rfl) (by rfl) (by simp) (λi hi=>by rcases bo hi with rfl|rfl|rfl|rfl|rfl<;>(simp only[go_sem,simprocAttr];first|exact Wv.same rfl|exact Wv.os rfl|exact Wv.p rfl|exact Wv.n (by omega)))) (.cons rfl .k1 (.cons rfl .k1 (.cons rfl (.lstj (x:=_) (by simp only[go_sem,simprocAttr]<;>rfl) (by rfl) (by rfl) (by rfl) (by rfl) (by rfl) (by rfl) (by simp) (λi hi=>by rcases bi hi with rfl<;>(simp only[go_sem,simprocAttr];first|exact Wv.same rfl|exact Wv.os rfl|exact Wv.p rfl|exact Wv.n (by omega)))) (.cons rfl (.lstj (x:=_) (by simp only[go_sem,simprocAttr]<;>rfl) (by rfl) (by rfl) (by rfl) (by rfl) (by rfl) (by rfl) (by simp) (λi hi=>by rcases bh hi with rfl|rfl|rfl<;>(simp only[go_sem,simprocAttr];first|exact Wv.same rfl|exact Wv.os rfl|exact Wv.p rfl|exact Wv.n (by omega)))) .nil))))))
     ·intro b hb;have hb':=of_decide_eq_true hb;rcases(show b=0\/b=1 by omega) with rfl|rfl
      ·exact⟨0,rfl,rfl,.inl rfl⟩
      ·exact⟨1,rfl,rfl,.inl rfl⟩
     rw[aw]
     obtain⟨f1,f2,f3,f4,f5⟩:=hr2 y p2 pt2 lv2 rfl
     dsimp only at hr
     have h02:(0:Int)<=(p2:Int):=by omega
     by_cases hlt:p2<cs.length
     ·have hlt':(p2:Int)<cs.length:=by omega
      by_cases hend:ax cs p2=31
      ·have e31:(cs.getD p2 (0,0)).1=31:=hend
       rw[di,if_pos ⟨hlt,hend⟩] at hr
       repeat (first|(with_reducible refine GE.go am rfl ?_)|simp only[h01,bp,hop',decide_true,decide_false,hlt',h02,e31,go_sem,simprocAttr])
       refine bg [] (fargs:=[.b true,.n .i64 (p2:Int),.n .i64 15]) (aV.same rfl) (bI p2 15) ?_ ?_
       ·simp only[go_sem,simprocAttr]
       have q1:(p1:Int)<pt2.length:=by omega
       have q2:(p2:Int)<pt2.length:=by omega
       have q3:p1+1<=pt2.length:=by omega
       have q4:p2+1<=pt2.length:=by omega
       simp only[go_sem,simprocAttr]
       with_reducible refine GE.go am rfl ?_
       simp only[go_sem,simprocAttr]
       refine GE.wk (ce.mk (L:=[(0,.p 0 0),(6,.p 3 0),(7,.p 4 0),(8,.p 5 0),(9,.n .i64 p1)]) (bl:=[ah 3 1 pt2.length 0 (iC pt2),aj 0 100 [.sl0],aj 0 106 [.n .i64 27,.n .i64 p,.n .i64 0,.fs 5 x.len x.cell,.fs 5 y.len y.cell],aj 0 106 [.n .i64 0,.n .i64 0,.n .i64 0,.sl0,.sl0],ah 3 1 lv2.length 0 (iC lv2),aj 0 100 [.os 2 lv2.length],aj 0 150 [.fs 2 cs.length (pI cs),.n .i64 p2,.os 6 pt2.length]]) [2,6,5,4,3,1,0] [] ?_ ?_ (by simp) (aW rfl rfl)) ?_
       ·simp only[aK,aJ,go_sem,simprocAttr]
        repeat' refine af ?_ ?_
        all_goals first|exact aR|skip
       ·exact .cons rfl .k1 (.cons rfl (.lstj (x:=_) (by simp only[go_sem,simprocAttr]<;>rfl) (by rfl) (by rfl) (by rfl) (by rfl) (by rfl) (by rfl) (by simp) (λi hi=>by rcases bi hi with rfl<;>(simp only[go_sem,simprocAttr];first|exact Wv.same rfl|exact Wv.os rfl|exact Wv.p rfl|exact Wv.n (by omega)))) (.cons rfl (.lstj (x:=_) (by simp only[go_sem,simprocAttr]<;>rfl) (by rfl) (by rfl) (by rfl) (by rfl) (by rfl) (by rfl) (by simp) (λi hi=>by rcases bo hi with rfl|rfl|rfl|rfl|rfl<;>(simp only[go_sem,simprocAttr];first|exact Wv.same rfl|exact Wv.os rfl|exact Wv.p rfl|exact Wv.n (by omega)))) (.cons rfl (.lstj (x:=_) (by simp only[go_sem,simprocAttr]<;>rfl) (by rfl) (by rfl) (by rfl) (by rfl) (by rfl) (by rfl) (by simp) (λi hi=>by rcases bo hi with rfl|rfl|rfl|rfl|rfl<;>(simp only[go_sem,simprocAttr];first|exact Wv.same rfl|exact Wv.os rfl|exact Wv.p rfl|exact Wv.n (by omega)))) (.cons rfl .k1 (.cons rfl (.lstj (x:=_) (by simp only[go_sem,simprocAttr]<;>rfl) (by rfl) (by rfl) (by rfl) (by rfl) (by rfl) (by rfl) (by simp) (λi hi=>by rcases bi hi with rfl<;>(simp only[go_sem,simprocAttr];first|exact Wv.same rfl|exact Wv.os rfl|exact Wv.p rfl|exact Wv.n (by omega)))) (.cons rfl (.lstj (x:=_) (by simp only[go_sem,simprocAttr]<;>rfl) (by rfl) (by rfl) (by rfl) (by rfl) (by rfl) (by rfl) (by simp) (λi hi=>by rcases bh hi with rfl|rfl|rfl<;>(simp only[go_sem,simprocAttr];first|exact Wv.same rfl|exact Wv.os rfl|exact Wv.p rfl|exact Wv.n (by omega)))) .nil))))))
       refine GE.mixm am 6 (by simp only[go_sem,simprocAttr,bP]) ?_
       repeat (first|(with_reducible refine GE.go am rfl ?_)|simp only[h01,h0,q1,q2,q3,q4,decide_true,h02,go_sem,simprocAttr])
       refine⟨by decide,?_⟩
       repeat (first|(with_reducible refine GE.go am rfl ?_)|simp only[go_sem,simprocAttr])
       obtain⟨ptA,hA⟩:∃l,l=(pt2.set p1 (p2:Int)).set p2 (p:Int):=⟨_,rfl⟩
       have hAl:ptA.length=pt2.length:=by rw[hA,List.length_set,List.length_set]
       rw[<-hA] at hr
       have w9:IntKind.i64.wrap ((p2:Int)+1)=((p2+1:Nat):Int):=(ao (by omega)).trans (by omega)
       refine GE.loop (I:=λm e H=>e=aC [(0,.p 0 0),(6,.p 3 0),(7,.p 4 0),(158,.n .i64 0),(159,.n .i64 0)]/\H=ag [ah 3 1 ptA.length 0 (iC ptA),aj 0 100 [.sl0],aj 0 106 [.n .i64 27,.n .i64 p,.n .i64 0,.fs 5 x.len x.cell,.fs 5 y.len y.cell],aj 0 106 [.n .i64 0,.n .i64 0,.n .i64 0,.sl0,.sl0],ah 3 1 lv2.length 0 (iC lv2),aj 0 100 [.os 2 lv2.length],aj 0 150 [.fs 2 cs.length (pI cs),.n .i64 p2,.os 6 ptA.length]]) (m:=0) (ce.mk [6,5,4,3,2,1,0] [] ?_ ?_ (by simp) (aW rfl rfl)) ⟨rfl,rfl⟩ ?_
       ·simp only[aK,aJ,go_sem,simprocAttr]
        repeat' refine af ?_ ?_
        all_goals first|exact aR|skip
       ·rw[hAl]
        exact .cons rfl (.put2 (row:=iC pt2) (row2:=iC ptA) (a:=p1) (c:=p2) (v:= .n .i64 (p2:Int)) (w:= .n .i64 (p:Int)) (by simp only[go_sem,simprocAttr]) (by omega) (by omega) rfl (by omega) (λi hi=>by rw[hA];exact dN (by omega) (by omega) _ _ i) (λ_ _ _ _=>rfl)) (.cons rfl (.lstj (x:=_) (by simp only[go_sem,simprocAttr]<;>rfl) (by rfl) (by rfl) (by rfl) (by rfl) (by rfl) (by rfl) (by simp) (λi hi=>by rcases bi hi with rfl<;>(simp only[go_sem,simprocAttr];first|exact Wv.same rfl|exact Wv.os rfl|exact Wv.p rfl|exact Wv.n (by omega)))) (.cons rfl (.lstj (x:=_) (by simp only[go_sem,simprocAttr]<;>rfl) (by rfl) (by rfl) (by rfl) (by rfl) (by rfl) (by rfl) (by simp) (λi hi=>by rcases bo hi with rfl|rfl|rfl|rfl|rfl<;>(simp only[go_sem,simprocAttr];first|exact Wv.same rfl|exact Wv.os rfl|exact Wv.p rfl|exact Wv.n (by omega)))) (.cons rfl (.lstj (x:=_) (by simp only[go_sem,simprocAttr]<;>rfl) (by rfl) (by rfl) (by rfl) (by rfl) (by rfl) (by rfl) (by simp) (λi hi=>by rcases bo hi with rfl|rfl|rfl|rfl|rfl<;>(simp only[go_sem,simprocAttr];first|exact Wv.same rfl|exact Wv.os rfl|exact Wv.p rfl|exact Wv.n (by omega)))) (.cons rfl .k1 (.cons rfl (.lstj (x:=_) (by simp only[go_sem,simprocAttr]<;>rfl) (by rfl) (by rfl) (by rfl) (by rfl) (by rfl) (by rfl) (by simp) (λi hi=>by rcases bi hi with rfl<;>(simp only[go_sem,simprocAttr];first|exact Wv.same rfl|exact Wv.os rfl|exact Wv.p rfl|exact Wv.n (by omega)))) (.cons rfl (.lstj (x:=_) (by simp only[go_sem,simprocAttr]<;>rfl) (by rfl) (by rfl) (by rfl) (by rfl) (by rfl) (by rfl) (by simp) (λi hi=>by rcases bh hi with rfl|rfl|rfl<;>(simp only[go_sem,simprocAttr];first|exact Wv.same rfl|exact Wv.os rfl|exact Wv.p rfl|exact Wv.n (by omega)))) .nil))))))
       rintro m e H ⟨rfl,rfl⟩
       repeat (first|(with_reducible refine GE.go am rfl ?_)|simp only[w9,h01,bp,h02,go_sem,simprocAttr])
       rw[hop] at hr
       rw[if_neg (by decide),if_neg (by decide)] at hr
       refine eP [2,6,1,0] [] (.agg [.n .i64 27,.n .i64 p,.n .i64 ((p2+1:Nat):Int),.fs 5 (x).len (x).cell,.fs 5 (y).len (y).cell]) [ah 3 1 lv2.length 0 (iC lv2),ah 3 1 ptA.length 0 (iC ptA),aj 0 100 [.os 3 lv2.length],aj 0 150 [.fs 2 cs.length (pI cs),.n .i64 ((p2+1:Nat):Int),.os 2 ptA.length]] (.cons rfl .k1 (.cons rfl .k1 (.cons rfl (.lstj (x:=_) (by simp only[go_sem,simprocAttr]<;>rfl) (by rfl) (by rfl) (by rfl) (by rfl) (by rfl) (by rfl) (by simp) (λi hi=>by rcases bi hi with rfl<;>(simp only[go_sem,simprocAttr];first|exact Wv.same rfl|exact Wv.os rfl|exact Wv.p rfl|exact Wv.n (by omega)))) (.cons rfl (.lstj (x:=_) (by simp only[go_sem,simprocAttr]<;>rfl) (by rfl) (by rfl) (by rfl) (by rfl) (by rfl) (by rfl) (by simp) (λi hi=>by rcases bh hi with rfl|rfl|rfl<;>(simp only[go_sem,simprocAttr];first|exact Wv.same rfl|exact Wv.os rfl|exact Wv.p rfl|exact Wv.n (by omega)))) .nil)))) (.agg rfl (λi v v' k1 k2=>?_)) (by simp) (aW rfl rfl) ⟨.br 27 p (p2+1) x y .nil,p2+1,ptA,lv2,(Option.some.inj hr).symm,⟨27,p,p2+1,x,y,rfl,Nat.le_refl _⟩,by omega,by omega,by omega,by omega,rfl,rfl⟩
       rcases i with _|_|_|_|_|i<;>simp only[List.getElem?_cons_zero,List.getElem?_cons_succ,Option.some.injEq,List.getElem?_nil,reduceCtorEq] at k1 k2<;>subst k1 k2<;>first|exact Wv.same rfl|exact .cv (.sl0 _ _)
      ·have e31:¬(cs.getD p2 (0,0)).1=31:=hend
       rw[di,if_neg (λh=>hend h.2)] at hr
       repeat (first|(with_reducible refine GE.go am rfl ?_)|simp only[h01,bp,hop',decide_true,decide_false,hlt',h02,e31,go_sem,simprocAttr])
       exact bb [] (fargs:=[.b false,.n .i64 (p2:Int),.n .i64 15]) (aV.same rfl) (aP p2 15) ⟨p2,(Option.some.inj hr).symm,rfl⟩
     ·have hlt':¬(p2:Int)<cs.length:=by omega
      ·rw[di,if_neg (λh=>hlt h.1)] at hr
       repeat (first|(with_reducible refine GE.go am rfl ?_)|simp only[h01,bp,hop',decide_true,decide_false,hlt',h02,go_sem,simprocAttr])
       exact bb [] (fargs:=[.b false,.n .i64 (p2:Int),.n .i64 15]) (aV.same rfl) (aP p2 15) ⟨p2,(Option.some.inj hr).symm,rfl⟩
    ·rintro c H' ⟨z,rfl,rfl⟩
     exact⟨z,(Option.some.inj hr).symm,rfl⟩
   ·rw[if_neg (λh=>hc h.2)] at hr
    by_cases hlt:p1<cs.length
    ·have hlt':(p1:Int)<cs.length:=by omega
     have e28:¬(cs.getD p1 (0,0)).1=28:=λh=>hc ⟨hlt,h⟩
     by_cases hend:ax cs p1=31
     ·have e31:(cs.getD p1 (0,0)).1=31:=hend
      rw[di,if_pos ⟨hlt,hend⟩] at hr
      repeat (first|(with_reducible refine GE.go am rfl ?_)|simp only[h01,bp,hop',decide_true,decide_false,hlt',e28,e31,go_sem,simprocAttr])
      refine bg [] (fargs:=[.b true,.n .i64 (p1:Int),.n .i64 15]) (aV.same rfl) (bI p1 15) ?_ ?_
      ·simp only[go_sem,simprocAttr]
      have q1:(p:Int)<pt1.length:=by omega
      have q2:(p1:Int)<pt1.length:=by omega
      have q3:p+1<=pt1.length:=by omega
      have q4:p1+1<=pt1.length:=by omega
      simp only[go_sem,simprocAttr]
      with_reducible refine GE.go am rfl ?_
      simp only[go_sem,simprocAttr]
      refine GE.wk (ce.mk (L:=[(0,.p 0 0),(6,.p 3 0),(7,.p 4 0),(8,.p 5 0),(9,.n .i64 p)]) (bl:=[ah 3 1 pt1.length 0 (iC pt1),aj 0 100 [.sl0],aj 0 106 [.n .i64 27,.n .i64 p,.n .i64 0,.fs 5 x.len x.cell,.sl0],aj 0 106 [.n .i64 0,.n .i64 0,.n .i64 0,.sl0,.sl0],ah 3 1 lv1.length 0 (iC lv1),aj 0 100 [.os 2 lv1.length],aj 0 150 [.fs 2 cs.length (pI cs),.n .i64 p1,.os 6 pt1.length]]) [2,6,5,4,3,1,0] [] ?_ ?_ (by simp) (aW rfl rfl)) ?_
      ·simp only[aK,aJ,go_sem,simprocAttr]
       repeat' refine af ?_ ?_
       all_goals first|exact aR|skip
      ·exact .cons rfl .k1 (.cons rfl (.lstj (x:=_) (by simp only[go_sem,simprocAttr]<;>rfl) (by rfl) (by rfl) (by rfl) (by rfl) (by rfl) (by rfl) (by simp) (λi hi=>by rcases bi hi with rfl<;>(simp only[go_sem,simprocAttr];first|exact Wv.same rfl|exact Wv.os rfl|exact Wv.p rfl|exact Wv.n (by omega)))) (.cons rfl (.lstj (x:=_) (by simp only[go_sem,simprocAttr]<;>rfl) (by rfl) (by rfl) (by rfl) (by rfl) (by rfl) (by rfl) (by simp) (λi hi=>by rcases bo hi with rfl|rfl|rfl|rfl|rfl<;>(simp only[go_sem,simprocAttr];first|exact Wv.same rfl|exact Wv.os rfl|exact Wv.p rfl|exact Wv.n (by omega)))) (.cons rfl (.lstj (x:=_) (by simp only[go_sem,simprocAttr]<;>rfl) (by rfl) (by rfl) (by rfl) (by rfl) (by rfl) (by rfl) (by simp) (λi hi=>by rcases bo hi with rfl|rfl|rfl|rfl|rfl<;>(simp only[go_sem,simprocAttr];first|exact Wv.same rfl|exact Wv.os rfl|exact Wv.p rfl|exact Wv.n (by omega)))) (.cons rfl .k1 (.cons rfl (.lstj (x:=_) (by simp only[go_sem,simprocAttr]<;>rfl) (by rfl) (by rfl) (by rfl) (by rfl) (by rfl) (by rfl) (by simp) (λi hi=>by rcases bi hi with rfl<;>(simp only[go_sem,simprocAttr];first|exact Wv.same rfl|exact Wv.os rfl|exact Wv.p rfl|exact Wv.n (by omega)))) (.cons rfl (.lstj (x:=_) (by simp only[go_sem,simprocAttr]<;>rfl) (by rfl) (by rfl) (by rfl) (by rfl) (by rfl) (by rfl) (by simp) (λi hi=>by rcases bh hi with rfl|rfl|rfl<;>(simp only[go_sem,simprocAttr];first|exact Wv.same rfl|exact Wv.os rfl|exact Wv.p rfl|exact Wv.n (by omega)))) .nil))))))
      refine GE.mixm am 6 (by simp only[go_sem,simprocAttr,bP]) ?_
      repeat (first|(with_reducible refine GE.go am rfl ?_)|simp only[h01,h0,q1,q2,q3,q4,decide_true,go_sem,simprocAttr])
      refine⟨by decide,?_⟩
      repeat (first|(with_reducible refine GE.go am rfl ?_)|simp only[go_sem,simprocAttr])
      obtain⟨ptA,hA⟩:∃l,l=(pt1.set p (p1:Int)).set p1 (p:Int):=⟨_,rfl⟩
      have hAl:ptA.length=pt1.length:=by rw[hA,List.length_set,List.length_set]
      rw[<-hA] at hr
      have w9:IntKind.i64.wrap ((p1:Int)+1)=((p1+1:Nat):Int):=(ao (by omega)).trans (by omega)
      refine GE.loop (I:=λm e H=>e=aC [(0,.p 0 0),(6,.p 3 0),(7,.p 4 0),(158,.n .i64 0),(159,.n .i64 0)]/\H=ag [ah 3 1 ptA.length 0 (iC ptA),aj 0 100 [.sl0],aj 0 106 [.n .i64 27,.n .i64 p,.n .i64 0,.fs 5 x.len x.cell,.sl0],aj 0 106 [.n .i64 0,.n .i64 0,.n .i64 0,.sl0,.sl0],ah 3 1 lv1.length 0 (iC lv1),aj 0 100 [.os 2 lv1.length],aj 0 150 [.fs 2 cs.length (pI cs),.n .i64 p1,.os 6 ptA.length]]) (m:=0) (ce.mk [6,5,4,3,2,1,0] [] ?_ ?_ (by simp) (aW rfl rfl)) ⟨rfl,rfl⟩ ?_
      ·simp only[aK,aJ,go_sem,simprocAttr]
       repeat' refine af ?_ ?_
       all_goals first|exact aR|skip
      ·rw[hAl]
       exact .cons rfl (.put2 (row:=iC pt1) (row2:=iC ptA) (a:=p) (c:=p1) (v:= .n .i64 (p1:Int)) (w:= .n .i64 (p:Int)) (by simp only[go_sem,simprocAttr]) (by omega) (by omega) rfl (by omega) (λi hi=>by rw[hA];exact dN (by omega) (by omega) _ _ i) (λ_ _ _ _=>rfl)) (.cons rfl (.lstj (x:=_) (by simp only[go_sem,simprocAttr]<;>rfl) (by rfl) (by rfl) (by rfl) (by rfl) (by rfl) (by rfl) (by simp) (λi hi=>by rcases bi hi with rfl<;>(simp only[go_sem,simprocAttr];first|exact Wv.same rfl|exact Wv.os rfl|exact Wv.p rfl|exact Wv.n (by omega)))) (.cons rfl (.lstj (x:=_) (by simp only[go_sem,simprocAttr]<;>rfl) (by rfl) (by rfl) (by rfl) (by rfl) (by rfl) (by rfl) (by simp) (λi hi=>by rcases bo hi with rfl|rfl|rfl|rfl|rfl<;>(simp only[go_sem,simprocAttr];first|exact Wv.same rfl|exact Wv.os rfl|exact Wv.p rfl|exact Wv.n (by omega)))) (.cons rfl (.lstj (x:=_) (by simp only[go_sem,simprocAttr]<;>rfl) (by rfl) (by rfl) (by rfl) (by rfl) (by rfl) (by rfl) (by simp) (λi hi=>by rcases bo hi with rfl|rfl|rfl|rfl|rfl<;>(simp only[go_sem,simprocAttr];first|exact Wv.same rfl|exact Wv.os rfl|exact Wv.p rfl|exact Wv.n (by omega)))) (.cons rfl .k1 (.cons rfl (.lstj (x:=_) (by simp only[go_sem,simprocAttr]<;>rfl) (by rfl) (by rfl) (by rfl) (by rfl) (by rfl) (by rfl) (by simp) (λi hi=>by rcases bi hi with rfl<;>(simp only[go_sem,simprocAttr];first|exact Wv.same rfl|exact Wv.os rfl|exact Wv.p rfl|exact Wv.n (by omega)))) (.cons rfl (.lstj (x:=_) (by simp only[go_sem,simprocAttr]<;>rfl) (by rfl) (by rfl) (by rfl) (by rfl) (by rfl) (by rfl) (by simp) (λi hi=>by rcases bh hi with rfl|rfl|rfl<;>(simp only[go_sem,simprocAttr];first|exact Wv.same rfl|exact Wv.os rfl|exact Wv.p rfl|exact Wv.n (by omega)))) .nil))))))
      rintro m e H ⟨rfl,rfl⟩
      repeat (first|(with_reducible refine GE.go am rfl ?_)|simp only[w9,h01,bp,go_sem,simprocAttr])
      rw[hop] at hr
      rw[if_neg (by decide),if_neg (by decide)] at hr
      refine eP [2,6,1,0] [] (.agg [.n .i64 27,.n .i64 p,.n .i64 ((p1+1:Nat):Int),.fs 5 (x).len (x).cell,.fs 5 (Fo.nil).len (Fo.nil).cell]) [ah 3 1 lv1.length 0 (iC lv1),ah 3 1 ptA.length 0 (iC ptA),aj 0 100 [.os 3 lv1.length],aj 0 150 [.fs 2 cs.length (pI cs),.n .i64 ((p1+1:Nat):Int),.os 2 ptA.length]] (.cons rfl .k1 (.cons rfl .k1 (.cons rfl (.lstj (x:=_) (by simp only[go_sem,simprocAttr]<;>rfl) (by rfl) (by rfl) (by rfl) (by rfl) (by rfl) (by rfl) (by simp) (λi hi=>by rcases bi hi with rfl<;>(simp only[go_sem,simprocAttr];first|exact Wv.same rfl|exact Wv.os rfl|exact Wv.p rfl|exact Wv.n (by omega)))) (.cons rfl (.lstj (x:=_) (by simp only[go_sem,simprocAttr]<;>rfl) (by rfl) (by rfl) (by rfl) (by rfl) (by rfl) (by rfl) (by simp) (λi hi=>by rcases bh hi with rfl|rfl|rfl<;>(simp only[go_sem,simprocAttr];first|exact Wv.same rfl|exact Wv.os rfl|exact Wv.p rfl|exact Wv.n (by omega)))) .nil)))) (.agg rfl (λi v v' k1 k2=>?_)) (by simp) (aW rfl rfl) ⟨.br 27 p (p1+1) x Fo.nil .nil,p1+1,ptA,lv1,(Option.some.inj hr).symm,⟨27,p,p1+1,x,Fo.nil,rfl,Nat.le_refl _⟩,by omega,by omega,by omega,by omega,rfl,rfl⟩
      rcases i with _|_|_|_|_|i<;>simp only[List.getElem?_cons_zero,List.getElem?_cons_succ,Option.some.injEq,List.getElem?_nil,reduceCtorEq] at k1 k2<;>subst k1 k2<;>first|exact Wv.same rfl|exact .cv (.sl0 _ _)
     ·have e31:¬(cs.getD p1 (0,0)).1=31:=hend
      rw[di,if_neg (λh=>hend h.2)] at hr
      repeat (first|(with_reducible refine GE.go am rfl ?_)|simp only[h01,bp,hop',decide_true,decide_false,hlt',e28,e31,go_sem,simprocAttr])
      exact bb [] (fargs:=[.b false,.n .i64 (p1:Int),.n .i64 15]) (aV.same rfl) (aP p1 15) ⟨p1,(Option.some.inj hr).symm,rfl⟩
    ·have hlt':¬(p1:Int)<cs.length:=by omega
     ·rw[di,if_neg (λh=>hlt h.1)] at hr
      repeat (first|(with_reducible refine GE.go am rfl ?_)|simp only[h01,bp,hop',decide_true,decide_false,hlt',go_sem,simprocAttr])
      exact bb [] (fargs:=[.b false,.n .i64 (p1:Int),.n .i64 15]) (aV.same rfl) (aP p1 15) ⟨p1,(Option.some.inj hr).symm,rfl⟩
  ·rintro c H' ⟨z,rfl,rfl⟩
   exact⟨z,(Option.some.inj hr).symm,rfl⟩
 ·have hop':(cs.getD p (0,0)).1=29:=hop
  have hn27:¬ax cs p=27:=by rw[hop];decide
  have hdec:decide (ax cs p=29)=true:=by rw[hop];rfl
  rw[if_pos hop] at hr
  simp only[hdec,Bool.or_true] at hr
  repeat (first|(with_reducible refine GE.go am rfl ?_)|simp only[h1',h0,bp,go_sem,simprocAttr])
  refine⟨λ_=>?_,λh=>by rw[hop'] at h;exact absurd h (by decide)⟩
  refine GE.wk (ce.nilb 6 0 1 3 (x:=_) (by simp only[go_sem,simprocAttr]<;>rfl) (by simp only[go_sem,simprocAttr]<;>rfl) (by decide) (by decide) (by simp only[go_sem,simprocAttr]<;>decide) (by rfl) (by simp only[go_sem,simprocAttr]<;>decide)) ?_
  repeat (first|(with_reducible refine GE.go am rfl ?_)|simp only[w0,go_sem,simprocAttr])
  cases hl:lst cs f d true (p+1) pt [] .nil with
  |none=>rw[hl] at hr;cases hr
  |some r1=>
  have hr1:=cf f d true (p+1) pt [] .nil r1 (by omega) hpt (by simp) hl
  rw[hl] at hr
  obtain⟨lvE,hE⟩:∃l:List Int,l=[]:=⟨_,rfl⟩
  have hEl:lvE.length=0:=by rw[hE];rfl
  rw[<-hE] at hl
  refine dj (ob:=λ_=>none) cJ [3,1,5,4,7,2,6,0] [] [(0,.p 0 0),(1,.n .i64 d),(2,.p 1 0),(6,.p 4 0),(7,.p 5 0),(8,.p 1 0)] [.p 0 0,.n .i64 d,.p 1 0] [ah 3 1 lv.length 0 (iC lv),aj 0 100 [.os 7 lv.length],aj 0 106 [.n .i64 29,.n .i64 p,.n .i64 0,.sl0,.sl0],aj 0 106 [.n .i64 0,.n .i64 0,.n .i64 0,.sl0,.sl0]] [ah 3 1 lvE.length 0 (iC lvE),ah 3 1 pt.length 0 (iC pt),aj 0 100 [.os 3 lvE.length],aj 0 150 [.fs 2 cs.length (pI cs),.n .i64 ((p+1:Nat):Int),.os 2 pt.length]] (hT d (p+1) pt lvE r1 (by omega) (by omega) hpt (by omega) hl).o ?_ ?_ ?_ ?_ ?_ ?_ ?_ ?_ ?_ ?_ ?_ ?_ ?_ ?_
  ·simp only[aK,aJ,go_sem,simprocAttr]
   repeat' refine af ?_ ?_
   all_goals first|exact aR|skip
  ·rw[hEl];exact .cons rfl .k1 (.cons rfl (.lstj (x:=_) (by simp only[go_sem,simprocAttr]<;>rfl) (by rfl) (by rfl) (by rfl) (by rfl) (by rfl) (by rfl) (by simp) (λi hi=>by rcases bi hi with rfl<;>(simp only[go_sem,simprocAttr];first|exact Wv.same rfl|exact Wv.os rfl|exact Wv.p rfl|exact Wv.n (by omega)))) (.cons rfl (.lstj (x:=_) (by simp only[go_sem,simprocAttr]<;>rfl) (by rfl) (by rfl) (by rfl) (by rfl) (by rfl) (by rfl) (by simp) (λi hi=>by rcases bo hi with rfl|rfl|rfl|rfl|rfl<;>(simp only[go_sem,simprocAttr];first|exact Wv.same rfl|exact Wv.os rfl|exact Wv.p rfl|exact Wv.n (by omega)))) (.cons rfl (.lstj (x:=_) (by simp only[go_sem,simprocAttr]<;>rfl) (by rfl) (by rfl) (by rfl) (by rfl) (by rfl) (by rfl) (by simp) (λi hi=>by rcases bo hi with rfl|rfl|rfl|rfl|rfl<;>(simp only[go_sem,simprocAttr];first|exact Wv.same rfl|exact Wv.os rfl|exact Wv.p rfl|exact Wv.n (by omega)))) (.cons rfl (.rows (x:=_) (by simp only[go_sem,simprocAttr];rfl) (by rfl) (by rfl) (by rfl) (by simp) (by decide) (by decide) (λi j h=>absurd h (Nat.not_lt_zero _)) (λi j h=>absurd h (Nat.not_lt_zero _))) (.cons rfl .k1 (.cons rfl (.lstj (x:=_) (by simp only[go_sem,simprocAttr]<;>rfl) (by rfl) (by rfl) (by rfl) (by rfl) (by rfl) (by rfl) (by simp) (λi hi=>by rcases bi hi with rfl<;>(simp only[go_sem,simprocAttr];first|exact Wv.same rfl|exact Wv.os rfl|exact Wv.p rfl|exact Wv.n (by omega)))) (.cons rfl (.lstj (x:=_) (by simp only[go_sem,simprocAttr]<;>rfl) (by rfl) (by rfl) (by rfl) (by rfl) (by rfl) (by rfl) (by simp) (λi hi=>by rcases bh hi with rfl|rfl|rfl<;>(simp only[go_sem,simprocAttr];first|exact Wv.same rfl|exact Wv.os rfl|exact Wv.p rfl|exact Wv.n (by omega)))) .nil)))))))
  ·exact⟨Wv.p rfl,Wv.n rfl,Wv.p rfl,trivial⟩
  ·exact λr x hx=>by cases hx
  ·simp
  ·rfl
  ·exact λb hb=>by simp[cJ] at hb;simp;omega
  ·rw[aw];exact fk (by simp) (by rfl) (by rfl)
  ·simp[AV.nm]
  ·simp[AV.nm,cJ]
  ·exact .cons (.row (by decide) (λi j _ _=>rfl)) (.cons (.row (by decide) (λi j _ _=>rfl)) (.cons (.lst (by simp) (by rfl)) (.cons (.lst (by simp) (by rfl)) .nil)))
  ·exact .cons (.row (by decide) (λi j _ _=>rfl)) (.cons (.lst (by simp) (by rfl)) (.cons (.lst (by simp) (by simp[AV.nm])) (.cons (.lst (by simp) (by rfl)) .nil)))
  ·rintro v H' ⟨x,p1,pt1,lv1,rfl,rfl,rfl⟩
   refine⟨λ_=>none,λ_=>none,[ah 3 1 lv1.length 0 (iC lv1),ah 3 1 pt1.length 0 (iC pt1),aj 0 100 [.os 3 lv1.length],aj 0 150 [.fs 2 cs.length (pI cs),.n .i64 p1,.os 2 pt1.length]],[ah 3 1 lv1.length 0 (iC lv1),aj 0 100 [.os 7 lv1.length],aj 0 106 [.n .i64 29,.n .i64 p,.n .i64 0,.sl0,.sl0],aj 0 106 [.n .i64 0,.n .i64 0,.n .i64 0,.sl0,.sl0],ah 3 1 lv.length 0 (iC lv),ah 3 1 pt1.length 0 (iC pt1),aj 0 100 [.os 3 lv.length],aj 0 150 [.fs 2 cs.length (pI cs),.n .i64 p1,.os 2 pt1.length]],[3,1,5,4,7,2,6,0],[],_,[(0,.p 0 0),(1,.n .i64 d),(2,.p 6 0),(6,.p 4 0),(7,.p 5 0),(8,.p 6 0)],(aw _).symm,rfl,?_,?_,Wv.same rfl,by simp,(λr x hx=>by cases hx),?_,?_⟩
   ·simp only[aK,aJ,go_sem,simprocAttr]
    repeat' refine af ?_ ?_
    all_goals first|exact aR|skip
   ·simp only[List.cons_append,List.nil_append,aw]
    exact .cons rfl .k1 (.cons rfl (.lstj (x:=_) (by simp only[go_sem,simprocAttr]<;>rfl) (by rfl) (by rfl) (by rfl) (by rfl) (by rfl) (by rfl) (by simp) (λi hi=>by rcases bi hi with rfl<;>(simp only[go_sem,simprocAttr];first|exact Wv.same rfl|exact Wv.os rfl|exact Wv.p rfl|exact Wv.n (by omega)))) (.cons rfl (.lstj (x:=_) (by simp only[go_sem,simprocAttr]<;>rfl) (by rfl) (by rfl) (by rfl) (by rfl) (by rfl) (by rfl) (by simp) (λi hi=>by rcases bo hi with rfl|rfl|rfl|rfl|rfl<;>(simp only[go_sem,simprocAttr];first|exact Wv.same rfl|exact Wv.os rfl|exact Wv.p rfl|exact Wv.n (by omega)))) (.cons rfl (.lstj (x:=_) (by simp only[go_sem,simprocAttr]<;>rfl) (by rfl) (by rfl) (by rfl) (by rfl) (by rfl) (by rfl) (by simp) (λi hi=>by rcases bo hi with rfl|rfl|rfl|rfl|rfl<;>(simp only[go_sem,simprocAttr];first|exact Wv.same rfl|exact Wv.os rfl|exact Wv.p rfl|exact Wv.n (by omega)))) (.cons rfl .k1 (.cons rfl .k1 (.cons rfl (.lstj (x:=_) (by simp only[go_sem,simprocAttr]<;>rfl) (by rfl) (by rfl) (by rfl) (by rfl) (by rfl) (by rfl) (by simp) (λi hi=>by rcases bi hi with rfl<;>(simp only[go_sem,simprocAttr];first|exact Wv.same rfl|exact Wv.os rfl|exact Wv.p rfl|exact Wv.n (by omega)))) (.cons rfl (.lstj (x:=_) (by simp only[go_sem,simprocAttr]<;>rfl) (by rfl) (by rfl) (by rfl) (by rfl) (by rfl) (by rfl) (by simp) (λi hi=>by rcases bh hi with rfl|rfl|rfl<;>(simp only[go_sem,simprocAttr];first|exact Wv.same rfl|exact Wv.os rfl|exact Wv.p rfl|exact Wv.n (by omega)))) .nil)))))))
   ·intro b hb;have hb':=of_decide_eq_true hb;rcases(show b=0\/b=1 by omega) with rfl|rfl
    ·exact⟨0,rfl,rfl,.inl rfl⟩
    ·exact⟨6,rfl,rfl,.inr (by simp)⟩
   rw[aw]
   obtain⟨g1,g2,g3,g4,g5⟩:=hr1 x p1 pt1 lv1 rfl
   dsimp only at hr
   have h01:(0:Int)<=(p1:Int):=by omega
   rw[if_neg (λh=>hn27 h.1)] at hr
   by_cases hlt:p1<cs.length
   ·have hlt':(p1:Int)<cs.length:=by omega
    by_cases hend:ax cs p1=31
    ·have e31:(cs.getD p1 (0,0)).1=31:=hend
     rw[di,if_pos ⟨hlt,hend⟩] at hr
     repeat (first|(with_reducible refine GE.go am rfl ?_)|simp only[h01,bp,hop',decide_true,decide_false,hlt',e31,go_sem,simprocAttr])
     refine bg [] (fargs:=[.b true,.n .i64 (p1:Int),.n .i64 15]) (aV.same rfl) (bI p1 15) ?_ ?_
     ·simp only[go_sem,simprocAttr]
     have q1:(p:Int)<pt1.length:=by omega
     have q2:(p1:Int)<pt1.length:=by omega
     have q3:p+1<=pt1.length:=by omega
     have q4:p1+1<=pt1.length:=by omega
     simp only[go_sem,simprocAttr]
     with_reducible refine GE.go am rfl ?_
     simp only[go_sem,simprocAttr]
     refine GE.wk (ce.mk (L:=[(0,.p 0 0),(6,.p 3 0),(7,.p 4 0),(8,.p 5 0),(9,.n .i64 p)]) (bl:=[ah 3 1 pt1.length 0 (iC pt1),ah 3 1 lv1.length 0 (iC lv1),aj 0 100 [.os 6 lv1.length],aj 0 106 [.n .i64 29,.n .i64 p,.n .i64 0,.fs 5 x.len x.cell,.sl0],aj 0 106 [.n .i64 0,.n .i64 0,.n .i64 0,.sl0,.sl0],ah 3 1 lv.length 0 (iC lv),aj 0 100 [.os 2 lv.length],aj 0 150 [.fs 2 cs.length (pI cs),.n .i64 p1,.os 7 pt1.length]]) [2,7,6,5,4,3,1,0] [] ?_ ?_ (by simp) (aW rfl rfl)) ?_
     ·simp only[aK,aJ,go_sem,simprocAttr]
      repeat' refine af ?_ ?_
      all_goals first|exact aR|skip
     ·exact .cons rfl .k1 (.cons rfl .k1 (.cons rfl (.lstj (x:=_) (by simp only[go_sem,simprocAttr]<;>rfl) (by rfl) (by rfl) (by rfl) (by rfl) (by rfl) (by rfl) (by simp) (λi hi=>by rcases bi hi with rfl<;>(simp only[go_sem,simprocAttr];first|exact Wv.same rfl|exact Wv.os rfl|exact Wv.p rfl|exact Wv.n (by omega)))) (.cons rfl (.lstj (x:=_) (by simp only[go_sem,simprocAttr]<;>rfl) (by rfl) (by rfl) (by rfl) (by rfl) (by rfl) (by rfl) (by simp) (λi hi=>by rcases bo hi with rfl|rfl|rfl|rfl|rfl<;>(simp only[go_sem,simprocAttr];first|exact Wv.same rfl|exact Wv.os rfl|exact Wv.p rfl|exact Wv.n (by omega)))) (.cons rfl (.lstj (x:=_) (by simp only[go_sem,simprocAttr]<;>rfl) (by rfl) (by rfl) (by rfl) (by rfl) (by rfl) (by rfl) (by simp) (λi hi=>by rcases bo hi with rfl|rfl|rfl|rfl|rfl<;>(simp only[go_sem,simprocAttr];first|exact Wv.same rfl|exact Wv.os rfl|exact Wv.p rfl|exact Wv.n (by omega)))) (.cons rfl .k1 (.cons rfl (.lstj (x:=_) (by simp only[go_sem,simprocAttr]<;>rfl) (by rfl) (by rfl) (by rfl) (by rfl) (by rfl) (by rfl) (by simp) (λi hi=>by rcases bi hi with rfl<;>(simp only[go_sem,simprocAttr];first|exact Wv.same rfl|exact Wv.os rfl|exact Wv.p rfl|exact Wv.n (by omega)))) (.cons rfl (.lstj (x:=_) (by simp only[go_sem,simprocAttr]<;>rfl) (by rfl) (by rfl) (by rfl) (by rfl) (by rfl) (by rfl) (by simp) (λi hi=>by rcases bh hi with rfl|rfl|rfl<;>(simp only[go_sem,simprocAttr];first|exact Wv.same rfl|exact Wv.os rfl|exact Wv.p rfl|exact Wv.n (by omega)))) .nil)))))))
     refine GE.mixm am 7 (by simp only[go_sem,simprocAttr,bP]) ?_
     repeat (first|(with_reducible refine GE.go am rfl ?_)|simp only[h01,h0,q1,q2,q3,q4,decide_true,go_sem,simprocAttr])
     refine⟨by decide,?_⟩
     repeat (first|(with_reducible refine GE.go am rfl ?_)|simp only[go_sem,simprocAttr])
     obtain⟨ptA,hA⟩:∃l,l=(pt1.set p (p1:Int)).set p1 (p:Int):=⟨_,rfl⟩
     have hAl:ptA.length=pt1.length:=by rw[hA,List.length_set,List.length_set]
     rw[<-hA] at hr
     have w9:IntKind.i64.wrap ((p1:Int)+1)=((p1+1:Nat):Int):=(ao (by omega)).trans (by omega)
     have hsl:∀l,(bM ptA (p1:Int) l).length=ptA.length:=λl=>eA l ptA _
     refine GE.loop (I:=λm e H=>∃k,m+k=lv1.length/\e=aC [(0,.p 0 0),(6,.p 3 0),(7,.p 4 0),(157,.os 6 lv1.length),(158,.n .i64 lv1.length),(159,.n .i64 k)]/\H=ag [ah 3 1 (bM ptA p1 (lv1.take k)).length 0 (iC (bM ptA p1 (lv1.take k))),ah 3 1 lv1.length 0 (iC lv1),aj 0 100 [.os 6 lv1.length],aj 0 106 [.n .i64 29,.n .i64 p,.n .i64 0,.fs 5 x.len x.cell,.sl0],aj 0 106 [.n .i64 0,.n .i64 0,.n .i64 0,.sl0,.sl0],ah 3 1 lv.length 0 (iC lv),aj 0 100 [.os 2 lv.length],aj 0 150 [.fs 2 cs.length (pI cs),.n .i64 p1,.os 7 (bM ptA p1 (lv1.take k)).length]]) (m:=lv1.length) (ce.mk [7,6,5,4,3,2,1,0] [] ?_ ?_ (by simp) (aW rfl rfl)) ⟨0,rfl,rfl,rfl⟩ ?_
     ·simp only[aK,aJ,go_sem,simprocAttr]
      repeat' refine af ?_ ?_
      all_goals first|exact aR|skip
     ·show aJ _ _ _ _ [ah 3 1 ptA.length 0 (iC ptA),ah 3 1 lv1.length 0 (iC lv1),aj 0 100 [.os 6 lv1.length],aj 0 106 [.n .i64 29,.n .i64 p,.n .i64 0,.fs 5 x.len x.cell,.sl0],aj 0 106 [.n .i64 0,.n .i64 0,.n .i64 0,.sl0,.sl0],ah 3 1 lv.length 0 (iC lv),aj 0 100 [.os 2 lv.length],aj 0 150 [.fs 2 cs.length (pI cs),.n .i64 p1,.os 7 ptA.length]]
      rw[hAl]
      exact .cons rfl (.put2 (row:=iC pt1) (row2:=iC ptA) (a:=p) (c:=p1) (v:= .n .i64 (p1:Int)) (w:= .n .i64 (p:Int)) (by simp only[go_sem,simprocAttr]) (by omega) (by omega) rfl (by omega) (λi hi=>by rw[hA];exact dN (by omega) (by omega) _ _ i) (λ_ _ _ _=>rfl)) (.cons rfl .k1 (.cons rfl (.lstj (x:=_) (by simp only[go_sem,simprocAttr]<;>rfl) (by rfl) (by rfl) (by rfl) (by rfl) (by rfl) (by rfl) (by simp) (λi hi=>by rcases bi hi with rfl<;>(simp only[go_sem,simprocAttr];first|exact Wv.same rfl|exact Wv.os rfl|exact Wv.p rfl|exact Wv.n (by omega)))) (.cons rfl (.lstj (x:=_) (by simp only[go_sem,simprocAttr]<;>rfl) (by rfl) (by rfl) (by rfl) (by rfl) (by rfl) (by rfl) (by simp) (λi hi=>by rcases bo hi with rfl|rfl|rfl|rfl|rfl<;>(simp only[go_sem,simprocAttr];first|exact Wv.same rfl|exact Wv.os rfl|exact Wv.p rfl|exact Wv.n (by omega)))) (.cons rfl (.lstj (x:=_) (by simp only[go_sem,simprocAttr]<;>rfl) (by rfl) (by rfl) (by rfl) (by rfl) (by rfl) (by rfl) (by simp) (λi hi=>by rcases bo hi with rfl|rfl|rfl|rfl|rfl<;>(simp only[go_sem,simprocAttr];first|exact Wv.same rfl|exact Wv.os rfl|exact Wv.p rfl|exact Wv.n (by omega)))) (.cons rfl .k1 (.cons rfl (.lstj (x:=_) (by simp only[go_sem,simprocAttr]<;>rfl) (by rfl) (by rfl) (by rfl) (by rfl) (by rfl) (by rfl) (by simp) (λi hi=>by rcases bi hi with rfl<;>(simp only[go_sem,simprocAttr];first|exact Wv.same rfl|exact Wv.os rfl|exact Wv.p rfl|exact Wv.n (by omega)))) (.cons rfl (.lstj (x:=_) (by simp only[go_sem,simprocAttr]<;>rfl) (by rfl) (by rfl) (by rfl) (by rfl) (by rfl) (by rfl) (by simp) (λi hi=>by rcases bh hi with rfl|rfl|rfl<;>(simp only[go_sem,simprocAttr];first|exact Wv.same rfl|exact Wv.os rfl|exact Wv.p rfl|exact Wv.n (by omega)))) .nil)))))))
     rintro m e H ⟨k,hk,rfl,rfl⟩
     obtain⟨ptK,hK⟩:∃l,l=bM ptA (p1:Int) (lv1.take k):=⟨_,rfl⟩
     have hKl:ptK.length=pt1.length:=by rw[hK,hsl,hAl]
     rw[<-hK]
     have h0k:(0:Int)<=(k:Int):=by omega
     by_cases hm:k<lv1.length
     ·have hkk:(k:Int)<lv1.length:=by omega
      have hmem:lv1.getD k 0 ∈ lv1:=by rw[List.getD_eq_getElem?_getD,List.getElem?_eq_getElem hm];exact List.getElem_mem hm
      obtain⟨hz0,hz1⟩:=(g5 _ hmem).elim (λh=>absurd h (List.not_mem_nil)) id
      obtain⟨z,hz⟩:∃z:Nat,lv1.getD k 0=(z:Int):=⟨(lv1.getD k 0).toNat,by omega⟩
      have hzl:z<ptK.length:=by omega
      have hzi:(z:Int)<ptK.length:=by omega
      have hz2:(0:Int)<=(z:Int):=by omega
      have hzs:z+1<=ptK.length:=hzl
      have hgk:(ah 3 1 lv1.length 0 (iC lv1)).get k= .n .i64 (z:Int):=by rw[dd];simp only[iC,hz]
      have wk:IntKind.i64.wrap ((k:Int)+1)=((k+1:Nat):Int):=(ao (by omega)).trans (by omega)
      have hK1:bM ptA (p1:Int) (lv1.take (k+1))=ptK.set z (p1:Int):=by rw[jK hm,fW,<-hK,hz,Int.toNat_natCast]
      repeat (first|with_reducible refine GE.seq ?_|with_reducible refine GE.block ?_|with_reducible refine GE.skip ?_|with_reducible refine GE.reg ?_|with_reducible refine GE.cond ?_|simp only[hkk,h0k,hm,hgk,decide_true,go_sem,simprocAttr])
      refine GE.mixm am 7 (by simp only[go_sem,simprocAttr,bP]) ?_
      simp only[hzi,hz2,hzs,h01,go_sem,simprocAttr]
      try refine(And.intro (by decide) ?_)
      repeat (first|(with_reducible refine GE.go am rfl ?_)|simp only[wk,go_sem,simprocAttr])
      refine⟨m-1,_,_,by omega,ce.mk [7,6,5,4,3,2,1,0] [] ?_ ?_ (by simp) (aW rfl rfl),k+1,by omega,rfl,rfl⟩
      ·simp only[aK,aJ,go_sem,simprocAttr]
       repeat' refine af ?_ ?_
       all_goals first|exact aR|skip
      ·rw[hK1,List.length_set]
       exact .cons rfl (.put1 (row:=iC ptK) (row2:=iC (ptK.set z (p1:Int))) (o:=z) (q:=z) (t:=0) (v:= .n .i64 (p1:Int)) (by simp only[go_sem,simprocAttr]) (by omega) (by decide) (by omega) rfl (by omega) (λi j hi hj=>by simp only[iC];rw[bR hzl];by_cases hh:i=z<;>simp[hh];omega) (λ_ _ _ _=>rfl)) (.cons rfl .k1 (.cons rfl (.lstj (x:=_) (by simp only[go_sem,simprocAttr]<;>rfl) (by rfl) (by rfl) (by rfl) (by rfl) (by rfl) (by rfl) (by simp) (λi hi=>by rcases bi hi with rfl<;>(simp only[go_sem,simprocAttr];first|exact Wv.same rfl|exact Wv.os rfl|exact Wv.p rfl|exact Wv.n (by omega)))) (.cons rfl (.lstj (x:=_) (by simp only[go_sem,simprocAttr]<;>rfl) (by rfl) (by rfl) (by rfl) (by rfl) (by rfl) (by rfl) (by simp) (λi hi=>by rcases bo hi with rfl|rfl|rfl|rfl|rfl<;>(simp only[go_sem,simprocAttr];first|exact Wv.same rfl|exact Wv.os rfl|exact Wv.p rfl|exact Wv.n (by omega)))) (.cons rfl (.lstj (x:=_) (by simp only[go_sem,simprocAttr]<;>rfl) (by rfl) (by rfl) (by rfl) (by rfl) (by rfl) (by rfl) (by simp) (λi hi=>by rcases bo hi with rfl|rfl|rfl|rfl|rfl<;>(simp only[go_sem,simprocAttr];first|exact Wv.same rfl|exact Wv.os rfl|exact Wv.p rfl|exact Wv.n (by omega)))) (.cons rfl .k1 (.cons rfl (.lstj (x:=_) (by simp only[go_sem,simprocAttr]<;>rfl) (by rfl) (by rfl) (by rfl) (by rfl) (by rfl) (by rfl) (by simp) (λi hi=>by rcases bi hi with rfl<;>(simp only[go_sem,simprocAttr];first|exact Wv.same rfl|exact Wv.os rfl|exact Wv.p rfl|exact Wv.n (by omega)))) (.cons rfl (.lstj (x:=_) (by simp only[go_sem,simprocAttr]<;>rfl) (by rfl) (by rfl) (by rfl) (by rfl) (by rfl) (by rfl) (by simp) (λi hi=>by rcases bh hi with rfl|rfl|rfl<;>(simp only[go_sem,simprocAttr];first|exact Wv.same rfl|exact Wv.os rfl|exact Wv.p rfl|exact Wv.n (by omega)))) .nil)))))))
     ·have hkk:¬(k:Int)<lv1.length:=by omega
      have hKe:bM ptA (p1:Int) lv1=ptK:=by rw[hK,List.take_of_length_le (by omega)]
      repeat (first|(with_reducible refine GE.go am rfl ?_)|simp only[hkk,w9,h01,bp,decide_false,go_sem,simprocAttr])
      rw[hop] at hr
      rw[if_pos rfl,if_pos rfl,hKe] at hr
      refine eP [2,7,1,0] [] (.agg [.n .i64 29,.n .i64 p,.n .i64 ((p1+1:Nat):Int),.fs 5 (x).len (x).cell,.fs 5 (Fo.nil).len (Fo.nil).cell]) [ah 3 1 lv.length 0 (iC lv),ah 3 1 ptK.length 0 (iC ptK),aj 0 100 [.os 3 lv.length],aj 0 150 [.fs 2 cs.length (pI cs),.n .i64 ((p1+1:Nat):Int),.os 2 ptK.length]] (.cons rfl .k1 (.cons rfl .k1 (.cons rfl (.lstj (x:=_) (by simp only[go_sem,simprocAttr]<;>rfl) (by rfl) (by rfl) (by rfl) (by rfl) (by rfl) (by rfl) (by simp) (λi hi=>by rcases bi hi with rfl<;>(simp only[go_sem,simprocAttr];first|exact Wv.same rfl|exact Wv.os rfl|exact Wv.p rfl|exact Wv.n (by omega)))) (.cons rfl (.lstj (x:=_) (by simp only[go_sem,simprocAttr]<;>rfl) (by rfl) (by rfl) (by rfl) (by rfl) (by rfl) (by rfl) (by simp) (λi hi=>by rcases bh hi with rfl|rfl|rfl<;>(simp only[go_sem,simprocAttr];first|exact Wv.same rfl|exact Wv.os rfl|exact Wv.p rfl|exact Wv.n (by omega)))) .nil)))) (.agg rfl (λi v v' k1 k2=>?_)) (by simp) (aW rfl rfl) ⟨.br 29 p (p1+1) x Fo.nil .nil,p1+1,ptK,lv,(Option.some.inj hr).symm,⟨29,p,p1+1,x,Fo.nil,rfl,Nat.le_refl _⟩,by omega,by omega,by omega,by omega,rfl,rfl⟩
      rcases i with _|_|_|_|_|i<;>simp only[List.getElem?_cons_zero,List.getElem?_cons_succ,Option.some.injEq,List.getElem?_nil,reduceCtorEq] at k1 k2<;>subst k1 k2<;>first|exact Wv.same rfl|exact .cv (.sl0 _ _)
    ·have e31:¬(cs.getD p1 (0,0)).1=31:=hend
     rw[di,if_neg (λh=>hend h.2)] at hr
     repeat (first|(with_reducible refine GE.go am rfl ?_)|simp only[h01,bp,hop',decide_true,decide_false,hlt',e31,go_sem,simprocAttr])
     exact bb [] (fargs:=[.b false,.n .i64 (p1:Int),.n .i64 15]) (aV.same rfl) (aP p1 15) ⟨p1,(Option.some.inj hr).symm,rfl⟩
   ·have hlt':¬(p1:Int)<cs.length:=by omega
    ·rw[di,if_neg (λh=>hlt h.1)] at hr
     repeat (first|(with_reducible refine GE.go am rfl ?_)|simp only[h01,bp,hop',decide_true,decide_false,hlt',go_sem,simprocAttr])
     exact bb [] (fargs:=[.b false,.n .i64 (p1:Int),.n .i64 15]) (aV.same rfl) (aP p1 15) ⟨p1,(Option.some.inj hr).symm,rfl⟩
  ·rintro c H' ⟨z,rfl,rfl⟩
   exact⟨z,(Option.some.inj hr).symm,rfl⟩
theorem sF(cs:List (Int×Int))(hcs:cs.length<=1024)(f:Nat):kM cs f/\kL cs f:=by
 induction f using Nat.strongRecOn with
 |ind f ih=>exact⟨sH cs hcs f λm hm=>qr cs hcs m (ih m hm).1 (ih m hm).2,sG cs hcs f λm hm=>qq cs hcs m (ih m hm).1 (ih m hm).2⟩
theorem jf{cs:List (Int×Int)}:∀(f d:Nat) (inL:Bool) (p:Nat) (pt lv:List Int) (out:Fo),p<=cs.length->pt.length=cs.length->lv.length<=p->cs.length+1<=p+f->∃r,lst cs f d inL p pt lv out=some r:=by
 intro f
 induction f with
 |zero=>intro d inL p pt lv out hp hpt hlv h;omega
 |succ f ih=>
  intro d inL p pt lv out hp hpt hlv h
  rw[lst]
  split
  ·exact⟨_,rfl⟩
  split
  ·exact⟨_,rfl⟩
  split
  ·have hL:xY cs (λd inL p pt lv=>lst cs f d inL p pt lv .nil):=λd inL p pt lv r h1 h2 h3 h4=>cf f d inL p pt lv .nil r h1 h2 h3 h4
   have hb:∃rb,dT cs (λd inL p pt lv=>lst cs f d inL p pt lv .nil) (d+1) inL p pt lv=some rb:=by
    rw[dT]
    split
    ·exact⟨_,rfl⟩
    obtain⟨r1,h1⟩:=ih (d+1) (inL||decide (ax cs p=29)) (p+1) pt (if ax cs p=29 then[] else lv) .nil (by omega) hpt (by split<;>(try simp)<;>omega) (by omega)
    have k1:=cf f _ _ _ _ _ .nil r1 (by omega) hpt (by split<;>(try simp)<;>omega) h1
    simp only[h1]
    cases r1 with
    |error x=>exact⟨_,rfl⟩
    |ok q=>
     obtain⟨x,p1,pt1,lv1⟩:=q
     obtain⟨f1,f2,f3,f4,_⟩:=k1 x p1 pt1 lv1 rfl
     dsimp only
     split
     ·rename_i hc
      obtain⟨r2,h2⟩:=ih (d+1) (inL||decide (ax cs p=29)) (p1+1) (pt1.set p (p1:Int)) lv1 .nil (by omega) (by rw[List.length_set];exact f3) (by omega) (by omega)
      simp only[h2]
      cases r2 with
      |error x=>exact⟨_,rfl⟩
      |ok q=>
       obtain⟨y,p2,pt2,lv2⟩:=q
       dsimp only
       rw[di]
       split<;>exact⟨_,rfl⟩
     ·rw[di]
      split<;>exact⟨_,rfl⟩
   obtain⟨rb,hb⟩:=hb
   simp only[hb]
   cases rb with
   |error x=>exact⟨_,rfl⟩
   |ok q=>
    obtain⟨b,p',pt',lv'⟩:=q
    obtain⟨g1,g2,g3,g4,_⟩:=(jr hL (by omega) hpt hlv hb).1 b p' pt' lv' rfl
    exact ih d inL p' pt' lv' (out.app b) g2 g3 g4 (by omega)
  ·split
   ·exact⟨_,rfl⟩
   ·exact ih d inL (p+1) pt _ (out.addPl p) (by omega) hpt (by split<;>(try simp)<;>omega) (by omega)
def fg(cs:List (Int×Int)):Except Nat (Fo×List Int):=match lst cs (cs.length+1) 0 false 0 (List.replicate cs.length (-1)) [] .nil with
 |some (.ok (o,p,pt,_))=>if p=cs.length then .ok (o,pt) else .error p
 |some (.error x)=> .error x
 |none=> .error 0
theorem KS{cs:List (Int×Int)}{o:Fo}{pt:List Int}(h:fg cs= .ok (o,pt)):pt.length=cs.length:=by
 obtain⟨r,hr⟩:=jf (cs:=cs) (cs.length+1) 0 false 0 (List.replicate cs.length (-1)) [] .nil (Nat.zero_le _) (by simp) (by simp) (by omega)
 rw[fg,hr] at h
 cases r with
 |error x=>cases h
 |ok q=>
  obtain⟨o1,p,pt1,lv1⟩:=q
  have:=cf _ _ _ _ _ _ _ _ (Nat.zero_le _) (by simp) (by simp) hr o1 p pt1 lv1 rfl
  dsimp only at h
  split at h
  ·cases h
   exact this.2.2.1
  ·cases h
theorem rk(cs:List (Int×Int))(hcs:cs.length<=1024)(pt0:List Int)(h0:pt0=List.replicate cs.length (-1)):
  PC Tryz.prog cm 82 [.p 0 0] (ag [ah 3 1 pt0.length 0 (iC pt0),aj 0 150 [.fs 2 cs.length (pI cs),.n .i64 0,.os 1 pt0.length]])
   (λv H'=>∃o pt,fg cs= .ok (o,pt)/\v= .fs 5 o.len o.cell/\H'=ag [ah 3 1 pt.length 0 (iC pt),aj 0 150 [.fs 2 cs.length (pI cs),.n .i64 cs.length,.os 1 pt.length]]) (λc _=>∃x,fg cs= .error x/\c=eJ x 15):=by
 obtain⟨r,hr⟩:=jf (cs:=cs) (cs.length+1) 0 false 0 pt0 [] .nil (Nat.zero_le _) (by rw[h0];simp) (by simp) (by omega)
 have hrd:=hr
 rw[h0] at hrd
 refine PC.vw (fP yq ⟨by simp,by decide⟩ ?_)
 simp only[aQ]
 repeat (first|(with_reducible refine GE.go am rfl ?_)|simp only[go_sem,simprocAttr])
 refine gH cm [(0,.p 0 0)] [] [ah 3 1 pt0.length 0 (iC pt0),aj 0 150 [.fs 2 cs.length (pI cs),.n .i64 (0:Nat),.os 1 pt0.length]] ((sF cs hcs (cs.length+1)).1 0 0 pt0 [] r (by omega) (Nat.zero_le _) (by rw[h0];simp) (by simp) hr) rfl ?_ ?_ ?_ ?_ (λb hb=>by simp[hb]) ?_ ?_ ?_ ?_ ?_ ?_ ?_
 ·simp only[uq,go_sem,simprocAttr]
 ·simp
 ·rfl
 ·exact λb hb=>by simp[cm] at hb;simp;omega
 ·exact fm (by simp) (by rfl)
 ·simp[AV.nm]
 ·simp[AV.nm,cm]
 ·exact .cons (.row (by decide) (λi j _ _=>rfl)) (.cons (.lst (by simp) (by rfl)) .nil)
 ·exact .nil
 ·rintro v H' ⟨o,p1,pt1,lv1,rfl,rfl,rfl⟩
  have hk:=cf _ _ _ _ _ _ _ _ (Nat.zero_le _) (by rw[h0];simp) (by simp) hr o p1 pt1 lv1 rfl
  refine⟨_,rfl,rfl,?_⟩
  rw[List.nil_append]
  by_cases he:p1=cs.length
  ·subst he
   repeat (first|(with_reducible refine GE.go am rfl ?_)|simp only[decide_true,go_sem,simprocAttr])
   refine bg [] (fargs:=[.b true,.n .i64 (cs.length:Int),.n .i64 15]) (aV.same rfl) (bI cs.length 15) ?_ ?_
   ·simp only[go_sem,simprocAttr]
   repeat (first|(with_reducible refine GE.go am rfl ?_)|simp only[go_sem,simprocAttr])
   refine eP [1,0] [] (.fs 5 o.len o.cell) [ah 3 1 pt1.length 0 (iC pt1),aj 0 150 [.fs 2 cs.length (pI cs),.n .i64 cs.length,.os 1 pt1.length]] (.cons rfl .k1 (.cons rfl (.lstj (x:=_) (by simp only[go_sem,simprocAttr]<;>rfl) (by rfl) (by rfl) (by rfl) (by rfl) (by rfl) (by rfl) (by simp) (λi hi=>by rcases bh hi with rfl|rfl|rfl<;>(simp only[go_sem,simprocAttr];first|exact Wv.same rfl|exact Wv.os rfl))) .nil)) (Wv.same rfl) (by simp) (aO rfl) ⟨o,pt1,?_,rfl,rfl⟩
   rw[fg,hrd]
   exact if_pos rfl
  ·have he':¬(p1:Int)=cs.length:=by omega
   repeat (first|(with_reducible refine GE.go am rfl ?_)|simp only[he',decide_false,go_sem,simprocAttr])
   refine bb [] (fargs:=[.b false,.n .i64 (p1:Int),.n .i64 15]) (aV.same rfl) (aP p1 15) ⟨p1,?_,rfl⟩
   rw[fg,hrd]
   exact if_neg he
 ·rintro c H' ⟨z,rfl,rfl⟩
  exact⟨z,by rw[fg,hrd],rfl⟩
theorem sg{cs:List (Int×Int)}:∀(f d:Nat) (inL:Bool) (p:Nat) (pt lv:List Int) (out0:Fo) (r:Except Nat LR) (s:RS) (a:Nat),lst cs f d inL p pt lv out0=some r->p<=cs.length->pt.length=cs.length->lv.length<=p->
  s.op.length=d->s.ot.length=d->s.out.length=cs.length->eh cs s.op=inL->d<=8->a8 cs s.out out0 a p->jy cs p s a r:=by
 intro f
 induction f with
 |zero=>intro d inL p pt lv out0 r s a h;cases h
 |succ f ih=>
  intro d inL p pt lv out0 r s a h hp hpt hlv h1 h2 h3 h4 hd hg
  have triv:∀r',(p=cs.length\/ax cs p=28\/ax cs p=31)->some (Except.ok (out0,p,pt,lv))=some r'->jy cs p s a r':=λr' hs h=>by
   cases h
   exact⟨s,⟨by rw[Nat.sub_self];rfl,rfl,rfl,h3,λ_ _=>rfl⟩,hs,hg⟩
  rw[lst] at h
  by_cases c1:cs.length<=p
  ·rw[if_pos c1] at h
   exact triv r (.inl (by omega)) h
  rw[if_neg c1] at h
  by_cases c2:ax cs p=28\/ax cs p=31
  ·rw[if_pos c2] at h
   exact triv r (.inr c2) h
  rw[if_neg c2] at h
  have c28:ax cs p≠28:=λh=>c2 (.inl h)
  have c31:ax cs p≠31:=λh=>c2 (.inr h)
  by_cases c3:ax cs p=27\/ax cs p=29
  ·rw[if_pos c3] at h
   cases hb:dT cs (λd inL p pt lv=>lst cs f d inL p pt lv .nil) (d+1) inL p pt lv with
   |none=>rw[hb] at h;cases h
   |some rb=>
   rw[hb] at h
   have hL:xY cs (λd inL p pt lv=>lst cs f d inL p pt lv .nil):=λd inL p pt lv r q1 q2 q3 q4=>cf f d inL p pt lv .nil r q1 q2 q3 q4
   have k:=tY hL (λd inL p pt lv r s q1 q2 q3 q4 q5 q6 q7 q8 q9=>ih d inL p pt lv .nil r s p q1 q2 q3 q4 q5 q6 q7 q8 q9 rfl) (by omega) hpt hlv c3 h1 h2 h3 h4 hd hb
   have kk:=jr hL (by omega) hpt hlv hb
   cases rb with
   |error x=>cases h;exact k
   |ok q=>
   obtain⟨b,p',pt',lv'⟩:=q
   obtain⟨s',k1,k2⟩:=k
   obtain⟨f1,f2,f3,f4,f5⟩:=kk.1 b p' pt' lv' rfl
   dsimp only at h
   obtain⟨x,y,hbr⟩:=kk.2 b p' pt' lv' rfl
   have hgood:a8 cs s'.out (out0.app b) a p':=(hg.congr λk q1 q2=>k1.low k q2).app k2 (λ_=>by rw[hbr];rfl)
   have k3:=ih d inL p' pt' lv' (out0.app b) r s' a h f2 f3 f4 (by rw[k1.op];exact h1) (by rw[k1.ot];exact h2) k1.len (by rw[k1.op];exact h4) hd hgood
   cases r with
   |error x=>exact⟨by have:=k3.1;omega,k3.2.skip (by omega) f2 k1.run⟩
   |ok q=>
   obtain⟨o,p1,pt1,lv1⟩:=q
   obtain⟨s2,m1,m2,m3⟩:=k3
   obtain⟨e1,_⟩:=cf f d inL p' pt' lv' _ _ f2 f3 f4 h o p1 pt1 lv1 rfl
   exact⟨s2,⟨eB (p1:=p') (by omega) e1 k1.run m1.run,m1.op.trans k1.op,m1.ot.trans k1.ot,m1.len,λi hi=>(m1.low i (by omega)).trans (k1.low i hi)⟩,m2,m3⟩
  rw[if_neg c3] at h
  have c27:ax cs p≠27:=λh=>c3 (.inl h)
  have c29:ax cs p≠29:=λh=>c3 (.inr h)
  by_cases c4:ax cs p=30/\inL=false
  ·rw[if_pos c4] at h
   cases h
   refine⟨Nat.le_refl _,.here (by omega) ?_⟩
   rw[a7,if_neg c3,if_neg c28,if_pos c4.1,if_neg (by rw[h4,c4.2];decide)]
  rw[if_neg c4] at h
  have hs1:a7 cs p s=some ⟨s.out.set p (-1),s.op,s.ot⟩:=by
   rw[a7,if_neg c3,if_neg c28]
   by_cases c30:ax cs p=30
   ·rw[if_pos c30,if_pos]
    rw[h4]
    cases inL with
    |true=>rfl
    |false=>exact absurd ⟨c30,rfl⟩ c4
   ·rw[if_neg c30,if_neg c31]
  have hlow:∀i,i<p->(s.out.set p (-1)).getD i 0=s.out.getD i 0:=λi hi=>bQ (by omega)
  have hlv1:(if ax cs p=30 then lv++[(p:Int)] else lv).length<=p+1:=by split<;>(try simp)<;>omega
  have k3:=ih d inL (p+1) pt _ (out0.addPl p) r ⟨s.out.set p (-1),s.op,s.ot⟩ a h (by omega) hpt hlv1 h1 h2 (by simp[h3]) h4 hd ((hg.congr λk q1 q2=>hlow k q2).addPl c27 c29)
  cases r with
  |error x=>exact⟨by have:=k3.1;omega,k3.2.step (by omega) hs1⟩
  |ok q=>
  obtain⟨o,p1,pt1,lv1⟩:=q
  obtain⟨s2,m1,m2,m3⟩:=k3
  obtain⟨e1,_⟩:=cf f d inL (p+1) pt _ _ _ (by omega) hpt hlv1 h o p1 pt1 lv1 rfl
  exact⟨s2,⟨eB (p1:=p+1) (by omega) e1 (by rw[show p+1-p=1 by omega];exact fe hs1) m1.run,m1.op,m1.ot,m1.len,λi hi=>(m1.low i (by omega)).trans (hlow i hi)⟩,m2,m3⟩
def l9(cs:List (Int×Int)):RS:=⟨List.replicate cs.length 0,[],[]⟩
def d9(cs:List (Int×Int)):Except Nat (List Int):=match bm cs cs.length 0 (l9 cs) with
 |.error x=> .error x
 |.ok s=>if s.op=[] then .ok s.out else .error cs.length
theorem oP(cs:List (Int×Int)):match fg cs with
  |.error x=>d9 cs= .error x
  |.ok (o,_)=>∃out,d9 cs= .ok out/\out.length=cs.length/\a8 cs out o 0 cs.length:=by
 obtain⟨r,hr⟩:=jf (cs:=cs) (cs.length+1) 0 false 0 (List.replicate cs.length (-1)) [] .nil (Nat.zero_le _) (by simp) (by simp) (by omega)
 have k:=sg _ _ _ _ _ _ _ _ (l9 cs) 0 hr (Nat.zero_le _) (by simp) (by simp) rfl rfl (by simp[l9]) rfl (by omega) rfl
 have kk:=cf _ _ _ _ _ _ _ _ (Nat.zero_le _) (by simp) (by simp) hr
 have herr:∀x,bF cs 0 (l9 cs) x->d9 cs= .error x:=λx h=>by
  unfold bF at h
  rw[Nat.sub_zero] at h
  rcases h with⟨_,h⟩|⟨rfl,s',h,ho⟩
  ·rw[d9,h]
  ·rw[d9,h]
   exact if_neg ho
 rw[fg,hr]
 cases r with
 |error x=>exact herr x k.2
 |ok q=>
  obtain⟨o,p,pt,lv⟩:=q
  obtain⟨s',m1,m2,m3⟩:=k
  obtain⟨f1,f2,_⟩:=kk o p pt lv rfl
  dsimp only
  by_cases he:p=cs.length
  ·rw[if_pos he]
   subst he
   refine⟨s'.out,?_,m1.len,m3⟩
   have:=m1.run
   rw[Nat.sub_zero] at this
   rw[d9,this]
   exact if_pos m1.op
  ·rw[if_neg he]
   refine herr p (bF.skip (Nat.zero_le _) f2 m1.run (.here (by omega) ?_))
   have ho:s'.op=[]:=m1.op
   rcases m2.resolve_left he with h|h
   ·rw[a7,if_neg (by rw[h];decide),if_pos h,ho]
   ·rw[a7,if_neg (by rw[h];decide),if_neg (by rw[h];decide),if_neg (by rw[h];decide),if_pos h,ho]
end Go.Proofs.YthehakngpbjgjaaGreat