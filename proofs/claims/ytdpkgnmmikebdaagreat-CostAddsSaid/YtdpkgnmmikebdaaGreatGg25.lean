/- A part of the proof of CostAdds: FlC FlD FlS FlE FlF VfS. No condition. -/
import Derived.Test.YtdpkgnmmikebdaaGreatGg24
import Derived.Test.YtdpkgnmmikebdaaGreatGg17
import Derived.Test.YtdpkgnmmikebdaaGreatGg22
set_option linter.unusedSimpArgs false
set_option linter.unusedVariables false
set_option linter.constructorNameAsVariable false
set_option maxRecDepth 100000
set_option maxHeartbeats 4000000
namespace Go.Proofs.YtdpkgnmmikebdaaGreat
open Go.RowKit
theorem c9.put2{r:Nat->Option Nat}{M:List Nat}{H:AH}{b ty n z a c:Nat}{row row2:Nat->Nat->AV}{v w:AV}(hx:H.at b=some (((ai ty 1 n z row).putN a [v]).putN c [w]))(ha:a<n)(hc:c<n)(hM:M.contains b=false)(hn:n<999999)
  (h2:∀i,i<n->(if i=c then w else if i=a then v else row i 0)=row2 i 0) (hp:∀i j,i<n->j<1->(row2 i j).pu 3=true):c9 r M H b (ai ty 1 n z row2):=by
 refine c9.rows hx rfl rfl rfl (Nat.le_refl _) (by rw[if_neg (by simpa using hM)];exact Nat.le_refl _) (by decide) (λi j hi hj=>?_) hp
 obtain rfl:j=0:=by omega
 rw[<-h2 i hi,dl (by simp only[List.length_cons,List.length_nil];omega),dl (by simp only[List.length_cons,List.length_nil];omega)]
 simp only[List.length_cons,List.length_nil,Nat.mul_one,Nat.add_zero,Nat.zero_add]
 by_cases e:i=c
 ·subst e
  rw[if_pos (by omega),if_pos rfl,Nat.sub_self]
  rfl
 rw[if_neg (by omega),if_neg e]
 by_cases e2:i=a
 ·subst e2
  rw[if_pos (by omega),if_pos rfl,Nat.sub_self]
  rfl
 rw[if_neg (by omega),if_neg e2]
 exact hD i
theorem iP{pt:List Int}{a c:Nat}(ha:a<pt.length)(hc:c<pt.length)(v w:Int)(i:Nat):(if i=c then AV.n .i64 w else if i=a then AV.n .i64 v else iC pt i 0)=iC ((pt.set a v).set c w) i 0:=by
 simp only[iC]
 rw[eG (by rw[List.length_set];exact hc),eG ha]
 by_cases h:i=c
 ·rw[if_pos h,if_pos h]
 ·rw[if_neg h,if_neg h]
  by_cases h2:i=a
  ·rw[if_pos h2,if_pos h2]
  ·rw[if_neg h2,if_neg h2]
theorem b6.nilb{n:Nat}{kk:Nat->Bool}{e:Tr AV}{H:AH}(b i esz ty:Nat){x:AB}(hx:H.at b=some x)(hg:x.get i= .sl0)(hi:i<1000000)(hb:b<1000000)(hbn:b<H.next)(hlv:x.live=true)(hn:H.next<1000000):
  b6 n kk e H e ((H.new (gj esz ty)).upd b (x.set i (.os H.next 0))):=by
 intro B σ a w hE hH
 have hle:=σ.le_extNil H.next
 have h1:=hH.placeNil (x:=gj esz ty) (H1:=H) rfl (λ_ _ h=>h) (by omega) rfl rfl rfl ⟨rfl,rfl⟩
 refine⟨σ.extNil H.next,⟨⟨hE.er.df,λt' v hv=>(hE.er.get t' v hv).mono hle⟩,hE.sz,hE.sm⟩,?_,Below.refl _ _,.of_eq rfl,λb c o h=> .inl ⟨b,o,h⟩,λ_ _ _=> .inl rfl,λ_ _ _=>rfl,λb x _ h=>h⟩
 have hx1:(H.new (gj esz ty)).at b=some x:=by rw[dP hn,if_neg (by omega)];exact hx
 refine h1.recell hx1 hb rfl rfl rfl rfl hlv rfl (λj u hj hu=>?_)
 rw[oZ hi]
 by_cases e:j=i
 ·rw[if_pos e]
  rw[e,hg] at hu
  cases hu
  exact .os0 (σ:=σ.extNil H.next) (Or.inl rfl) _
 ·rw[if_neg e];exact hu
theorem jp:∀(l pt:List Int) (v i:Int),bD pt v (l++[i])=(bD pt v l).set i.toNat v
 |[],_,_,_=>rfl
 |j::l,pt,v,i=>by rw[List.cons_append,bD,jp l,bD]
theorem nX{l:List Int}{k:Nat}(h:k<l.length):l.take (k+1)=l.take k++[l.getD k 0]:=by
 rw[List.take_succ_eq_append_getElem h,List.getD_eq_getElem?_getD,List.getElem?_eq_getElem h]
 rfl
theorem lt5z{i:Nat}(h:i<5):i=0\/i=1\/i=2\/i=3\/i=4:=by omega
theorem wP(cs:List (Int×Int))(hcs:cs.length<=1024)(f:Nat)(hF:pW cs f)(hT:pV cs f):uM cs (λd inL p pt lv=>lst cs f d inL p pt lv .nil):=by
 intro d p pt lv r hd hp hpt hlv hop hr
 have hok:=kM (λd inL p pt lv r h1 h2 h3 h4=>cB f d inL p pt lv .nil r h1 h2 h3 h4) hp hpt hlv hr
 rw[d8] at hr
 refine PC.vw (cI CY ⟨by simp,by decide⟩ ?_)
 simp only[aH]
 have h0:(0:Int)<=(p:Int):=by omega
 have h1':(p:Int)<cs.length:=by omega
 have w0:IntKind.i64.wrap ((p:Int)+1)=((p+1:Nat):Int):=(am (by omega)).trans (by omega)
 by_cases h8:8<d
 ·rw[if_pos h8] at hr
  have h8':¬(d:Int)<=8:=by omega
  repeat first|with_reducible refine GE.g ?_|simp only[h8',decide_false,go_sem,simprocAttr]
  exact aM [] (fargs:=[.b false,.n .i64 (p:Int),.n .i64 15]) (cm.same rfl) (bh p 15) ⟨p,(Option.some.inj hr).symm,rfl⟩
 rw[if_neg h8] at hr
 have h8':(d:Int)<=8:=by omega
 repeat first|with_reducible refine GE.g ?_|simp only[h8',decide_true,go_sem,simprocAttr]
 refine dd ([.b true,.n .i64 (p:Int),.n .i64 15]) (bT p 15) ?_
 rcases hop with hop|hop
 ·have hop':(cs.getD p (0,0)).1=27:=hop
  have hn29:¬aj cs p=29:=by rw[hop];decide
  rw[if_neg hn29] at hr
  repeat first|with_reducible refine GE.g ?_|simp only[h1',h0,cT,hop',w0,decide_true,decide_false,go_sem,simprocAttr]
  cases hl:lst cs f d false (p+1) pt lv .nil with
  |none=>simp[hn29,hl] at hr
  |some r1=>
  have hr1:=cB f d false (p+1) pt lv .nil r1 (by omega) hpt (by omega) hl
  simp only[hn29,decide_false,Bool.or_false,hl] at hr
  refine dX (ob:=λ_=>none) bG [4,3,2,1,0] [] [(0,.p 0 0),(1,.n .i64 d),(2,.p0),(6,.p 2 0),(7,.p 3 0),(8,.p 4 0)] [.p 0 0,.n .i64 d,.p0] [ae 0 95 [.sl0],ae 0 140 [.n .i64 27,.n .i64 p,.n .i64 0,.sl0,.sl0],ae 0 140 [.n .i64 0,.n .i64 0,.n .i64 0,.sl0,.sl0]] [ai 3 1 pt.length 0 (iC pt),ae 0 173 [.fs 2 cs.length (pI cs),.n .i64 ((p+1:Nat):Int),.os 1 pt.length]] (hF d (p+1) pt lv r1 (by omega) (by omega) hpt (by omega) hl).o ?_ ?_ ?_ ?_ ?_ ?_ ?_ ?_ ?_ ?_ ?_ ?_ ?_ ?_
  ·exact ba
  ·exact .cr (.j1) (.cr (.j5) (.cr (.j5) (.cr .k1 (.cr (.j3) .nil))))
  ·exact⟨Wv.p rfl,Wv.n rfl,Wv.same rfl,trivial⟩
  ·exact λr x hx=>by cases hx
  ·simp
  ·rfl
  ·exact λb hb=>by simp[bG] at hb;simp;omega
  ·rw[ax];exact il (by simp) (by rfl)
  ·simp[AV.nm]
  ·simp[AV.nm,bG]
  ·exact .cons (.row (by decide) (λi j _ _=>rfl)) (.cons .lq .nil)
  ·exact .cons .lq (.cons (.lst (by simp) (by simp[AV.nm])) (.cons .lq .nil))
  ·rintro v H' ⟨x,p1,pt1,lv1,rfl,rfl,rfl⟩
   refine⟨λ_=>none,λ_=>none,[ai 3 1 pt1.length 0 (iC pt1),ae 0 173 [.fs 2 cs.length (pI cs),.n .i64 p1,.os 1 pt1.length]],[ae 0 95 [.sl0],ae 0 140 [.n .i64 27,.n .i64 p,.n .i64 0,.sl0,.sl0],ae 0 140 [.n .i64 0,.n .i64 0,.n .i64 0,.sl0,.sl0],ai 3 1 pt1.length 0 (iC pt1),ae 0 173 [.fs 2 cs.length (pI cs),.n .i64 p1,.os 1 pt1.length]],[4,3,2,1,0],[],_,[(0,.p 0 0),(1,.n .i64 d),(2,.p0),(6,.p 2 0),(7,.p 3 0),(8,.p 4 0)],(ax _).symm,rfl,?_,?_,Wv.same rfl,by simp,(λr x hx=>by cases hx),?_,?_⟩
   ·exact ba
   ·simp only[List.cons_append,List.nil_append,ax]
    exact .cr (.j1) (.cr (.j5) (.cr (.j5) (.cr .k1 (.cr (.j3) .nil))))
   ·intro b hb;have hb':=of_decide_eq_true hb;obtain rfl:b=0:=by omega
    exact⟨0,rfl,rfl,.inl rfl⟩
   rw[ax]
   have hr1':=hr1 x p1 pt1 lv1 rfl
   obtain⟨g1,g2,g3,g4,g5⟩:=hr1'
   dsimp only at hr
   have h01:(0:Int)<=(p1:Int):=by omega
   by_cases hc:p1<cs.length/\aj cs p1=28
   ·rw[if_pos ⟨hop,hc⟩] at hr
    have hlt':(p1:Int)<cs.length:=by omega
    have e28:(cs.getD p1 (0,0)).1=28:=hc.2
    have q1:(p:Int)<pt1.length:=by omega
    have q3:p+1<=pt1.length:=by omega
    have w1:IntKind.i64.wrap ((p1:Int)+1)=((p1+1:Nat):Int):=(am (by omega)).trans (by omega)
    obtain⟨ptB,hB⟩:∃l,l=pt1.set p (p1:Int):=⟨_,rfl⟩
    have hBl:ptB.length=pt1.length:=by rw[hB,List.length_set]
    rw[<-hB] at hr
    repeat first|with_reducible refine GE.g ?_|simp only[h01,hlt',cT,hop',decide_true,go_sem,simprocAttr]
    refine⟨λ_=>?_,λh=>by rw[e28] at h;exact absurd h (by decide)⟩
    with_reducible refine GE.go aF rfl ?_
    simp only[go_sem,simprocAttr]
    refine GE.mixm aF 1 (by simp only[go_sem,simprocAttr,bI]) ?_
    simp only[h0,h01,q1,q3,go_sem,simprocAttr]
    try refine(And.intro (by decide) ?_)
    repeat first|with_reducible refine GE.g ?_|simp only[w1,cT,go_sem,simprocAttr]
    cases hl2:lst cs f d false (p1+1) ptB lv1 .nil with
    |none=>rw[hl2] at hr;cases hr
    |some r2=>
    have hr2:=cB f d false (p1+1) ptB lv1 .nil r2 (by omega) (by omega) (by omega) hl2
    rw[hl2] at hr
    refine dX (ob:=λ_=>none) bG [4,3,2,1,0] [] [(0,.p 0 0),(1,.n .i64 d),(2,.p0),(6,.p 2 0),(7,.p 3 0),(8,.p 4 0),(9,.n .i64 p1)] [.p 0 0,.n .i64 d,.p0] [ae 0 95 [.sl0],ae 0 140 [.n .i64 27,.n .i64 p,.n .i64 0,.fs 5 x.len x.cell,.sl0],ae 0 140 [.n .i64 0,.n .i64 0,.n .i64 0,.sl0,.sl0]] [ai 3 1 ptB.length 0 (iC ptB),ae 0 173 [.fs 2 cs.length (pI cs),.n .i64 ((p1+1:Nat):Int),.os 1 ptB.length]] (hF d (p1+1) ptB lv1 r2 (by omega) (by omega) (by omega) (by omega) hl2).o ?_ ?_ ?_ ?_ ?_ ?_ ?_ ?_ ?_ ?_ ?_ ?_ ?_ ?_
    ·exact ba
    ·(try rw[hBl]);exact .cr (.j1) (.cr (.j5) (.cr (.j5) (.cr (.put1 (row:=iC pt1) (row2:=iC ptB) (o:=p) (q:=p) (t:=0) (v:= .n .i64 (p1:Int)) (by simp only[go_sem,simprocAttr]) (by omega) (by decide) (by omega) rfl (by omega) (λi j hi hj=>by rw[hB];simp only[iC];rw[eG (by omega)];by_cases hh:i=p<;>simp[hh];omega) (λ_ _ _ _=>rfl)) (.cr (.j3) .nil))))
    ·exact⟨Wv.p rfl,Wv.n rfl,Wv.same rfl,trivial⟩
    ·exact λr x hx=>by cases hx
    ·simp
    ·rfl
    ·exact λb hb=>by simp[bG] at hb;simp;omega
    ·rw[ax];exact il (by simp) (by rfl)
    ·simp[AV.nm]
    ·simp[AV.nm,bG]
    ·exact .cons (.row (by decide) (λi j _ _=>rfl)) (.cons .lq .nil)
    ·exact .cons .lq (.cons (.lst (by simp) (by simp[AV.nm])) (.cons .lq .nil))
    ·rintro v H' ⟨y,p2,pt2,lv2,rfl,rfl,rfl⟩
     refine⟨λ_=>none,λ_=>none,[ai 3 1 pt2.length 0 (iC pt2),ae 0 173 [.fs 2 cs.length (pI cs),.n .i64 p2,.os 1 pt2.length]],[ae 0 95 [.sl0],ae 0 140 [.n .i64 27,.n .i64 p,.n .i64 0,.fs 5 x.len x.cell,.sl0],ae 0 140 [.n .i64 0,.n .i64 0,.n .i64 0,.sl0,.sl0],ai 3 1 pt2.length 0 (iC pt2),ae 0 173 [.fs 2 cs.length (pI cs),.n .i64 p2,.os 1 pt2.length]],[4,3,2,1,0],[],_,[(0,.p 0 0),(1,.n .i64 d),(2,.p0),(6,.p 2 0),(7,.p 3 0),(8,.p 4 0),(9,.n .i64 p1)],(ax _).symm,rfl,?_,?_,Wv.same rfl,by simp,(λr x hx=>by cases hx),?_,?_⟩
     ·exact ba
     ·simp only[List.cons_append,List.nil_append,ax]
      exact .cr (.j1) (.cr (.j5) (.cr (.j5) (.cr .k1 (.cr (.j3) .nil))))
     ·intro b hb;have hb':=of_decide_eq_true hb;obtain rfl:b=0:=by omega
      exact⟨0,rfl,rfl,.inl rfl⟩
     rw[ax]
     obtain⟨f1,f2,f3,f4,f5⟩:=hr2 y p2 pt2 lv2 rfl
     dsimp only at hr
     have h02:(0:Int)<=(p2:Int):=by omega
     by_cases hlt:p2<cs.length
     ·have hlt':(p2:Int)<cs.length:=by omega
      by_cases hend:aj cs p2=31
      ·have e31:(cs.getD p2 (0,0)).1=31:=hend
       rw[dx,if_pos ⟨hlt,hend⟩] at hr
       repeat first|with_reducible refine GE.g ?_|simp only[h01,cT,hop',decide_true,decide_false,hlt',h02,e31,go_sem,simprocAttr]
       refine dd ([.b true,.n .i64 (p2:Int),.n .i64 15]) (bT p2 15) ?_
       have q1:(p1:Int)<pt2.length:=by omega
       have q2:(p2:Int)<pt2.length:=by omega
       have q3:p1+1<=pt2.length:=by omega
       have q4:p2+1<=pt2.length:=by omega
       simp only[go_sem,simprocAttr]
       with_reducible refine GE.go aF rfl ?_
       simp only[go_sem,simprocAttr]
       refine GE.wk (b6.mk (L:=[(0,.p 0 0),(6,.p 1 0),(7,.p 2 0),(8,.p 3 0),(9,.n .i64 p1)]) (bl:=[ai 3 1 pt2.length 0 (iC pt2),ae 0 95 [.sl0],ae 0 140 [.n .i64 27,.n .i64 p,.n .i64 0,.fs 5 x.len x.cell,.fs 5 y.len y.cell],ae 0 140 [.n .i64 0,.n .i64 0,.n .i64 0,.sl0,.sl0],ae 0 173 [.fs 2 cs.length (pI cs),.n .i64 p2,.os 4 pt2.length]]) [1,4,3,2,0] [] ?_ ?_ (by simp) (aC rfl)) ?_
       ·exact ba
       ·exact .cr .k1 (.cr (.j1) (.cr (.j5) (.cr (.j5) (.cr (.j3) .nil))))
       refine GE.mixm aF 4 (by simp only[go_sem,simprocAttr,bI]) ?_
       repeat first|with_reducible refine GE.g ?_|simp only[h01,h0,q1,q2,q3,q4,decide_true,h02,go_sem,simprocAttr]
       refine⟨by decide,?_⟩
       repeat first|with_reducible refine GE.g ?_|simp only[go_sem,simprocAttr]
       obtain⟨ptA,hA⟩:∃l,l=(pt2.set p1 (p2:Int)).set p2 (p:Int):=⟨_,rfl⟩
       have hAl:ptA.length=pt2.length:=by rw[hA,List.length_set,List.length_set]
       rw[<-hA] at hr
       have w9:IntKind.i64.wrap ((p2:Int)+1)=((p2+1:Nat):Int):=(am (by omega)).trans (by omega)
       refine GE.loop (I:=λm e H=>e=aB [(0,.p 0 0),(6,.p 1 0),(7,.p 2 0),(158,.n .i64 0),(159,.n .i64 0)]/\H=ah [ai 3 1 ptA.length 0 (iC ptA),ae 0 95 [.sl0],ae 0 140 [.n .i64 27,.n .i64 p,.n .i64 0,.fs 5 x.len x.cell,.fs 5 y.len y.cell],ae 0 140 [.n .i64 0,.n .i64 0,.n .i64 0,.sl0,.sl0],ae 0 173 [.fs 2 cs.length (pI cs),.n .i64 p2,.os 4 ptA.length]]) (m:=0) (b6.mk [4,3,2,1,0] [] ?_ ?_ (by simp) (aC rfl)) ⟨rfl,rfl⟩ ?_
       ·exact ba
       ·rw[hAl]
        exact .cr (.put2 (row:=iC pt2) (row2:=iC ptA) (a:=p1) (c:=p2) (v:= .n .i64 (p2:Int)) (w:= .n .i64 (p:Int)) (by simp only[go_sem,simprocAttr]) (by omega) (by omega) rfl (by omega) (λi hi=>by rw[hA];exact iP (by omega) (by omega) _ _ i) (λ_ _ _ _=>rfl)) (.cr (.j1) (.cr (.j5) (.cr (.j5) (.cr (.j3) .nil))))
       rintro m e H ⟨rfl,rfl⟩
       repeat first|with_reducible refine GE.g ?_|simp only[w9,h01,cT,h02,go_sem,simprocAttr]
       rw[hop] at hr
       rw[if_neg (by decide),if_neg (by decide)] at hr
       refine gX [4,0] [] (.agg [.n .i64 27,.n .i64 p,.n .i64 ((p2+1:Nat):Int),.fs 5 (x).len (x).cell,.fs 5 (y).len (y).cell]) [ai 3 1 ptA.length 0 (iC ptA),ae 0 173 [.fs 2 cs.length (pI cs),.n .i64 ((p2+1:Nat):Int),.os 1 ptA.length]] (.cr .k1 (.cr (.j3) .nil)) (.agg rfl (λi v v' k1 k2=>?_)) (by simp) (aC rfl) ⟨.br 27 p (p2+1) x y .nil,p2+1,ptA,lv2,(Option.some.inj hr).symm,⟨27,p,p2+1,x,y,rfl,Nat.le_refl _⟩,by omega,by omega,by omega,by omega,rfl,rfl⟩
       rcases i with _|_|_|_|_|i<;>simp only[List.getElem?_cons_zero,List.getElem?_cons_succ,Option.some.injEq,List.getElem?_nil,reduceCtorEq] at k1 k2<;>subst k1 k2<;>first|exact Wv.same rfl|exact .cv (.sl0 _ _)
      ·have e31:¬(cs.getD p2 (0,0)).1=31:=hend
       rw[dx,if_neg (λh=>hend h.2)] at hr
       repeat first|with_reducible refine GE.g ?_|simp only[h01,cT,hop',decide_true,decide_false,hlt',h02,e31,go_sem,simprocAttr]
       exact aM [] (fargs:=[.b false,.n .i64 (p2:Int),.n .i64 15]) (cm.same rfl) (bh p2 15) ⟨p2,(Option.some.inj hr).symm,rfl⟩
     ·have hlt':¬(p2:Int)<cs.length:=by omega
      ·rw[dx,if_neg (λh=>hlt h.1)] at hr
       repeat first|with_reducible refine GE.g ?_|simp only[h01,cT,hop',decide_true,decide_false,hlt',h02,go_sem,simprocAttr]
       exact aM [] (fargs:=[.b false,.n .i64 (p2:Int),.n .i64 15]) (cm.same rfl) (bh p2 15) ⟨p2,(Option.some.inj hr).symm,rfl⟩
    ·rintro c H' ⟨z,rfl,rfl⟩
     exact⟨z,(Option.some.inj hr).symm,rfl⟩
   ·rw[if_neg (λh=>hc h.2)] at hr
    by_cases hlt:p1<cs.length
    ·have hlt':(p1:Int)<cs.length:=by omega
     have e28:¬(cs.getD p1 (0,0)).1=28:=λh=>hc ⟨hlt,h⟩
     by_cases hend:aj cs p1=31
     ·have e31:(cs.getD p1 (0,0)).1=31:=hend
      rw[dx,if_pos ⟨hlt,hend⟩] at hr
      repeat first|with_reducible refine GE.g ?_|simp only[h01,cT,hop',decide_true,decide_false,hlt',e28,e31,go_sem,simprocAttr]
      refine dd ([.b true,.n .i64 (p1:Int),.n .i64 15]) (bT p1 15) ?_
      have q1:(p:Int)<pt1.length:=by omega
      have q2:(p1:Int)<pt1.length:=by omega
      have q3:p+1<=pt1.length:=by omega
      have q4:p1+1<=pt1.length:=by omega
      simp only[go_sem,simprocAttr]
      with_reducible refine GE.go aF rfl ?_
      simp only[go_sem,simprocAttr]
      refine GE.wk (b6.mk (L:=[(0,.p 0 0),(6,.p 1 0),(7,.p 2 0),(8,.p 3 0),(9,.n .i64 p)]) (bl:=[ai 3 1 pt1.length 0 (iC pt1),ae 0 95 [.sl0],ae 0 140 [.n .i64 27,.n .i64 p,.n .i64 0,.fs 5 x.len x.cell,.sl0],ae 0 140 [.n .i64 0,.n .i64 0,.n .i64 0,.sl0,.sl0],ae 0 173 [.fs 2 cs.length (pI cs),.n .i64 p1,.os 4 pt1.length]]) [1,4,3,2,0] [] ?_ ?_ (by simp) (aC rfl)) ?_
      ·exact ba
      ·exact .cr .k1 (.cr (.j1) (.cr (.j5) (.cr (.j5) (.cr (.j3) .nil))))
      refine GE.mixm aF 4 (by simp only[go_sem,simprocAttr,bI]) ?_
      repeat first|with_reducible refine GE.g ?_|simp only[h01,h0,q1,q2,q3,q4,decide_true,go_sem,simprocAttr]
      refine⟨by decide,?_⟩
      repeat first|with_reducible refine GE.g ?_|simp only[go_sem,simprocAttr]
      obtain⟨ptA,hA⟩:∃l,l=(pt1.set p (p1:Int)).set p1 (p:Int):=⟨_,rfl⟩
      have hAl:ptA.length=pt1.length:=by rw[hA,List.length_set,List.length_set]
      rw[<-hA] at hr
      have w9:IntKind.i64.wrap ((p1:Int)+1)=((p1+1:Nat):Int):=(am (by omega)).trans (by omega)
      refine GE.loop (I:=λm e H=>e=aB [(0,.p 0 0),(6,.p 1 0),(7,.p 2 0),(158,.n .i64 0),(159,.n .i64 0)]/\H=ah [ai 3 1 ptA.length 0 (iC ptA),ae 0 95 [.sl0],ae 0 140 [.n .i64 27,.n .i64 p,.n .i64 0,.fs 5 x.len x.cell,.sl0],ae 0 140 [.n .i64 0,.n .i64 0,.n .i64 0,.sl0,.sl0],ae 0 173 [.fs 2 cs.length (pI cs),.n .i64 p1,.os 4 ptA.length]]) (m:=0) (b6.mk [4,3,2,1,0] [] ?_ ?_ (by simp) (aC rfl)) ⟨rfl,rfl⟩ ?_
      ·exact ba
      ·rw[hAl]
       exact .cr (.put2 (row:=iC pt1) (row2:=iC ptA) (a:=p) (c:=p1) (v:= .n .i64 (p1:Int)) (w:= .n .i64 (p:Int)) (by simp only[go_sem,simprocAttr]) (by omega) (by omega) rfl (by omega) (λi hi=>by rw[hA];exact iP (by omega) (by omega) _ _ i) (λ_ _ _ _=>rfl)) (.cr (.j1) (.cr (.j5) (.cr (.j5) (.cr (.j3) .nil))))
      rintro m e H ⟨rfl,rfl⟩
      repeat first|with_reducible refine GE.g ?_|simp only[w9,h01,cT,go_sem,simprocAttr]
      rw[hop] at hr
      rw[if_neg (by decide),if_neg (by decide)] at hr
      refine gX [4,0] [] (.agg [.n .i64 27,.n .i64 p,.n .i64 ((p1+1:Nat):Int),.fs 5 (x).len (x).cell,.fs 5 (Fo.nil).len (Fo.nil).cell]) [ai 3 1 ptA.length 0 (iC ptA),ae 0 173 [.fs 2 cs.length (pI cs),.n .i64 ((p1+1:Nat):Int),.os 1 ptA.length]] (.cr .k1 (.cr (.j3) .nil)) (.agg rfl (λi v v' k1 k2=>?_)) (by simp) (aC rfl) ⟨.br 27 p (p1+1) x Fo.nil .nil,p1+1,ptA,lv1,(Option.some.inj hr).symm,⟨27,p,p1+1,x,Fo.nil,rfl,Nat.le_refl _⟩,by omega,by omega,by omega,by omega,rfl,rfl⟩
      rcases i with _|_|_|_|_|i<;>simp only[List.getElem?_cons_zero,List.getElem?_cons_succ,Option.some.injEq,List.getElem?_nil,reduceCtorEq] at k1 k2<;>subst k1 k2<;>first|exact Wv.same rfl|exact .cv (.sl0 _ _)
     ·have e31:¬(cs.getD p1 (0,0)).1=31:=hend
      rw[dx,if_neg (λh=>hend h.2)] at hr
      repeat first|with_reducible refine GE.g ?_|simp only[h01,cT,hop',decide_true,decide_false,hlt',e28,e31,go_sem,simprocAttr]
      exact aM [] (fargs:=[.b false,.n .i64 (p1:Int),.n .i64 15]) (cm.same rfl) (bh p1 15) ⟨p1,(Option.some.inj hr).symm,rfl⟩
    ·have hlt':¬(p1:Int)<cs.length:=by omega
     ·rw[dx,if_neg (λh=>hlt h.1)] at hr
      repeat first|with_reducible refine GE.g ?_|simp only[h01,cT,hop',decide_true,decide_false,hlt',go_sem,simprocAttr]
      exact aM [] (fargs:=[.b false,.n .i64 (p1:Int),.n .i64 15]) (cm.same rfl) (bh p1 15) ⟨p1,(Option.some.inj hr).symm,rfl⟩
  ·rintro c H' ⟨z,rfl,rfl⟩
   exact⟨z,(Option.some.inj hr).symm,rfl⟩
 ·have hop':(cs.getD p (0,0)).1=29:=hop
  have hn27:¬aj cs p=27:=by rw[hop];decide
  have hdec:decide (aj cs p=29)=true:=by rw[hop];rfl
  rw[if_pos hop] at hr
  simp only[hdec,Bool.or_true] at hr
  repeat first|with_reducible refine GE.g ?_|simp only[h1',h0,cT,go_sem,simprocAttr]
  refine⟨λ_=>?_,λh=>by rw[hop'] at h;exact absurd h (by decide)⟩
  refine GE.wk (b6.nilb 4 0 1 3 (x:=_) (by simp only[go_sem,simprocAttr]<;>rfl) (by simp only[go_sem,simprocAttr]<;>rfl) (by decide) (by decide) (by simp only[go_sem,simprocAttr]<;>decide) (by rfl) (by simp only[go_sem,simprocAttr]<;>decide)) ?_
  repeat first|with_reducible refine GE.g ?_|simp only[w0,go_sem,simprocAttr]
  cases hl:lst cs f d true (p+1) pt [] .nil with
  |none=>rw[hl] at hr;cases hr
  |some r1=>
  have hr1:=cB f d true (p+1) pt [] .nil r1 (by omega) hpt (by simp) hl
  rw[hl] at hr
  obtain⟨lvE,hE⟩:∃l:List Int,l=[]:=⟨_,rfl⟩
  have hEl:lvE.length=0:=by rw[hE];rfl
  rw[<-hE] at hl
  refine dX (ob:=λ_=>none) db [3,2,5,1,4,0] [] [(0,.p 0 0),(1,.n .i64 d),(2,.p 1 0),(6,.p 4 0),(7,.p 5 0),(8,.p 1 0)] [.p 0 0,.n .i64 d,.p 1 0] [ae 0 140 [.n .i64 29,.n .i64 p,.n .i64 0,.sl0,.sl0],ae 0 140 [.n .i64 0,.n .i64 0,.n .i64 0,.sl0,.sl0]] [ai 3 1 lvE.length 0 (iC lvE),ai 3 1 pt.length 0 (iC pt),ae 0 95 [.os 3 lvE.length],ae 0 173 [.fs 2 cs.length (pI cs),.n .i64 ((p+1:Nat):Int),.os 2 pt.length]] (hT d (p+1) pt lvE r1 (by omega) (by omega) hpt (by omega) hl).o ?_ ?_ ?_ ?_ ?_ ?_ ?_ ?_ ?_ ?_ ?_ ?_ ?_ ?_
  ·exact ba
  ·rw[hEl];exact .cr (.j5) (.cr (.j5) (.cr (.rows (x:=_) (by simp only[go_sem,simprocAttr];rfl) (by rfl) (by rfl) (by rfl) (by simp) (by decide) (by decide) (λi j h=>absurd h (Nat.not_lt_zero _)) (λi j h=>absurd h (Nat.not_lt_zero _))) (.cr .k1 (.cr (.j1) (.cr (.j3) .nil)))))
  ·exact⟨Wv.p rfl,Wv.n rfl,Wv.p rfl,trivial⟩
  ·exact λr x hx=>by cases hx
  ·simp
  ·rfl
  ·exact λb hb=>by simp[db] at hb;simp;omega
  ·rw[ax];exact ik (by simp) (by rfl) (by rfl)
  ·simp[AV.nm]
  ·simp[AV.nm,db]
  ·exact .cons (.row (by decide) (λi j _ _=>rfl)) (.cons (.row (by decide) (λi j _ _=>rfl)) (.cons .lq (.cons .lq .nil)))
  ·exact .cons (.lst (by simp) (by simp[AV.nm])) (.cons .lq .nil)
  ·rintro v H' ⟨x,p1,pt1,lv1,rfl,rfl,rfl⟩
   refine⟨λ_=>none,λ_=>none,[ai 3 1 lv1.length 0 (iC lv1),ai 3 1 pt1.length 0 (iC pt1),ae 0 95 [.os 3 lv1.length],ae 0 173 [.fs 2 cs.length (pI cs),.n .i64 p1,.os 2 pt1.length]],[ai 3 1 lv1.length 0 (iC lv1),ae 0 95 [.os 5 lv1.length],ae 0 140 [.n .i64 29,.n .i64 p,.n .i64 0,.sl0,.sl0],ae 0 140 [.n .i64 0,.n .i64 0,.n .i64 0,.sl0,.sl0],ai 3 1 pt1.length 0 (iC pt1),ae 0 173 [.fs 2 cs.length (pI cs),.n .i64 p1,.os 1 pt1.length]],[3,1,5,4,2,0],[],_,[(0,.p 0 0),(1,.n .i64 d),(2,.p 4 0),(6,.p 2 0),(7,.p 3 0),(8,.p 4 0)],(ax _).symm,rfl,?_,?_,Wv.same rfl,by simp,(λr x hx=>by cases hx),?_,?_⟩
   ·exact ba
   ·simp only[List.cons_append,List.nil_append,ax]
    exact .cr .k1 (.cr (.j1) (.cr (.j5) (.cr (.j5) (.cr .k1 (.cr (.j3) .nil)))))
   ·intro b hb;have hb':=of_decide_eq_true hb;obtain rfl:b=0:=by omega
    exact⟨0,rfl,rfl,.inl rfl⟩
   rw[ax]
   obtain⟨g1,g2,g3,g4,g5⟩:=hr1 x p1 pt1 lv1 rfl
   dsimp only at hr
   have h01:(0:Int)<=(p1:Int):=by omega
   rw[if_neg (λh=>hn27 h.1)] at hr
   by_cases hlt:p1<cs.length
   ·have hlt':(p1:Int)<cs.length:=by omega
    by_cases hend:aj cs p1=31
    ·have e31:(cs.getD p1 (0,0)).1=31:=hend
     rw[dx,if_pos ⟨hlt,hend⟩] at hr
     repeat first|with_reducible refine GE.g ?_|simp only[h01,cT,hop',decide_true,decide_false,hlt',e31,go_sem,simprocAttr]
     refine dd ([.b true,.n .i64 (p1:Int),.n .i64 15]) (bT p1 15) ?_
     have q1:(p:Int)<pt1.length:=by omega
     have q2:(p1:Int)<pt1.length:=by omega
     have q3:p+1<=pt1.length:=by omega
     have q4:p1+1<=pt1.length:=by omega
     simp only[go_sem,simprocAttr]
     with_reducible refine GE.go aF rfl ?_
     simp only[go_sem,simprocAttr]
     refine GE.wk (b6.mk (L:=[(0,.p 0 0),(6,.p 1 0),(7,.p 2 0),(8,.p 3 0),(9,.n .i64 p)]) (bl:=[ai 3 1 pt1.length 0 (iC pt1),ai 3 1 lv1.length 0 (iC lv1),ae 0 95 [.os 4 lv1.length],ae 0 140 [.n .i64 29,.n .i64 p,.n .i64 0,.fs 5 x.len x.cell,.sl0],ae 0 140 [.n .i64 0,.n .i64 0,.n .i64 0,.sl0,.sl0],ae 0 173 [.fs 2 cs.length (pI cs),.n .i64 p1,.os 5 pt1.length]]) [1,5,4,3,2,0] [] ?_ ?_ (by simp) (aC rfl)) ?_
     ·exact ba
     ·exact .cr .k1 (.cr .k1 (.cr (.j1) (.cr (.j5) (.cr (.j5) (.cr (.j3) .nil)))))
     refine GE.mixm aF 5 (by simp only[go_sem,simprocAttr,bI]) ?_
     repeat first|with_reducible refine GE.g ?_|simp only[h01,h0,q1,q2,q3,q4,decide_true,go_sem,simprocAttr]
     refine⟨by decide,?_⟩
     repeat first|with_reducible refine GE.g ?_|simp only[go_sem,simprocAttr]
     obtain⟨ptA,hA⟩:∃l,l=(pt1.set p (p1:Int)).set p1 (p:Int):=⟨_,rfl⟩
     have hAl:ptA.length=pt1.length:=by rw[hA,List.length_set,List.length_set]
     rw[<-hA] at hr
     have w9:IntKind.i64.wrap ((p1:Int)+1)=((p1+1:Nat):Int):=(am (by omega)).trans (by omega)
     have hsl:∀l,(bD ptA (p1:Int) l).length=ptA.length:=λl=>gf l ptA _
     refine GE.loop (I:=λm e H=>∃k,m+k=lv1.length/\e=aB [(0,.p 0 0),(6,.p 1 0),(7,.p 2 0),(157,.os 4 lv1.length),(158,.n .i64 lv1.length),(159,.n .i64 k)]/\H=ah [ai 3 1 (bD ptA p1 (lv1.take k)).length 0 (iC (bD ptA p1 (lv1.take k))),ai 3 1 lv1.length 0 (iC lv1),ae 0 95 [.os 4 lv1.length],ae 0 140 [.n .i64 29,.n .i64 p,.n .i64 0,.fs 5 x.len x.cell,.sl0],ae 0 140 [.n .i64 0,.n .i64 0,.n .i64 0,.sl0,.sl0],ae 0 173 [.fs 2 cs.length (pI cs),.n .i64 p1,.os 5 (bD ptA p1 (lv1.take k)).length]]) (m:=lv1.length) (b6.mk [5,4,3,2,1,0] [] ?_ ?_ (by simp) (aC rfl)) ⟨0,rfl,rfl,rfl⟩ ?_
     ·exact ba
     ·show cM _ _ _ _ [ai 3 1 ptA.length 0 (iC ptA),ai 3 1 lv1.length 0 (iC lv1),ae 0 95 [.os 4 lv1.length],ae 0 140 [.n .i64 29,.n .i64 p,.n .i64 0,.fs 5 x.len x.cell,.sl0],ae 0 140 [.n .i64 0,.n .i64 0,.n .i64 0,.sl0,.sl0],ae 0 173 [.fs 2 cs.length (pI cs),.n .i64 p1,.os 5 ptA.length]]
      rw[hAl]
      exact .cr (.put2 (row:=iC pt1) (row2:=iC ptA) (a:=p) (c:=p1) (v:= .n .i64 (p1:Int)) (w:= .n .i64 (p:Int)) (by simp only[go_sem,simprocAttr]) (by omega) (by omega) rfl (by omega) (λi hi=>by rw[hA];exact iP (by omega) (by omega) _ _ i) (λ_ _ _ _=>rfl)) (.cr .k1 (.cr (.j1) (.cr (.j5) (.cr (.j5) (.cr (.j3) .nil)))))
     rintro m e H ⟨k,hk,rfl,rfl⟩
     obtain⟨ptK,hK⟩:∃l,l=bD ptA (p1:Int) (lv1.take k):=⟨_,rfl⟩
     have hKl:ptK.length=pt1.length:=by rw[hK,hsl,hAl]
     rw[<-hK]
     have h0k:(0:Int)<=(k:Int):=by omega
     by_cases hm:k<lv1.length
     ·have hkk:(k:Int)<lv1.length:=by omega
      have hmem:lv1.getD k 0 ∈ lv1:=by rw[List.getD_eq_getElem?_getD,List.getElem?_eq_getElem hm];exact List.getElem_mem hm
      obtain⟨hz0,hz1⟩:=(g5 _ hmem).elim (λh=>absurd h (List.not_mem_nil)) id
      obtain⟨z,hz⟩:∃z:Nat,lv1.getD k 0=(z:Int):=⟨(lv1.getD k 0).toNat,by omega⟩
      have hzl:z<ptK.length:=by omega
      have hzi:(z:Int)<ptK.length:=by omega
      have hz2:(0:Int)<=(z:Int):=by omega
      have hzs:z+1<=ptK.length:=hzl
      have hgk:(ai 3 1 lv1.length 0 (iC lv1)).get k= .n .i64 (z:Int):=by rw[hD];simp only[iC,hz]
      have wk:IntKind.i64.wrap ((k:Int)+1)=((k+1:Nat):Int):=(am (by omega)).trans (by omega)
      have hK1:bD ptA (p1:Int) (lv1.take (k+1))=ptK.set z (p1:Int):=by rw[nX hm,jp,<-hK,hz,Int.toNat_natCast]
      repeat (first|with_reducible refine GE.seq ?_|with_reducible refine GE.block ?_|with_reducible refine GE.skip ?_|with_reducible refine GE.reg ?_|with_reducible refine GE.cond ?_|simp only[hkk,h0k,hm,hgk,decide_true,go_sem,simprocAttr])
      refine GE.mixm aF 5 (by simp only[go_sem,simprocAttr,bI]) ?_
      simp only[hzi,hz2,hzs,h01,go_sem,simprocAttr]
      try refine(And.intro (by decide) ?_)
      repeat first|with_reducible refine GE.g ?_|simp only[wk,go_sem,simprocAttr]
      refine⟨m-1,_,_,by omega,b6.mk [5,4,3,2,1,0] [] ?_ ?_ (by simp) (aC rfl),k+1,by omega,rfl,rfl⟩
      ·exact ba
      ·rw[hK1,List.length_set]
       exact .cr (.put1 (row:=iC ptK) (row2:=iC (ptK.set z (p1:Int))) (o:=z) (q:=z) (t:=0) (v:= .n .i64 (p1:Int)) (by simp only[go_sem,simprocAttr]) (by omega) (by decide) (by omega) rfl (by omega) (λi j hi hj=>by simp only[iC];rw[eG hzl];by_cases hh:i=z<;>simp[hh];omega) (λ_ _ _ _=>rfl)) (.cr .k1 (.cr (.j1) (.cr (.j5) (.cr (.j5) (.cr (.j3) .nil)))))
     ·have hkk:¬(k:Int)<lv1.length:=by omega
      have hKe:bD ptA (p1:Int) lv1=ptK:=by rw[hK,List.take_of_length_le (by omega)]
      repeat first|with_reducible refine GE.g ?_|simp only[hkk,w9,h01,cT,decide_false,go_sem,simprocAttr]
      rw[hop] at hr
      rw[if_pos rfl,if_pos rfl,hKe] at hr
      refine gX [5,0] [] (.agg [.n .i64 29,.n .i64 p,.n .i64 ((p1+1:Nat):Int),.fs 5 (x).len (x).cell,.fs 5 (Fo.nil).len (Fo.nil).cell]) [ai 3 1 ptK.length 0 (iC ptK),ae 0 173 [.fs 2 cs.length (pI cs),.n .i64 ((p1+1:Nat):Int),.os 1 ptK.length]] (.cr .k1 (.cr (.j3) .nil)) (.agg rfl (λi v v' k1 k2=>?_)) (by simp) (aC rfl) ⟨.br 29 p (p1+1) x Fo.nil .nil,p1+1,ptK,lv,(Option.some.inj hr).symm,⟨29,p,p1+1,x,Fo.nil,rfl,Nat.le_refl _⟩,by omega,by omega,by omega,by omega,rfl,rfl⟩
      rcases i with _|_|_|_|_|i<;>simp only[List.getElem?_cons_zero,List.getElem?_cons_succ,Option.some.injEq,List.getElem?_nil,reduceCtorEq] at k1 k2<;>subst k1 k2<;>first|exact Wv.same rfl|exact .cv (.sl0 _ _)
    ·have e31:¬(cs.getD p1 (0,0)).1=31:=hend
     rw[dx,if_neg (λh=>hend h.2)] at hr
     repeat first|with_reducible refine GE.g ?_|simp only[h01,cT,hop',decide_true,decide_false,hlt',e31,go_sem,simprocAttr]
     exact aM [] (fargs:=[.b false,.n .i64 (p1:Int),.n .i64 15]) (cm.same rfl) (bh p1 15) ⟨p1,(Option.some.inj hr).symm,rfl⟩
   ·have hlt':¬(p1:Int)<cs.length:=by omega
    ·rw[dx,if_neg (λh=>hlt h.1)] at hr
     repeat first|with_reducible refine GE.g ?_|simp only[h01,cT,hop',decide_true,decide_false,hlt',go_sem,simprocAttr]
     exact aM [] (fargs:=[.b false,.n .i64 (p1:Int),.n .i64 15]) (cm.same rfl) (bh p1 15) ⟨p1,(Option.some.inj hr).symm,rfl⟩
  ·rintro c H' ⟨z,rfl,rfl⟩
   exact⟨z,(Option.some.inj hr).symm,rfl⟩
theorem wO(cs:List (Int×Int))(hcs:cs.length<=1024)(f:Nat)(hF:pW cs f)(hT:pV cs f):uL cs (λd inL p pt lv=>lst cs f d inL p pt lv .nil):=by
 intro d p pt lv r hd hp hpt hlv hop hr
 have hok:=kM (λd inL p pt lv r h1 h2 h3 h4=>cB f d inL p pt lv .nil r h1 h2 h3 h4) hp hpt hlv hr
 rw[d8] at hr
 refine PC.vw (cI CY ⟨by simp,by decide⟩ ?_)
 simp only[aH]
 have h0:(0:Int)<=(p:Int):=by omega
 have h1':(p:Int)<cs.length:=by omega
 have w0:IntKind.i64.wrap ((p:Int)+1)=((p+1:Nat):Int):=(am (by omega)).trans (by omega)
 by_cases h8:8<d
 ·rw[if_pos h8] at hr
  have h8':¬(d:Int)<=8:=by omega
  repeat first|with_reducible refine GE.g ?_|simp only[h8',decide_false,go_sem,simprocAttr]
  exact aM [] (fargs:=[.b false,.n .i64 (p:Int),.n .i64 15]) (cm.same rfl) (bh p 15) ⟨p,(Option.some.inj hr).symm,rfl⟩
 rw[if_neg h8] at hr
 have h8':(d:Int)<=8:=by omega
 repeat first|with_reducible refine GE.g ?_|simp only[h8',decide_true,go_sem,simprocAttr]
 refine dd ([.b true,.n .i64 (p:Int),.n .i64 15]) (bT p 15) ?_
 rcases hop with hop|hop
 ·have hop':(cs.getD p (0,0)).1=27:=hop
  have hn29:¬aj cs p=29:=by rw[hop];decide
  rw[if_neg hn29] at hr
  repeat first|with_reducible refine GE.g ?_|simp only[h1',h0,cT,hop',w0,decide_true,decide_false,go_sem,simprocAttr]
  cases hl:lst cs f d true (p+1) pt lv .nil with
  |none=>simp[hn29,hl] at hr
  |some r1=>
  have hr1:=cB f d true (p+1) pt lv .nil r1 (by omega) hpt (by omega) hl
  simp only[hn29,decide_false,Bool.or_false,hl] at hr
  refine dX (ob:=λ_=>none) db [6,5,4,3,2,1,0] [] [(0,.p 0 0),(1,.n .i64 d),(2,.p 1 0),(6,.p 4 0),(7,.p 5 0),(8,.p 6 0)] [.p 0 0,.n .i64 d,.p 1 0] [ae 0 95 [.sl0],ae 0 140 [.n .i64 27,.n .i64 p,.n .i64 0,.sl0,.sl0],ae 0 140 [.n .i64 0,.n .i64 0,.n .i64 0,.sl0,.sl0]] [ai 3 1 lv.length 0 (iC lv),ai 3 1 pt.length 0 (iC pt),ae 0 95 [.os 3 lv.length],ae 0 173 [.fs 2 cs.length (pI cs),.n .i64 ((p+1:Nat):Int),.os 2 pt.length]] (hT d (p+1) pt lv r1 (by omega) (by omega) hpt (by omega) hl).o ?_ ?_ ?_ ?_ ?_ ?_ ?_ ?_ ?_ ?_ ?_ ?_ ?_ ?_
  ·exact ba
  ·exact .cr (.j1) (.cr (.j5) (.cr (.j5) (.cr .k1 (.cr .k1 (.cr (.j1) (.cr (.j3) .nil))))))
  ·exact⟨Wv.p rfl,Wv.n rfl,Wv.p rfl,trivial⟩
  ·exact λr x hx=>by cases hx
  ·simp
  ·rfl
  ·exact λb hb=>by simp[db] at hb;simp;omega
  ·rw[ax];exact ik (by simp) (by rfl) (by rfl)
  ·simp[AV.nm]
  ·simp[AV.nm,db]
  ·exact .cons (.row (by decide) (λi j _ _=>rfl)) (.cons (.row (by decide) (λi j _ _=>rfl)) (.cons .lq (.cons .lq .nil)))
  ·exact .cons .lq (.cons (.lst (by simp) (by simp[AV.nm])) (.cons .lq .nil))
  ·rintro v H' ⟨x,p1,pt1,lv1,rfl,rfl,rfl⟩
   refine⟨λ_=>none,λ_=>none,[ai 3 1 lv1.length 0 (iC lv1),ai 3 1 pt1.length 0 (iC pt1),ae 0 95 [.os 3 lv1.length],ae 0 173 [.fs 2 cs.length (pI cs),.n .i64 p1,.os 2 pt1.length]],[ae 0 95 [.sl0],ae 0 140 [.n .i64 27,.n .i64 p,.n .i64 0,.sl0,.sl0],ae 0 140 [.n .i64 0,.n .i64 0,.n .i64 0,.sl0,.sl0],ai 3 1 lv1.length 0 (iC lv1),ai 3 1 pt1.length 0 (iC pt1),ae 0 95 [.os 3 lv1.length],ae 0 173 [.fs 2 cs.length (pI cs),.n .i64 p1,.os 2 pt1.length]],[6,5,4,3,2,1,0],[],_,[(0,.p 0 0),(1,.n .i64 d),(2,.p 1 0),(6,.p 4 0),(7,.p 5 0),(8,.p 6 0)],(ax _).symm,rfl,?_,?_,Wv.same rfl,by simp,(λr x hx=>by cases hx),?_,?_⟩
   ·exact ba
   ·simp only[List.cons_append,List.nil_append,ax]
    exact .cr (.j1) (.cr (.j5) (.cr (.j5) (.cr .k1 (.cr .k1 (.cr (.j1) (.cr (.j3) .nil))))))
   ·intro b hb;have hb':=of_decide_eq_true hb;rcases(show b=0\/b=1 by omega) with rfl|rfl
    ·exact⟨0,rfl,rfl,.inl rfl⟩
    ·exact⟨1,rfl,rfl,.inl rfl⟩
   rw[ax]
   have hr1':=hr1 x p1 pt1 lv1 rfl
   obtain⟨g1,g2,g3,g4,g5⟩:=hr1'
   dsimp only at hr
   have h01:(0:Int)<=(p1:Int):=by omega
   by_cases hc:p1<cs.length/\aj cs p1=28
   ·rw[if_pos ⟨hop,hc⟩] at hr
    have hlt':(p1:Int)<cs.length:=by omega
    have e28:(cs.getD p1 (0,0)).1=28:=hc.2
    have q1:(p:Int)<pt1.length:=by omega
    have q3:p+1<=pt1.length:=by omega
    have w1:IntKind.i64.wrap ((p1:Int)+1)=((p1+1:Nat):Int):=(am (by omega)).trans (by omega)
    obtain⟨ptB,hB⟩:∃l,l=pt1.set p (p1:Int):=⟨_,rfl⟩
    have hBl:ptB.length=pt1.length:=by rw[hB,List.length_set]
    rw[<-hB] at hr
    repeat first|with_reducible refine GE.g ?_|simp only[h01,hlt',cT,hop',decide_true,go_sem,simprocAttr]
    refine⟨λ_=>?_,λh=>by rw[e28] at h;exact absurd h (by decide)⟩
    with_reducible refine GE.go aF rfl ?_
    simp only[go_sem,simprocAttr]
    refine GE.mixm aF 2 (by simp only[go_sem,simprocAttr,bI]) ?_
    simp only[h0,h01,q1,q3,go_sem,simprocAttr]
    try refine(And.intro (by decide) ?_)
    repeat first|with_reducible refine GE.g ?_|simp only[w1,cT,go_sem,simprocAttr]
    cases hl2:lst cs f d true (p1+1) ptB lv1 .nil with
    |none=>rw[hl2] at hr;cases hr
    |some r2=>
    have hr2:=cB f d true (p1+1) ptB lv1 .nil r2 (by omega) (by omega) (by omega) hl2
    rw[hl2] at hr
    refine dX (ob:=λ_=>none) db [6,5,4,3,2,1,0] [] [(0,.p 0 0),(1,.n .i64 d),(2,.p 1 0),(6,.p 4 0),(7,.p 5 0),(8,.p 6 0),(9,.n .i64 p1)] [.p 0 0,.n .i64 d,.p 1 0] [ae 0 95 [.sl0],ae 0 140 [.n .i64 27,.n .i64 p,.n .i64 0,.fs 5 x.len x.cell,.sl0],ae 0 140 [.n .i64 0,.n .i64 0,.n .i64 0,.sl0,.sl0]] [ai 3 1 lv1.length 0 (iC lv1),ai 3 1 ptB.length 0 (iC ptB),ae 0 95 [.os 3 lv1.length],ae 0 173 [.fs 2 cs.length (pI cs),.n .i64 ((p1+1:Nat):Int),.os 2 ptB.length]] (hT d (p1+1) ptB lv1 r2 (by omega) (by omega) (by omega) (by omega) hl2).o ?_ ?_ ?_ ?_ ?_ ?_ ?_ ?_ ?_ ?_ ?_ ?_ ?_ ?_
    ·exact ba
    ·(try rw[hBl]);exact .cr (.j1) (.cr (.j5) (.cr (.j5) (.cr .k1 (.cr (.put1 (row:=iC pt1) (row2:=iC ptB) (o:=p) (q:=p) (t:=0) (v:= .n .i64 (p1:Int)) (by simp only[go_sem,simprocAttr]) (by omega) (by decide) (by omega) rfl (by omega) (λi j hi hj=>by rw[hB];simp only[iC];rw[eG (by omega)];by_cases hh:i=p<;>simp[hh];omega) (λ_ _ _ _=>rfl)) (.cr (.j1) (.cr (.j3) .nil))))))
    ·exact⟨Wv.p rfl,Wv.n rfl,Wv.p rfl,trivial⟩
    ·exact λr x hx=>by cases hx
    ·simp
    ·rfl
    ·exact λb hb=>by simp[db] at hb;simp;omega
    ·rw[ax];exact ik (by simp) (by rfl) (by rfl)
    ·simp[AV.nm]
    ·simp[AV.nm,db]
    ·exact .cons (.row (by decide) (λi j _ _=>rfl)) (.cons (.row (by decide) (λi j _ _=>rfl)) (.cons .lq (.cons .lq .nil)))
    ·exact .cons .lq (.cons (.lst (by simp) (by simp[AV.nm])) (.cons .lq .nil))
    ·rintro v H' ⟨y,p2,pt2,lv2,rfl,rfl,rfl⟩
     refine⟨λ_=>none,λ_=>none,[ai 3 1 lv2.length 0 (iC lv2),ai 3 1 pt2.length 0 (iC pt2),ae 0 95 [.os 3 lv2.length],ae 0 173 [.fs 2 cs.length (pI cs),.n .i64 p2,.os 2 pt2.length]],[ae 0 95 [.sl0],ae 0 140 [.n .i64 27,.n .i64 p,.n .i64 0,.fs 5 x.len x.cell,.sl0],ae 0 140 [.n .i64 0,.n .i64 0,.n .i64 0,.sl0,.sl0],ai 3 1 lv2.length 0 (iC lv2),ai 3 1 pt2.length 0 (iC pt2),ae 0 95 [.os 3 lv2.length],ae 0 173 [.fs 2 cs.length (pI cs),.n .i64 p2,.os 2 pt2.length]],[6,5,4,3,2,1,0],[],_,[(0,.p 0 0),(1,.n .i64 d),(2,.p 1 0),(6,.p 4 0),(7,.p 5 0),(8,.p 6 0),(9,.n .i64 p1)],(ax _).symm,rfl,?_,?_,Wv.same rfl,by simp,(λr x hx=>by cases hx),?_,?_⟩
     ·exact ba
     ·simp only[List.cons_append,List.nil_append,ax]
      exact .cr (.j1) (.cr (.j5) (.cr (.j5) (.cr .k1 (.cr .k1 (.cr (.j1) (.cr (.j3) .nil))))))
     ·intro b hb;have hb':=of_decide_eq_true hb;rcases(show b=0\/b=1 by omega) with rfl|rfl
      ·exact⟨0,rfl,rfl,.inl rfl⟩
      ·exact⟨1,rfl,rfl,.inl rfl⟩
     rw[ax]
     obtain⟨f1,f2,f3,f4,f5⟩:=hr2 y p2 pt2 lv2 rfl
     dsimp only at hr
     have h02:(0:Int)<=(p2:Int):=by omega
     by_cases hlt:p2<cs.length
     ·have hlt':(p2:Int)<cs.length:=by omega
      by_cases hend:aj cs p2=31
      ·have e31:(cs.getD p2 (0,0)).1=31:=hend
       rw[dx,if_pos ⟨hlt,hend⟩] at hr
       repeat first|with_reducible refine GE.g ?_|simp only[h01,cT,hop',decide_true,decide_false,hlt',h02,e31,go_sem,simprocAttr]
       refine dd ([.b true,.n .i64 (p2:Int),.n .i64 15]) (bT p2 15) ?_
       have q1:(p1:Int)<pt2.length:=by omega
       have q2:(p2:Int)<pt2.length:=by omega
       have q3:p1+1<=pt2.length:=by omega
       have q4:p2+1<=pt2.length:=by omega
       simp only[go_sem,simprocAttr]
       with_reducible refine GE.go aF rfl ?_
       simp only[go_sem,simprocAttr]
       refine GE.wk (b6.mk (L:=[(0,.p 0 0),(6,.p 3 0),(7,.p 4 0),(8,.p 5 0),(9,.n .i64 p1)]) (bl:=[ai 3 1 pt2.length 0 (iC pt2),ae 0 95 [.sl0],ae 0 140 [.n .i64 27,.n .i64 p,.n .i64 0,.fs 5 x.len x.cell,.fs 5 y.len y.cell],ae 0 140 [.n .i64 0,.n .i64 0,.n .i64 0,.sl0,.sl0],ai 3 1 lv2.length 0 (iC lv2),ae 0 95 [.os 2 lv2.length],ae 0 173 [.fs 2 cs.length (pI cs),.n .i64 p2,.os 6 pt2.length]]) [2,6,5,4,3,1,0] [] ?_ ?_ (by simp) (bg rfl rfl)) ?_
       ·exact ba
       ·exact .cr .k1 (.cr (.j1) (.cr (.j5) (.cr (.j5) (.cr .k1 (.cr (.j1) (.cr (.j3) .nil))))))
       refine GE.mixm aF 6 (by simp only[go_sem,simprocAttr,bI]) ?_
       repeat first|with_reducible refine GE.g ?_|simp only[h01,h0,q1,q2,q3,q4,decide_true,h02,go_sem,simprocAttr]
       refine⟨by decide,?_⟩
       repeat first|with_reducible refine GE.g ?_|simp only[go_sem,simprocAttr]
       obtain⟨ptA,hA⟩:∃l,l=(pt2.set p1 (p2:Int)).set p2 (p:Int):=⟨_,rfl⟩
       have hAl:ptA.length=pt2.length:=by rw[hA,List.length_set,List.length_set]
       rw[<-hA] at hr
       have w9:IntKind.i64.wrap ((p2:Int)+1)=((p2+1:Nat):Int):=(am (by omega)).trans (by omega)
       refine GE.loop (I:=λm e H=>e=aB [(0,.p 0 0),(6,.p 3 0),(7,.p 4 0),(158,.n .i64 0),(159,.n .i64 0)]/\H=ah [ai 3 1 ptA.length 0 (iC ptA),ae 0 95 [.sl0],ae 0 140 [.n .i64 27,.n .i64 p,.n .i64 0,.fs 5 x.len x.cell,.fs 5 y.len y.cell],ae 0 140 [.n .i64 0,.n .i64 0,.n .i64 0,.sl0,.sl0],ai 3 1 lv2.length 0 (iC lv2),ae 0 95 [.os 2 lv2.length],ae 0 173 [.fs 2 cs.length (pI cs),.n .i64 p2,.os 6 ptA.length]]) (m:=0) (b6.mk [6,5,4,3,2,1,0] [] ?_ ?_ (by simp) (bg rfl rfl)) ⟨rfl,rfl⟩ ?_
       ·exact ba
       ·rw[hAl]
        exact .cr (.put2 (row:=iC pt2) (row2:=iC ptA) (a:=p1) (c:=p2) (v:= .n .i64 (p2:Int)) (w:= .n .i64 (p:Int)) (by simp only[go_sem,simprocAttr]) (by omega) (by omega) rfl (by omega) (λi hi=>by rw[hA];exact iP (by omega) (by omega) _ _ i) (λ_ _ _ _=>rfl)) (.cr (.j1) (.cr (.j5) (.cr (.j5) (.cr .k1 (.cr (.j1) (.cr (.j3) .nil))))))
       rintro m e H ⟨rfl,rfl⟩
       repeat first|with_reducible refine GE.g ?_|simp only[w9,h01,cT,h02,go_sem,simprocAttr]
       rw[hop] at hr
       rw[if_neg (by decide),if_neg (by decide)] at hr
       refine gX [2,6,1,0] [] (.agg [.n .i64 27,.n .i64 p,.n .i64 ((p2+1:Nat):Int),.fs 5 (x).len (x).cell,.fs 5 (y).len (y).cell]) [ai 3 1 lv2.length 0 (iC lv2),ai 3 1 ptA.length 0 (iC ptA),ae 0 95 [.os 3 lv2.length],ae 0 173 [.fs 2 cs.length (pI cs),.n .i64 ((p2+1:Nat):Int),.os 2 ptA.length]] (.cr .k1 (.cr .k1 (.cr (.j1) (.cr (.j3) .nil)))) (.agg rfl (λi v v' k1 k2=>?_)) (by simp) (bg rfl rfl) ⟨.br 27 p (p2+1) x y .nil,p2+1,ptA,lv2,(Option.some.inj hr).symm,⟨27,p,p2+1,x,y,rfl,Nat.le_refl _⟩,by omega,by omega,by omega,by omega,rfl,rfl⟩
       rcases i with _|_|_|_|_|i<;>simp only[List.getElem?_cons_zero,List.getElem?_cons_succ,Option.some.injEq,List.getElem?_nil,reduceCtorEq] at k1 k2<;>subst k1 k2<;>first|exact Wv.same rfl|exact .cv (.sl0 _ _)
      ·have e31:¬(cs.getD p2 (0,0)).1=31:=hend
       rw[dx,if_neg (λh=>hend h.2)] at hr
       repeat first|with_reducible refine GE.g ?_|simp only[h01,cT,hop',decide_true,decide_false,hlt',h02,e31,go_sem,simprocAttr]
       exact aM [] (fargs:=[.b false,.n .i64 (p2:Int),.n .i64 15]) (cm.same rfl) (bh p2 15) ⟨p2,(Option.some.inj hr).symm,rfl⟩
     ·have hlt':¬(p2:Int)<cs.length:=by omega
      ·rw[dx,if_neg (λh=>hlt h.1)] at hr
       repeat first|with_reducible refine GE.g ?_|simp only[h01,cT,hop',decide_true,decide_false,hlt',h02,go_sem,simprocAttr]
       exact aM [] (fargs:=[.b false,.n .i64 (p2:Int),.n .i64 15]) (cm.same rfl) (bh p2 15) ⟨p2,(Option.some.inj hr).symm,rfl⟩
    ·rintro c H' ⟨z,rfl,rfl⟩
     exact⟨z,(Option.some.inj hr).symm,rfl⟩
   ·rw[if_neg (λh=>hc h.2)] at hr
    by_cases hlt:p1<cs.length
    ·have hlt':(p1:Int)<cs.length:=by omega
     have e28:¬(cs.getD p1 (0,0)).1=28:=λh=>hc ⟨hlt,h⟩
     by_cases hend:aj cs p1=31
     ·have e31:(cs.getD p1 (0,0)).1=31:=hend
      rw[dx,if_pos ⟨hlt,hend⟩] at hr
      repeat first|with_reducible refine GE.g ?_|simp only[h01,cT,hop',decide_true,decide_false,hlt',e28,e31,go_sem,simprocAttr]
      refine dd ([.b true,.n .i64 (p1:Int),.n .i64 15]) (bT p1 15) ?_
      have q1:(p:Int)<pt1.length:=by omega
      have q2:(p1:Int)<pt1.length:=by omega
      have q3:p+1<=pt1.length:=by omega
      have q4:p1+1<=pt1.length:=by omega
      simp only[go_sem,simprocAttr]
      with_reducible refine GE.go aF rfl ?_
      simp only[go_sem,simprocAttr]
      refine GE.wk (b6.mk (L:=[(0,.p 0 0),(6,.p 3 0),(7,.p 4 0),(8,.p 5 0),(9,.n .i64 p)]) (bl:=[ai 3 1 pt1.length 0 (iC pt1),ae 0 95 [.sl0],ae 0 140 [.n .i64 27,.n .i64 p,.n .i64 0,.fs 5 x.len x.cell,.sl0],ae 0 140 [.n .i64 0,.n .i64 0,.n .i64 0,.sl0,.sl0],ai 3 1 lv1.length 0 (iC lv1),ae 0 95 [.os 2 lv1.length],ae 0 173 [.fs 2 cs.length (pI cs),.n .i64 p1,.os 6 pt1.length]]) [2,6,5,4,3,1,0] [] ?_ ?_ (by simp) (bg rfl rfl)) ?_
      ·exact ba
      ·exact .cr .k1 (.cr (.j1) (.cr (.j5) (.cr (.j5) (.cr .k1 (.cr (.j1) (.cr (.j3) .nil))))))
      refine GE.mixm aF 6 (by simp only[go_sem,simprocAttr,bI]) ?_
      repeat first|with_reducible refine GE.g ?_|simp only[h01,h0,q1,q2,q3,q4,decide_true,go_sem,simprocAttr]
      refine⟨by decide,?_⟩
      repeat first|with_reducible refine GE.g ?_|simp only[go_sem,simprocAttr]
      obtain⟨ptA,hA⟩:∃l,l=(pt1.set p (p1:Int)).set p1 (p:Int):=⟨_,rfl⟩
      have hAl:ptA.length=pt1.length:=by rw[hA,List.length_set,List.length_set]
      rw[<-hA] at hr
      have w9:IntKind.i64.wrap ((p1:Int)+1)=((p1+1:Nat):Int):=(am (by omega)).trans (by omega)
      refine GE.loop (I:=λm e H=>e=aB [(0,.p 0 0),(6,.p 3 0),(7,.p 4 0),(158,.n .i64 0),(159,.n .i64 0)]/\H=ah [ai 3 1 ptA.length 0 (iC ptA),ae 0 95 [.sl0],ae 0 140 [.n .i64 27,.n .i64 p,.n .i64 0,.fs 5 x.len x.cell,.sl0],ae 0 140 [.n .i64 0,.n .i64 0,.n .i64 0,.sl0,.sl0],ai 3 1 lv1.length 0 (iC lv1),ae 0 95 [.os 2 lv1.length],ae 0 173 [.fs 2 cs.length (pI cs),.n .i64 p1,.os 6 ptA.length]]) (m:=0) (b6.mk [6,5,4,3,2,1,0] [] ?_ ?_ (by simp) (bg rfl rfl)) ⟨rfl,rfl⟩ ?_
      ·exact ba
      ·rw[hAl]
       exact .cr (.put2 (row:=iC pt1) (row2:=iC ptA) (a:=p) (c:=p1) (v:= .n .i64 (p1:Int)) (w:= .n .i64 (p:Int)) (by simp only[go_sem,simprocAttr]) (by omega) (by omega) rfl (by omega) (λi hi=>by rw[hA];exact iP (by omega) (by omega) _ _ i) (λ_ _ _ _=>rfl)) (.cr (.j1) (.cr (.j5) (.cr (.j5) (.cr .k1 (.cr (.j1) (.cr (.j3) .nil))))))
      rintro m e H ⟨rfl,rfl⟩
      repeat first|with_reducible refine GE.g ?_|simp only[w9,h01,cT,go_sem,simprocAttr]
      rw[hop] at hr
      rw[if_neg (by decide),if_neg (by decide)] at hr
      refine gX [2,6,1,0] [] (.agg [.n .i64 27,.n .i64 p,.n .i64 ((p1+1:Nat):Int),.fs 5 (x).len (x).cell,.fs 5 (Fo.nil).len (Fo.nil).cell]) [ai 3 1 lv1.length 0 (iC lv1),ai 3 1 ptA.length 0 (iC ptA),ae 0 95 [.os 3 lv1.length],ae 0 173 [.fs 2 cs.length (pI cs),.n .i64 ((p1+1:Nat):Int),.os 2 ptA.length]] (.cr .k1 (.cr .k1 (.cr (.j1) (.cr (.j3) .nil)))) (.agg rfl (λi v v' k1 k2=>?_)) (by simp) (bg rfl rfl) ⟨.br 27 p (p1+1) x Fo.nil .nil,p1+1,ptA,lv1,(Option.some.inj hr).symm,⟨27,p,p1+1,x,Fo.nil,rfl,Nat.le_refl _⟩,by omega,by omega,by omega,by omega,rfl,rfl⟩
      rcases i with _|_|_|_|_|i<;>simp only[List.getElem?_cons_zero,List.getElem?_cons_succ,Option.some.injEq,List.getElem?_nil,reduceCtorEq] at k1 k2<;>subst k1 k2<;>first|exact Wv.same rfl|exact .cv (.sl0 _ _)
     ·have e31:¬(cs.getD p1 (0,0)).1=31:=hend
      rw[dx,if_neg (λh=>hend h.2)] at hr
      repeat first|with_reducible refine GE.g ?_|simp only[h01,cT,hop',decide_true,decide_false,hlt',e28,e31,go_sem,simprocAttr]
      exact aM [] (fargs:=[.b false,.n .i64 (p1:Int),.n .i64 15]) (cm.same rfl) (bh p1 15) ⟨p1,(Option.some.inj hr).symm,rfl⟩
    ·have hlt':¬(p1:Int)<cs.length:=by omega
     ·rw[dx,if_neg (λh=>hlt h.1)] at hr
      repeat first|with_reducible refine GE.g ?_|simp only[h01,cT,hop',decide_true,decide_false,hlt',go_sem,simprocAttr]
      exact aM [] (fargs:=[.b false,.n .i64 (p1:Int),.n .i64 15]) (cm.same rfl) (bh p1 15) ⟨p1,(Option.some.inj hr).symm,rfl⟩
  ·rintro c H' ⟨z,rfl,rfl⟩
   exact⟨z,(Option.some.inj hr).symm,rfl⟩
 ·have hop':(cs.getD p (0,0)).1=29:=hop
  have hn27:¬aj cs p=27:=by rw[hop];decide
  have hdec:decide (aj cs p=29)=true:=by rw[hop];rfl
  rw[if_pos hop] at hr
  simp only[hdec,Bool.or_true] at hr
  repeat first|with_reducible refine GE.g ?_|simp only[h1',h0,cT,go_sem,simprocAttr]
  refine⟨λ_=>?_,λh=>by rw[hop'] at h;exact absurd h (by decide)⟩
  refine GE.wk (b6.nilb 6 0 1 3 (x:=_) (by simp only[go_sem,simprocAttr]<;>rfl) (by simp only[go_sem,simprocAttr]<;>rfl) (by decide) (by decide) (by simp only[go_sem,simprocAttr]<;>decide) (by rfl) (by simp only[go_sem,simprocAttr]<;>decide)) ?_
  repeat first|with_reducible refine GE.g ?_|simp only[w0,go_sem,simprocAttr]
  cases hl:lst cs f d true (p+1) pt [] .nil with
  |none=>rw[hl] at hr;cases hr
  |some r1=>
  have hr1:=cB f d true (p+1) pt [] .nil r1 (by omega) hpt (by simp) hl
  rw[hl] at hr
  obtain⟨lvE,hE⟩:∃l:List Int,l=[]:=⟨_,rfl⟩
  have hEl:lvE.length=0:=by rw[hE];rfl
  rw[<-hE] at hl
  refine dX (ob:=λ_=>none) db [3,1,5,4,7,2,6,0] [] [(0,.p 0 0),(1,.n .i64 d),(2,.p 1 0),(6,.p 4 0),(7,.p 5 0),(8,.p 1 0)] [.p 0 0,.n .i64 d,.p 1 0] [ai 3 1 lv.length 0 (iC lv),ae 0 95 [.os 7 lv.length],ae 0 140 [.n .i64 29,.n .i64 p,.n .i64 0,.sl0,.sl0],ae 0 140 [.n .i64 0,.n .i64 0,.n .i64 0,.sl0,.sl0]] [ai 3 1 lvE.length 0 (iC lvE),ai 3 1 pt.length 0 (iC pt),ae 0 95 [.os 3 lvE.length],ae 0 173 [.fs 2 cs.length (pI cs),.n .i64 ((p+1:Nat):Int),.os 2 pt.length]] (hT d (p+1) pt lvE r1 (by omega) (by omega) hpt (by omega) hl).o ?_ ?_ ?_ ?_ ?_ ?_ ?_ ?_ ?_ ?_ ?_ ?_ ?_ ?_
  ·exact ba
  ·rw[hEl];exact .cr .k1 (.cr (.j1) (.cr (.j5) (.cr (.j5) (.cr (.rows (x:=_) (by simp only[go_sem,simprocAttr];rfl) (by rfl) (by rfl) (by rfl) (by simp) (by decide) (by decide) (λi j h=>absurd h (Nat.not_lt_zero _)) (λi j h=>absurd h (Nat.not_lt_zero _))) (.cr .k1 (.cr (.j1) (.cr (.j3) .nil)))))))
  ·exact⟨Wv.p rfl,Wv.n rfl,Wv.p rfl,trivial⟩
  ·exact λr x hx=>by cases hx
  ·simp
  ·rfl
  ·exact λb hb=>by simp[db] at hb;simp;omega
  ·rw[ax];exact ik (by simp) (by rfl) (by rfl)
  ·simp[AV.nm]
  ·simp[AV.nm,db]
  ·exact .cons (.row (by decide) (λi j _ _=>rfl)) (.cons (.row (by decide) (λi j _ _=>rfl)) (.cons .lq (.cons .lq .nil)))
  ·exact .cons (.row (by decide) (λi j _ _=>rfl)) (.cons .lq (.cons (.lst (by simp) (by simp[AV.nm])) (.cons .lq .nil)))
  ·rintro v H' ⟨x,p1,pt1,lv1,rfl,rfl,rfl⟩
   refine⟨λ_=>none,λ_=>none,[ai 3 1 lv1.length 0 (iC lv1),ai 3 1 pt1.length 0 (iC pt1),ae 0 95 [.os 3 lv1.length],ae 0 173 [.fs 2 cs.length (pI cs),.n .i64 p1,.os 2 pt1.length]],[ai 3 1 lv1.length 0 (iC lv1),ae 0 95 [.os 7 lv1.length],ae 0 140 [.n .i64 29,.n .i64 p,.n .i64 0,.sl0,.sl0],ae 0 140 [.n .i64 0,.n .i64 0,.n .i64 0,.sl0,.sl0],ai 3 1 lv.length 0 (iC lv),ai 3 1 pt1.length 0 (iC pt1),ae 0 95 [.os 3 lv.length],ae 0 173 [.fs 2 cs.length (pI cs),.n .i64 p1,.os 2 pt1.length]],[3,1,5,4,7,2,6,0],[],_,[(0,.p 0 0),(1,.n .i64 d),(2,.p 6 0),(6,.p 4 0),(7,.p 5 0),(8,.p 6 0)],(ax _).symm,rfl,?_,?_,Wv.same rfl,by simp,(λr x hx=>by cases hx),?_,?_⟩
   ·exact ba
   ·simp only[List.cons_append,List.nil_append,ax]
    exact .cr .k1 (.cr (.j1) (.cr (.j5) (.cr (.j5) (.cr .k1 (.cr .k1 (.cr (.j1) (.cr (.j3) .nil)))))))
   ·intro b hb;have hb':=of_decide_eq_true hb;rcases(show b=0\/b=1 by omega) with rfl|rfl
    ·exact⟨0,rfl,rfl,.inl rfl⟩
    ·exact⟨6,rfl,rfl,.inr (by simp)⟩
   rw[ax]
   obtain⟨g1,g2,g3,g4,g5⟩:=hr1 x p1 pt1 lv1 rfl
   dsimp only at hr
   have h01:(0:Int)<=(p1:Int):=by omega
   rw[if_neg (λh=>hn27 h.1)] at hr
   by_cases hlt:p1<cs.length
   ·have hlt':(p1:Int)<cs.length:=by omega
    by_cases hend:aj cs p1=31
    ·have e31:(cs.getD p1 (0,0)).1=31:=hend
     rw[dx,if_pos ⟨hlt,hend⟩] at hr
     repeat first|with_reducible refine GE.g ?_|simp only[h01,cT,hop',decide_true,decide_false,hlt',e31,go_sem,simprocAttr]
     refine dd ([.b true,.n .i64 (p1:Int),.n .i64 15]) (bT p1 15) ?_
     have q1:(p:Int)<pt1.length:=by omega
     have q2:(p1:Int)<pt1.length:=by omega
     have q3:p+1<=pt1.length:=by omega
     have q4:p1+1<=pt1.length:=by omega
     simp only[go_sem,simprocAttr]
     with_reducible refine GE.go aF rfl ?_
     simp only[go_sem,simprocAttr]
     refine GE.wk (b6.mk (L:=[(0,.p 0 0),(6,.p 3 0),(7,.p 4 0),(8,.p 5 0),(9,.n .i64 p)]) (bl:=[ai 3 1 pt1.length 0 (iC pt1),ai 3 1 lv1.length 0 (iC lv1),ae 0 95 [.os 6 lv1.length],ae 0 140 [.n .i64 29,.n .i64 p,.n .i64 0,.fs 5 x.len x.cell,.sl0],ae 0 140 [.n .i64 0,.n .i64 0,.n .i64 0,.sl0,.sl0],ai 3 1 lv.length 0 (iC lv),ae 0 95 [.os 2 lv.length],ae 0 173 [.fs 2 cs.length (pI cs),.n .i64 p1,.os 7 pt1.length]]) [2,7,6,5,4,3,1,0] [] ?_ ?_ (by simp) (bg rfl rfl)) ?_
     ·exact ba
     ·exact .cr .k1 (.cr .k1 (.cr (.j1) (.cr (.j5) (.cr (.j5) (.cr .k1 (.cr (.j1) (.cr (.j3) .nil)))))))
     refine GE.mixm aF 7 (by simp only[go_sem,simprocAttr,bI]) ?_
     repeat first|with_reducible refine GE.g ?_|simp only[h01,h0,q1,q2,q3,q4,decide_true,go_sem,simprocAttr]
     refine⟨by decide,?_⟩
     repeat first|with_reducible refine GE.g ?_|simp only[go_sem,simprocAttr]
     obtain⟨ptA,hA⟩:∃l,l=(pt1.set p (p1:Int)).set p1 (p:Int):=⟨_,rfl⟩
     have hAl:ptA.length=pt1.length:=by rw[hA,List.length_set,List.length_set]
     rw[<-hA] at hr
     have w9:IntKind.i64.wrap ((p1:Int)+1)=((p1+1:Nat):Int):=(am (by omega)).trans (by omega)
     have hsl:∀l,(bD ptA (p1:Int) l).length=ptA.length:=λl=>gf l ptA _
     refine GE.loop (I:=λm e H=>∃k,m+k=lv1.length/\e=aB [(0,.p 0 0),(6,.p 3 0),(7,.p 4 0),(157,.os 6 lv1.length),(158,.n .i64 lv1.length),(159,.n .i64 k)]/\H=ah [ai 3 1 (bD ptA p1 (lv1.take k)).length 0 (iC (bD ptA p1 (lv1.take k))),ai 3 1 lv1.length 0 (iC lv1),ae 0 95 [.os 6 lv1.length],ae 0 140 [.n .i64 29,.n .i64 p,.n .i64 0,.fs 5 x.len x.cell,.sl0],ae 0 140 [.n .i64 0,.n .i64 0,.n .i64 0,.sl0,.sl0],ai 3 1 lv.length 0 (iC lv),ae 0 95 [.os 2 lv.length],ae 0 173 [.fs 2 cs.length (pI cs),.n .i64 p1,.os 7 (bD ptA p1 (lv1.take k)).length]]) (m:=lv1.length) (b6.mk [7,6,5,4,3,2,1,0] [] ?_ ?_ (by simp) (bg rfl rfl)) ⟨0,rfl,rfl,rfl⟩ ?_
     ·exact ba
     ·show cM _ _ _ _ [ai 3 1 ptA.length 0 (iC ptA),ai 3 1 lv1.length 0 (iC lv1),ae 0 95 [.os 6 lv1.length],ae 0 140 [.n .i64 29,.n .i64 p,.n .i64 0,.fs 5 x.len x.cell,.sl0],ae 0 140 [.n .i64 0,.n .i64 0,.n .i64 0,.sl0,.sl0],ai 3 1 lv.length 0 (iC lv),ae 0 95 [.os 2 lv.length],ae 0 173 [.fs 2 cs.length (pI cs),.n .i64 p1,.os 7 ptA.length]]
      rw[hAl]
      exact .cr (.put2 (row:=iC pt1) (row2:=iC ptA) (a:=p) (c:=p1) (v:= .n .i64 (p1:Int)) (w:= .n .i64 (p:Int)) (by simp only[go_sem,simprocAttr]) (by omega) (by omega) rfl (by omega) (λi hi=>by rw[hA];exact iP (by omega) (by omega) _ _ i) (λ_ _ _ _=>rfl)) (.cr .k1 (.cr (.j1) (.cr (.j5) (.cr (.j5) (.cr .k1 (.cr (.j1) (.cr (.j3) .nil)))))))
     rintro m e H ⟨k,hk,rfl,rfl⟩
     obtain⟨ptK,hK⟩:∃l,l=bD ptA (p1:Int) (lv1.take k):=⟨_,rfl⟩
     have hKl:ptK.length=pt1.length:=by rw[hK,hsl,hAl]
     rw[<-hK]
     have h0k:(0:Int)<=(k:Int):=by omega
     by_cases hm:k<lv1.length
     ·have hkk:(k:Int)<lv1.length:=by omega
      have hmem:lv1.getD k 0 ∈ lv1:=by rw[List.getD_eq_getElem?_getD,List.getElem?_eq_getElem hm];exact List.getElem_mem hm
      obtain⟨hz0,hz1⟩:=(g5 _ hmem).elim (λh=>absurd h (List.not_mem_nil)) id
      obtain⟨z,hz⟩:∃z:Nat,lv1.getD k 0=(z:Int):=⟨(lv1.getD k 0).toNat,by omega⟩
      have hzl:z<ptK.length:=by omega
      have hzi:(z:Int)<ptK.length:=by omega
      have hz2:(0:Int)<=(z:Int):=by omega
      have hzs:z+1<=ptK.length:=hzl
      have hgk:(ai 3 1 lv1.length 0 (iC lv1)).get k= .n .i64 (z:Int):=by rw[hD];simp only[iC,hz]
      have wk:IntKind.i64.wrap ((k:Int)+1)=((k+1:Nat):Int):=(am (by omega)).trans (by omega)
      have hK1:bD ptA (p1:Int) (lv1.take (k+1))=ptK.set z (p1:Int):=by rw[nX hm,jp,<-hK,hz,Int.toNat_natCast]
      repeat (first|with_reducible refine GE.seq ?_|with_reducible refine GE.block ?_|with_reducible refine GE.skip ?_|with_reducible refine GE.reg ?_|with_reducible refine GE.cond ?_|simp only[hkk,h0k,hm,hgk,decide_true,go_sem,simprocAttr])
      refine GE.mixm aF 7 (by simp only[go_sem,simprocAttr,bI]) ?_
      simp only[hzi,hz2,hzs,h01,go_sem,simprocAttr]
      try refine(And.intro (by decide) ?_)
      repeat first|with_reducible refine GE.g ?_|simp only[wk,go_sem,simprocAttr]
      refine⟨m-1,_,_,by omega,b6.mk [7,6,5,4,3,2,1,0] [] ?_ ?_ (by simp) (bg rfl rfl),k+1,by omega,rfl,rfl⟩
      ·exact ba
      ·rw[hK1,List.length_set]
       exact .cr (.put1 (row:=iC ptK) (row2:=iC (ptK.set z (p1:Int))) (o:=z) (q:=z) (t:=0) (v:= .n .i64 (p1:Int)) (by simp only[go_sem,simprocAttr]) (by omega) (by decide) (by omega) rfl (by omega) (λi j hi hj=>by simp only[iC];rw[eG hzl];by_cases hh:i=z<;>simp[hh];omega) (λ_ _ _ _=>rfl)) (.cr .k1 (.cr (.j1) (.cr (.j5) (.cr (.j5) (.cr .k1 (.cr (.j1) (.cr (.j3) .nil)))))))
     ·have hkk:¬(k:Int)<lv1.length:=by omega
      have hKe:bD ptA (p1:Int) lv1=ptK:=by rw[hK,List.take_of_length_le (by omega)]
      repeat first|with_reducible refine GE.g ?_|simp only[hkk,w9,h01,cT,decide_false,go_sem,simprocAttr]
      rw[hop] at hr
      rw[if_pos rfl,if_pos rfl,hKe] at hr
      refine gX [2,7,1,0] [] (.agg [.n .i64 29,.n .i64 p,.n .i64 ((p1+1:Nat):Int),.fs 5 (x).len (x).cell,.fs 5 (Fo.nil).len (Fo.nil).cell]) [ai 3 1 lv.length 0 (iC lv),ai 3 1 ptK.length 0 (iC ptK),ae 0 95 [.os 3 lv.length],ae 0 173 [.fs 2 cs.length (pI cs),.n .i64 ((p1+1:Nat):Int),.os 2 ptK.length]] (.cr .k1 (.cr .k1 (.cr (.j1) (.cr (.j3) .nil)))) (.agg rfl (λi v v' k1 k2=>?_)) (by simp) (bg rfl rfl) ⟨.br 29 p (p1+1) x Fo.nil .nil,p1+1,ptK,lv,(Option.some.inj hr).symm,⟨29,p,p1+1,x,Fo.nil,rfl,Nat.le_refl _⟩,by omega,by omega,by omega,by omega,rfl,rfl⟩
      rcases i with _|_|_|_|_|i<;>simp only[List.getElem?_cons_zero,List.getElem?_cons_succ,Option.some.injEq,List.getElem?_nil,reduceCtorEq] at k1 k2<;>subst k1 k2<;>first|exact Wv.same rfl|exact .cv (.sl0 _ _)
    ·have e31:¬(cs.getD p1 (0,0)).1=31:=hend
     rw[dx,if_neg (λh=>hend h.2)] at hr
     repeat first|with_reducible refine GE.g ?_|simp only[h01,cT,hop',decide_true,decide_false,hlt',e31,go_sem,simprocAttr]
     exact aM [] (fargs:=[.b false,.n .i64 (p1:Int),.n .i64 15]) (cm.same rfl) (bh p1 15) ⟨p1,(Option.some.inj hr).symm,rfl⟩
   ·have hlt':¬(p1:Int)<cs.length:=by omega
    ·rw[dx,if_neg (λh=>hlt h.1)] at hr
     repeat first|with_reducible refine GE.g ?_|simp only[h01,cT,hop',decide_true,decide_false,hlt',go_sem,simprocAttr]
     exact aM [] (fargs:=[.b false,.n .i64 (p1:Int),.n .i64 15]) (cm.same rfl) (bh p1 15) ⟨p1,(Option.some.inj hr).symm,rfl⟩
  ·rintro c H' ⟨z,rfl,rfl⟩
   exact⟨z,(Option.some.inj hr).symm,rfl⟩
theorem yO(cs:List (Int×Int))(hcs:cs.length<=1024)(f:Nat):pW cs f/\pV cs f:=by
 induction f using Nat.strongRecOn with
 |ind f ih=>exact⟨yQ cs hcs f λm hm=>wP cs hcs m (ih m hm).1 (ih m hm).2,yP cs hcs f λm hm=>wO cs hcs m (ih m hm).1 (ih m hm).2⟩
theorem jU{cs:List (Int×Int)}:∀(f d:Nat) (inL:Bool) (p:Nat) (pt lv:List Int) (out:Fo),p<=cs.length->pt.length=cs.length->lv.length<=p->cs.length+1<=p+f->∃r,lst cs f d inL p pt lv out=some r:=by
 intro f
 induction f with
 |zero=>intro d inL p pt lv out hp hpt hlv h;omega
 |succ f ih=>
  intro d inL p pt lv out hp hpt hlv h
  rw[lst]
  split
  ·exact⟨_,rfl⟩
  split
  ·exact⟨_,rfl⟩
  split
  ·have hL:wV cs (λd inL p pt lv=>lst cs f d inL p pt lv .nil):=λd inL p pt lv r h1 h2 h3 h4=>cB f d inL p pt lv .nil r h1 h2 h3 h4
   have hb:∃rb,d8 cs (λd inL p pt lv=>lst cs f d inL p pt lv .nil) (d+1) inL p pt lv=some rb:=by
    rw[d8]
    split
    ·exact⟨_,rfl⟩
    obtain⟨r1,h1⟩:=ih (d+1) (inL||decide (aj cs p=29)) (p+1) pt (if aj cs p=29 then[] else lv) .nil (by omega) hpt (by split<;>(try simp)<;>omega) (by omega)
    have k1:=cB f _ _ _ _ _ .nil r1 (by omega) hpt (by split<;>(try simp)<;>omega) h1
    simp only[h1]
    cases r1 with
    |error x=>exact⟨_,rfl⟩
    |ok q=>
     obtain⟨x,p1,pt1,lv1⟩:=q
     obtain⟨f1,f2,f3,f4,_⟩:=k1 x p1 pt1 lv1 rfl
     dsimp only
     split
     ·rename_i hc
      obtain⟨r2,h2⟩:=ih (d+1) (inL||decide (aj cs p=29)) (p1+1) (pt1.set p (p1:Int)) lv1 .nil (by omega) (by rw[List.length_set];exact f3) (by omega) (by omega)
      simp only[h2]
      cases r2 with
      |error x=>exact⟨_,rfl⟩
      |ok q=>
       obtain⟨y,p2,pt2,lv2⟩:=q
       dsimp only
       rw[dx]
       split<;>exact⟨_,rfl⟩
     ·rw[dx]
      split<;>exact⟨_,rfl⟩
   obtain⟨rb,hb⟩:=hb
   simp only[hb]
   cases rb with
   |error x=>exact⟨_,rfl⟩
   |ok q=>
    obtain⟨b,p',pt',lv'⟩:=q
    obtain⟨g1,g2,g3,g4,_⟩:=(kM hL (by omega) hpt hlv hb).1 b p' pt' lv' rfl
    exact ih d inL p' pt' lv' (out.app b) g2 g3 g4 (by omega)
  ·split
   ·exact⟨_,rfl⟩
   ·exact ih d inL (p+1) pt _ (out.addPl p) (by omega) hpt (by split<;>(try simp)<;>omega) (by omega)
def cn(cs:List (Int×Int)):Except Nat (Fo×List Int):=match lst cs (cs.length+1) 0 false 0 (List.replicate cs.length (-1)) [] .nil with
 |some (.ok (o,p,pt,_))=>if p=cs.length then .ok (o,pt) else .error p
 |some (.error x)=> .error x
 |none=> .error 0
theorem Kl{cs:List (Int×Int)}{o:Fo}{pt:List Int}(h:cn cs= .ok (o,pt)):pt.length=cs.length:=by
 obtain⟨r,hr⟩:=jU (cs:=cs) (cs.length+1) 0 false 0 (List.replicate cs.length (-1)) [] .nil (Nat.zero_le _) (by simp) (by simp) (by omega)
 rw[cn,hr] at h
 cases r with
 |error x=>cases h
 |ok q=>
  obtain⟨o1,p,pt1,lv1⟩:=q
  have:=cB _ _ _ _ _ _ _ _ (Nat.zero_le _) (by simp) (by simp) hr o1 p pt1 lv1 rfl
  dsimp only at h
  split at h
  ·cases h
   exact this.2.2.1
  ·cases h
theorem qf(cs:List (Int×Int))(hcs:cs.length<=1024)(pt0:List Int)(h0:pt0=List.replicate cs.length (-1)):
  PC Tryz.prog bG 84 [.p 0 0] (ah [ai 3 1 pt0.length 0 (iC pt0),ae 0 173 [.fs 2 cs.length (pI cs),.n .i64 0,.os 1 pt0.length]])
   (λv H'=>∃o pt,cn cs= .ok (o,pt)/\v= .fs 5 o.len o.cell/\H'=ah [ai 3 1 pt.length 0 (iC pt),ae 0 173 [.fs 2 cs.length (pI cs),.n .i64 cs.length,.os 1 pt.length]]) (λc _=>∃x,cn cs= .error x/\c=fA x 15):=by
 obtain⟨r,hr⟩:=jU (cs:=cs) (cs.length+1) 0 false 0 pt0 [] .nil (Nat.zero_le _) (by rw[h0];simp) (by simp) (by omega)
 have hrd:=hr
 rw[h0] at hrd
 refine PC.vw (cI TE ⟨by simp,by decide⟩ ?_)
 simp only[aH]
 repeat first|with_reducible refine GE.g ?_|simp only[go_sem,simprocAttr]
 refine ng bG [(0,.p 0 0)] [] [ai 3 1 pt0.length 0 (iC pt0),ae 0 173 [.fs 2 cs.length (pI cs),.n .i64 (0:Nat),.os 1 pt0.length]] ((yO cs hcs (cs.length+1)).1 0 0 pt0 [] r (by omega) (Nat.zero_le _) (by rw[h0];simp) (by simp) hr) rfl ?_ ?_ ?_ ?_ (λb hb=>by simp[hb]) ?_ ?_ ?_ ?_ ?_ ?_ ?_
 ·simp only[uJ,go_sem,simprocAttr]
 ·simp
 ·rfl
 ·exact λb hb=>by simp[bG] at hb;simp;omega
 ·exact il (by simp) (by rfl)
 ·simp[AV.nm]
 ·simp[AV.nm,bG]
 ·exact .cons (.row (by decide) (λi j _ _=>rfl)) (.cons .lq .nil)
 ·exact .nil
 ·rintro v H' ⟨o,p1,pt1,lv1,rfl,rfl,rfl⟩
  have hk:=cB _ _ _ _ _ _ _ _ (Nat.zero_le _) (by rw[h0];simp) (by simp) hr o p1 pt1 lv1 rfl
  refine⟨_,rfl,rfl,?_⟩
  rw[List.nil_append]
  by_cases he:p1=cs.length
  ·subst he
   repeat first|with_reducible refine GE.g ?_|simp only[decide_true,go_sem,simprocAttr]
   refine dd ([.b true,.n .i64 (cs.length:Int),.n .i64 15]) (bT cs.length 15) ?_
   repeat first|with_reducible refine GE.g ?_|simp only[go_sem,simprocAttr]
   refine gX [1,0] [] (.fs 5 o.len o.cell) [ai 3 1 pt1.length 0 (iC pt1),ae 0 173 [.fs 2 cs.length (pI cs),.n .i64 cs.length,.os 1 pt1.length]] (.cr .k1 (.cr (.j3) .nil)) (Wv.same rfl) (by simp) (aC rfl) ⟨o,pt1,?_,rfl,rfl⟩
   rw[cn,hrd]
   exact if_pos rfl
  ·have he':¬(p1:Int)=cs.length:=by omega
   repeat first|with_reducible refine GE.g ?_|simp only[he',decide_false,go_sem,simprocAttr]
   refine aM [] (fargs:=[.b false,.n .i64 (p1:Int),.n .i64 15]) (cm.same rfl) (bh p1 15) ⟨p1,?_,rfl⟩
   rw[cn,hrd]
   exact if_neg he
 ·rintro c H' ⟨z,rfl,rfl⟩
  exact⟨z,by rw[cn,hrd],rfl⟩
theorem yy{cs:List (Int×Int)}:∀(f d:Nat) (inL:Bool) (p:Nat) (pt lv:List Int) (out0:Fo) (r:Except Nat LR) (s:RS) (a:Nat),lst cs f d inL p pt lv out0=some r->p<=cs.length->pt.length=cs.length->lv.length<=p->
  s.op.length=d->s.ot.length=d->s.out.length=cs.length->ip cs s.op=inL->d<=8->aA cs s.out out0 a p->nF cs p s a r:=by
 intro f
 induction f with
 |zero=>intro d inL p pt lv out0 r s a h;cases h
 |succ f ih=>
  intro d inL p pt lv out0 r s a h hp hpt hlv h1 h2 h3 h4 hd hg
  have triv:∀r',(p=cs.length\/aj cs p=28\/aj cs p=31)->some (Except.ok (out0,p,pt,lv))=some r'->nF cs p s a r':=λr' hs h=>by
   cases h
   exact⟨s,⟨by rw[Nat.sub_self];rfl,rfl,rfl,h3,λ_ _=>rfl⟩,hs,hg⟩
  rw[lst] at h
  by_cases c1:cs.length<=p
  ·rw[if_pos c1] at h
   exact triv r (.inl (by omega)) h
  rw[if_neg c1] at h
  by_cases c2:aj cs p=28\/aj cs p=31
  ·rw[if_pos c2] at h
   exact triv r (.inr c2) h
  rw[if_neg c2] at h
  have c28:aj cs p≠28:=λh=>c2 (.inl h)
  have c31:aj cs p≠31:=λh=>c2 (.inr h)
  by_cases c3:aj cs p=27\/aj cs p=29
  ·rw[if_pos c3] at h
   cases hb:d8 cs (λd inL p pt lv=>lst cs f d inL p pt lv .nil) (d+1) inL p pt lv with
   |none=>rw[hb] at h;cases h
   |some rb=>
   rw[hb] at h
   have hL:wV cs (λd inL p pt lv=>lst cs f d inL p pt lv .nil):=λd inL p pt lv r q1 q2 q3 q4=>cB f d inL p pt lv .nil r q1 q2 q3 q4
   have k:=Ad hL (λd inL p pt lv r s q1 q2 q3 q4 q5 q6 q7 q8 q9=>ih d inL p pt lv .nil r s p q1 q2 q3 q4 q5 q6 q7 q8 q9 rfl) (by omega) hpt hlv c3 h1 h2 h3 h4 hd hb
   have kk:=kM hL (by omega) hpt hlv hb
   cases rb with
   |error x=>cases h;exact k
   |ok q=>
   obtain⟨b,p',pt',lv'⟩:=q
   obtain⟨s',k1,k2⟩:=k
   obtain⟨f1,f2,f3,f4,f5⟩:=kk.1 b p' pt' lv' rfl
   dsimp only at h
   obtain⟨x,y,hbr⟩:=kk.2 b p' pt' lv' rfl
   have hgood:aA cs s'.out (out0.app b) a p':=(hg.congr λk q1 q2=>k1.low k q2).app k2 (λ_=>by rw[hbr];rfl)
   have k3:=ih d inL p' pt' lv' (out0.app b) r s' a h f2 f3 f4 (by rw[k1.op];exact h1) (by rw[k1.ot];exact h2) k1.len (by rw[k1.op];exact h4) hd hgood
   cases r with
   |error x=>exact⟨by have:=k3.1;omega,k3.2.skip (by omega) f2 k1.run⟩
   |ok q=>
   obtain⟨o,p1,pt1,lv1⟩:=q
   obtain⟨s2,m1,m2,m3⟩:=k3
   obtain⟨e1,_⟩:=cB f d inL p' pt' lv' _ _ f2 f3 f4 h o p1 pt1 lv1 rfl
   exact⟨s2,⟨gg (p1:=p') (by omega) e1 k1.run m1.run,m1.op.trans k1.op,m1.ot.trans k1.ot,m1.len,λi hi=>(m1.low i (by omega)).trans (k1.low i hi)⟩,m2,m3⟩
  rw[if_neg c3] at h
  have c27:aj cs p≠27:=λh=>c3 (.inl h)
  have c29:aj cs p≠29:=λh=>c3 (.inr h)
  by_cases c4:aj cs p=30/\inL=false
  ·rw[if_pos c4] at h
   cases h
   refine⟨Nat.le_refl _,.here (by omega) ?_⟩
   rw[bQ,if_neg c3,if_neg c28,if_pos c4.1,if_neg (by rw[h4,c4.2];decide)]
  rw[if_neg c4] at h
  have hs1:bQ cs p s=some ⟨s.out.set p (-1),s.op,s.ot⟩:=by
   rw[bQ,if_neg c3,if_neg c28]
   by_cases c30:aj cs p=30
   ·rw[if_pos c30,if_pos]
    rw[h4]
    cases inL with
    |true=>rfl
    |false=>exact absurd ⟨c30,rfl⟩ c4
   ·rw[if_neg c30,if_neg c31]
  have hlow:∀i,i<p->(s.out.set p (-1)).getD i 0=s.out.getD i 0:=λi hi=>a9 (by omega)
  have hlv1:(if aj cs p=30 then lv++[(p:Int)] else lv).length<=p+1:=by split<;>(try simp)<;>omega
  have k3:=ih d inL (p+1) pt _ (out0.addPl p) r ⟨s.out.set p (-1),s.op,s.ot⟩ a h (by omega) hpt hlv1 h1 h2 (by simp[h3]) h4 hd ((hg.congr λk q1 q2=>hlow k q2).addPl c27 c29 c28 c31)
  cases r with
  |error x=>exact⟨by have:=k3.1;omega,k3.2.step (by omega) hs1⟩
  |ok q=>
  obtain⟨o,p1,pt1,lv1⟩:=q
  obtain⟨s2,m1,m2,m3⟩:=k3
  obtain⟨e1,_⟩:=cB f d inL (p+1) pt _ _ _ (by omega) hpt hlv1 h o p1 pt1 lv1 rfl
  exact⟨s2,⟨gg (p1:=p+1) (by omega) e1 (by rw[show p+1-p=1 by omega];exact g8 hs1) m1.run,m1.op,m1.ot,m1.len,λi hi=>(m1.low i (by omega)).trans (hlow i hi)⟩,m2,m3⟩
def r6(cs:List (Int×Int)):RS:=⟨List.replicate cs.length 0,[],[]⟩
def ej(cs:List (Int×Int)):Except Nat (List Int):=match bz cs cs.length 0 (r6 cs) with
 |.error x=> .error x
 |.ok s=>if s.op=[] then .ok s.out else .error cs.length
theorem fI(cs:List (Int×Int)):match cn cs with
  |.error x=>ej cs= .error x
  |.ok (o,_)=>∃out,ej cs= .ok out/\out.length=cs.length/\aA cs out o 0 cs.length:=by
 obtain⟨r,hr⟩:=jU (cs:=cs) (cs.length+1) 0 false 0 (List.replicate cs.length (-1)) [] .nil (Nat.zero_le _) (by simp) (by simp) (by omega)
 have k:=yy _ _ _ _ _ _ _ _ (r6 cs) 0 hr (Nat.zero_le _) (by simp) (by simp) rfl rfl (by simp[r6]) rfl (by omega) rfl
 have kk:=cB _ _ _ _ _ _ _ _ (Nat.zero_le _) (by simp) (by simp) hr
 have herr:∀x,bP cs 0 (r6 cs) x->ej cs= .error x:=λx h=>by
  unfold bP at h
  rw[Nat.sub_zero] at h
  rcases h with⟨_,h⟩|⟨rfl,s',h,ho⟩
  ·rw[ej,h]
  ·rw[ej,h]
   exact if_neg ho
 rw[cn,hr]
 cases r with
 |error x=>exact herr x k.2
 |ok q=>
  obtain⟨o,p,pt,lv⟩:=q
  obtain⟨s',m1,m2,m3⟩:=k
  obtain⟨f1,f2,_⟩:=kk o p pt lv rfl
  dsimp only
  by_cases he:p=cs.length
  ·rw[if_pos he]
   subst he
   refine⟨s'.out,?_,m1.len,m3⟩
   have:=m1.run
   rw[Nat.sub_zero] at this
   rw[ej,this]
   exact if_pos m1.op
  ·rw[if_neg he]
   refine herr p (bP.skip (Nat.zero_le _) f2 m1.run (.here (by omega) ?_))
   have ho:s'.op=[]:=m1.op
   rcases m2.resolve_left he with h|h
   ·rw[bQ,if_neg (by rw[h];decide),if_pos h,ho]
   ·rw[bQ,if_neg (by rw[h];decide),if_neg (by rw[h];decide),if_neg (by rw[h];decide),if_pos h,ho]
theorem lL{x:Int}(h:0<=x)(h2:x<18446744073709551616):IntKind.u64.wrap x=x:=by rw[IntKind.wrap_u64];omega
theorem WB{n:Nat}(h:n<4294967296):bits .and .u64 (n:Int) 4294967295=(n:Int):=by
 have e1:(BitVec.ofInt 64 (n:Int)).toNat=n:=by
  rw[BitVec.ofInt_natCast,BitVec.toNat_ofNat,Nat.mod_eq_of_lt (by omega)]
 have e2:(BitVec.ofInt 64 4294967295).toNat=2^32-1:=by rfl
 show IntKind.u64.wrap ((BitVec.ofInt 64 (n:Int)&&& BitVec.ofInt 64 4294967295).toNat:Int)=n
 rw[BitVec.toNat_and,e1,e2,Nat.and_two_pow_sub_one_eq_mod,Nat.mod_eq_of_lt (by omega)]
 exact lL (by omega) (by omega)
theorem vy(n:Nat)(hn:n<=1024):bN Tryz.prog 119 [.n .u64 1,.n .u64 n] [.v (.n .u64 0),.v (.n .u64 n)]:=by
 have ha:=WB (n:=n) (by omega)
 have hb:(n:Int) / 2^min 32 64=0:=Int.ediv_eq_zero_of_lt (by omega) (by rw[show(2:Int)^min 32 64=4294967296 by decide];omega)
 have hw:IntKind.u64.wrap (n:Int)=n:=lL (by omega) (by omega)
 refine ag aF TR ⟨by simp,by decide⟩ ?_
 simp only[aH]
 have h1:bits .and .u64 1 4294967295=1:=by decide
 have h2:(1:Int) / 2^min 32 64=0:=by decide
 have h3:IntKind.u64.wrap 0=0:=by decide
 have h4:bits .and .u64 0 4294967295=0:=by decide
 have h5:(0:Int) / 2^min 32 64=0:=by decide
 repeat first|with_reducible refine ao ?_|simp only[ha,hb,h1,h2,h3,h4,h5,hw,Int.one_mul,Int.zero_mul,Int.mul_zero,Int.add_zero,Int.zero_add,go_sem,simprocAttr]
 exact⟨[_,_],rfl,⟨rfl,rfl⟩,⟨rfl,rfl⟩,trivial⟩
theorem uf(n:Nat)(hn:n<=1024):bN Tryz.prog 85 [.n .u64 1,.n .u64 n] [.v (.n .u64 0),.v (.n .u64 n)]:=by
 refine ag aF TX ⟨by simp,by decide⟩ ?_
 simp only[aH]
 repeat first|with_reducible refine ao ?_|simp only[go_sem,simprocAttr]
 refine bO ([.n .u64 1,.n .u64 n]) (vy n hn) ?_
 repeat first|with_reducible refine ao ?_|simp only[go_sem,simprocAttr]
 exact⟨[_,_],rfl,⟨rfl,rfl⟩,⟨rfl,rfl⟩,trivial⟩
theorem kC{H:AH}{b:Nat}{x:AB}{v:AV}(hx:H.at b=some x):∀(m o:Nat),o+m<=x.size->(∀i,o<=i->i<o+m->x.get i=v)->H.loadN b o m=some (List.replicate m v)
 |0,o,_,_=>rfl
 |m+1,o,h,hg=>by
  rw[AH.loadN,AH.load,hx]
  simp only[show o<x.size by omega,if_true,hg o (Nat.le_refl _) (by omega)]
  rw[kC hx m (o+1) (by omega) (λi h1 h2=>hg i (by omega) (by omega))]
  rfl
theorem ma{H:AH}{b:Nat}{x:AB}{v:AV}(hb:b<1000000)(hx:H.at b=some x){m o:Nat}(hm:0<m)(h:o+m<=x.size)(hz:x.fzn=0):H.storeN b o (List.replicate m v)=some (H.upd b (x.putN o (List.replicate m v))):=by
 obtain⟨q,rfl⟩:∃q,m=q+1:=⟨m-1,by omega⟩
 rw[List.replicate_succ,jm hb,hx]
 simp only[List.length_replicate]
 rw[if_pos ⟨h,by omega⟩]
def rC(k:Nat)(i _j:Nat):AV:= .n .i64 (if i<k then-1 else 0)
theorem IX(n:Nat)(hn:n<=1024):PC Tryz.prog (λ_=>false) 116 [.sl 0 0 1 1,.n .i64 n] (ah [ae 1 3 [.n .i64 (-1)]]) (λv H'=>v= .os 0 n/\H'=ah [ai 3 1 n 0 (iC (List.replicate n (-1)))]) (λ_ _=>False):=by
 have h1:¬(n:Int)<0:=by omega
 have w1:IntKind.u64.wrap (n:Int)=n:=lL (by omega) (by omega)
 have w2:IntKind.u64.wrap 1=1:=by decide
 have w3:IntKind.i64.wrap (n:Int)=n:=am (by omega)
 have h2:¬(9223372036854775807:Int)<n:=by omega
 refine PC.vw (cI T6 ⟨by simp,by decide⟩ ?_)
 simp only[aH]
 repeat first|with_reducible refine GE.g ?_|simp only[h1,w1,w2,decide_false,go_sem,simprocAttr]
 refine dd ([.n .u64 1,.n .u64 n]) (uf n hn) ?_
 have hms:0<=(n:Int)/\(n:Int)<=n/\(n:Int)<=16777216/\8*n<=140737488355328/\n<1099511627776:=⟨by omega,by omega,by omega,by omega,by omega⟩
 have hm1:Nat.min 1 n=if n=0 then 0 else 1:=by
  by_cases h:n=0
  ·subst h;rfl
  ·rw[if_neg h];exact Nat.min_eq_left (by omega)
 repeat first|with_reducible refine GE.g ?_|simp only[h2,w3,hms,decide_false,go_sem,simprocAttr]
 have fin:Vw (λ_=>false) (λv H'=>v= .os 0 n/\H'=ah [ai 3 1 n 0 (iC (List.replicate n (-1)))]) (.os 1 n) (ah [ai 3 1 n 0 (rC n),ae 1 3 [.n .i64 (-1)]]):=
  gX [1] [] (.os 0 n) [ai 3 1 n 0 (iC (List.replicate n (-1)))] (.cr (.same (row:=rC n) (by simp only[go_sem,simprocAttr]) rfl (by decide) (λi j hi hj=>by simp only[rC,iC,if_pos hi,List.getD_eq_getElem?_getD,List.getElem?_replicate];rfl) (λ_ _ _ _=>rfl)) .nil) (Wv.os rfl) (by simp) pn ⟨rfl,rfl⟩
 have hround:∀(Q:AE->Tr AV->AH->Prop) m e H,(∃k,m+k=n/\(n=0\/0<k)/\e=aB [(7,.os 1 n),(8,.n .i64 (k:Nat))]/\H=ah [ai 3 1 n 0 (rC k),ae 1 3 [.n .i64 (-1)]])->(Q (.exit 0) (aB [(37,.b false),(36,.n .i64 n),(35,.os 1 n),(34,.n .i64 n),(7,.os 1 n),(8,.n .i64 n)]) (ah [ai 3 1 n 0 (rC n),ae 1 3 [.n .i64 (-1)]]))->GE Tryz.prog 48 (λ_=>false) (af Tryz.prog 116) C0 e H (pb 48 (λ_=>false) (λm e H=>∃k,m+k=n/\(n=0\/0<k)/\e=aB [(7,.os 1 n),(8,.n .i64 (k:Nat))]/\H=ah [ai 3 1 n 0 (rC k),ae 1 3 [.n .i64 (-1)]]) Q m) (λ_ _=>False):=by
  rintro Q m e H ⟨k,hk,hk0,rfl,rfl⟩ hQ
  have h0k:(0:Int)<=(k:Int):=by omega
  by_cases hkn:k<n
  ·have hkn':(k:Int)<n:=by omega
   repeat (first|with_reducible refine GE.seq ?_|with_reducible refine GE.block ?_|with_reducible refine GE.skip ?_|with_reducible refine GE.reg ?_|with_reducible refine GE.cond ?_|simp only[hkn',h0k,decide_true,go_sem,simprocAttr])
   refine GE.mixm aF 1 (by simp only[go_sem,simprocAttr,bI]) ?_
   have hs1:¬(k:Int)=0:=by omega
   have hs2:0<(k:Int):=by omega
   have hs3:(k:Int)<=n:=by omega
   obtain⟨q,hq⟩:∃q,Nat.min k (n-k)=q:=⟨_,rfl⟩
   have hq2:q<=k/\q<=n-k/\0<q/\(q=k\/q=n-k):=by
    rw[<-hq]
    have e1:=Nat.min_le_left k (n-k)
    have e2:=Nat.min_le_right k (n-k)
    have e3:min k (n-k)=k\/min k (n-k)=n-k:=by omega
    have e4:Nat.min k (n-k)=min k (n-k):=rfl
    rw[e4]
    omega
   have hq0:¬q=0:=by omega
   simp only[hs1,hs2,hs3,h0k,hkn',Int.le_refl,hq,hq0,wI,oY,Option.bind_some,Nat.mul_one,go_sem,simprocAttr]
   obtain⟨HH,hHH⟩:∃HH,HH=(ah [ai 3 1 n 0 (rC k),ae 1 3 [.n .i64 (-1)]]).setLow (2^40):=⟨_,rfl⟩
   have hat:HH.at 1=some (ai 3 1 n 0 (rC k)):=by rw[hHH];simp only[go_sem,simprocAttr]
   have hld:HH.loadN 1 0 q=some (List.replicate q (.n .i64 (-1))):=kC hat q 0 (by show 0+q<=n*1;omega) (λi _ hi=>by rw[hD];simp only[rC,if_pos (show i<k by omega)])
   have hst:HH.storeN 1 k (List.replicate q (.n .i64 (-1)))=some (HH.upd 1 ((ai 3 1 n 0 (rC k)).putN k (List.replicate q (.n .i64 (-1))))):=ma (by decide) hat hq2.2.2.1 (by show k+q<=n*1;omega) rfl
   rw[hHH] at hld hst
   have hone:(List.replicate q (AV.n .i64 (-1))).all AV.one=true:=by rw[List.all_replicate];simp[AV.one]
   have wq:IntKind.i64.wrap ((k:Int)+q)=((k+q:Nat):Int):=(am (by omega)).trans (by omega)
   rw[hld]
   dsimp only
   rw[hst,hone]
   simp only[wq,go_sem,simprocAttr]
   refine⟨m-q,_,_,by omega,b6.mk [1,0] [] ?_ ?_ (by simp) pn,k+q,by omega,by omega,rfl,rfl⟩
   ·exact ba
   ·exact .cr (.rows (x:=_) (by simp only[go_sem,simprocAttr]<;>rfl) (by rfl) (by rfl) (by rfl) (Nat.le_refl _) (by rw[if_neg (by simp)];exact Nat.le_refl _) (by decide) (λi j hi hj=>by
     cases Nat.lt_one_iff.1 hj
     rw[dl (by rw[List.length_replicate];omega),List.length_replicate]
     simp only[Nat.mul_one,Nat.add_zero]
     by_cases hh:k<=i/\i<k+q
     ·rw[if_pos hh,List.getElem?_replicate,if_pos (by omega)]
      simp only[rC,if_pos hh.2]
      rfl
     ·rw[if_neg hh,hD]
      simp only[rC]
      by_cases h3:i<k
      ·rw[if_pos h3,if_pos (by omega)]
      ·rw[if_neg h3,if_neg (by omega)]) (λ_ _ _ _=>rfl)) (.cr (.j1) .nil)
  ·have hkn':¬(k:Int)<n:=by omega
   obtain rfl:k=n:=by omega
   repeat first|with_reducible refine GE.g ?_|simp only[hkn',decide_false,go_sem,simprocAttr]
   exact hQ
 by_cases hn0:n=0
 ·rw[if_pos hn0] at hm1
  simp only[hm1,wI,oY,Option.bind_some,go_sem,simprocAttr]
  repeat first|with_reducible refine GE.g ?_|simp only[go_sem,simprocAttr]
  refine GE.loop (I:=λm e H=>∃k,m+k=n/\(n=0\/0<k)/\e=aB [(7,.os 1 n),(8,.n .i64 (k:Nat))]/\H=ah [ai 3 1 n 0 (rC k),ae 1 3 [.n .i64 (-1)]]) (m:=0) (b6.mk [1,0] [] ?_ ?_ (by simp) pn) ⟨0,by omega,by omega,rfl,rfl⟩ ?_
  ·exact ba
  ·exact .cr (.same (row:=λ_ j=>[AV.n .i64 0][j]?.getD .u) (row2:=rC 0) (by simp only[go_sem,simprocAttr]) rfl (by decide) (λi j hi=>by omega) (λ_ _ _ _=>rfl)) (.cr (.j1) .nil)
  intro m e H hI
  refine hround _ m e H hI ?_
  simp only[go_sem,simprocAttr]
  repeat first|with_reducible refine GE.g ?_|simp only[go_sem,simprocAttr]
  exact fin
 ·rw[if_neg hn0] at hm1
  have hn1:1<=n:=by omega
  simp only[hm1,hn1,wI,oY,Option.bind_some,go_sem,simprocAttr]
  repeat first|with_reducible refine GE.g ?_|simp only[go_sem,simprocAttr]
  refine GE.loop (I:=λm e H=>∃k,m+k=n/\(n=0\/0<k)/\e=aB [(7,.os 1 n),(8,.n .i64 (k:Nat))]/\H=ah [ai 3 1 n 0 (rC k),ae 1 3 [.n .i64 (-1)]]) (m:=(n-1)) (b6.mk [1,0] [] ?_ ?_ (by simp) pn) ⟨1,by omega,by omega,rfl,rfl⟩ ?_
  ·exact ba
  ·exact .cr (.put1 (row:=λ_ j=>[AV.n .i64 0][j]?.getD .u) (row2:=rC 1) (o:=0) (q:=0) (t:=0) (v:= .n .i64 (-1)) (by simp only[go_sem,simprocAttr]) rfl (by decide) (by omega) rfl (by omega) (λi j hi hj=>by cases Nat.lt_one_iff.1 hj;simp only[rC];by_cases hh:i=0<;>simp[hh]) (λ_ _ _ _=>rfl)) (.cr (.j1) .nil)
  intro m e H hI
  refine hround _ m e H hI ?_
  simp only[go_sem,simprocAttr]
  repeat first|with_reducible refine GE.g ?_|simp only[go_sem,simprocAttr]
  exact fin
theorem wB{P:Program}{n:Nat}{kk kk':Nat->Bool}{g:FuncId}{args:List AV}{e:Tr AV}{H:AH}{Q':AV->AH->Prop}{E':List PanicEntry->AH->Prop}{Q:AV->Tr AV->AH->Prop}{E:List PanicEntry->AH->Prop}
  (ρ M:List Nat) (L:List (Nat×AV)) (args2:List AV) (bl:List AB) (h:PC P kk' g args2 (ah bl) Q' E')
  (he:d9 (λb2=>ρ.reverse[b2]?) M H e L) (hh:cM (λb2=>ρ.reverse[b2]?) M H ρ bl) (hv:CR (λb2=>ρ.reverse[b2]?) M H args args2) (hl:bl.length<1000000) (hL:(L.all λp=>decide (p.1<1000000)&&p.2.pu 3)=true)
  (hkk:∀b,kk b=false) (hQ:∀v H',Q' v H'->Q v (aB L) H') (hE:∀c H',E' c H'->E c H'):de P n kk g args e H Q E:=by
 refine⟨h.1,λB σ a w args' hEn hH ha'=>?_⟩
 obtain⟨σ2,q1,q2,q3,q4,q5,q6⟩:=Wk.mkE (ob:=λ_=>none) ρ M he hh hl (λr x hx=>by cases hx) hEn hH
 rw[ax] at q2
 have hA:eg (λ_=>false) B σ w σ2 w:=by
  refine⟨Below.refl _ _,q3,λb c o hs=>?_,λ_ _ _=> .inl rfl,λc _ hn=>q5 c hn,λb x hb hs=>by cases hb⟩
  rw[q4] at hs
  obtain⟨b0,h1,h2⟩:=Option.bind_eq_some_iff.1 hs
  exact .inl ⟨b0,o,h2⟩
 have hargs:a8 σ2 args2 args'.toList:=by
  obtain⟨v1,v2⟩:=hv.get
  refine⟨v1.symm.trans ha'.1,λi v' hv'=>?_⟩
  obtain⟨v,g1,g2⟩:=v2 i v' hv'
  exact q6 g2 (ha'.2 i v g1)
 refine(h.2 B σ2 w args' q2 hargs).mono λen w' hp=>?_
 cases en with
 |returned u=>
  obtain⟨v,H',σ',r0,r1,r2,r3⟩:=hp
  have hall:=hA.trans r3.no
  refine⟨v,_,H',σ',hQ v H' r0,r1,⟨⟨q1.er.df,λt v hv=>?_⟩,q1.sz,q1.sm⟩,r2,hall.bel,hall.fzb,hall.im,hall.same,hall.fz,λb x hb _=>by rw[hkk b] at hb;cases hb⟩
  have e1:=(q1.er.get t v hv).pure 3 (uJ.nm hL t v hv)
  have e2:σ2.bare.le σ':=⟨λb x hx=>(by cases hx),λb hb=>False.elim hb,λc fs hf=>r3.fzb.le c fs hf⟩
  exact e1.mono e2
 |panicked c=>
  obtain⟨H',σ',r0,r1,r2⟩:=hp
  exact⟨H',σ',hE c H' r0,r1,hA.trans r2⟩
 |outgrown=>exact hp.elim
theorem rI(cs:List (Int×Int)):PC Tryz.prog (λ_=>false) 83 [.fs 2 cs.length (pI cs)] (ah [])
  (λv H'=>cs.length<=1024/\v= .p 0 0/\H'=ah [ai 3 1 (List.replicate cs.length (-1:Int)).length 0 (iC (List.replicate cs.length (-1))),ae 0 173 [.fs 2 cs.length (pI cs),.n .i64 0,.os 1 (List.replicate cs.length (-1:Int)).length]]) (λc _=>1024<cs.length/\c=fA 0 6):=by
 refine PC.vw (cI Ui ⟨by simp,by decide⟩ ?_)
 simp only[aH]
 by_cases hn:cs.length<=1024
 ·have hn':(cs.length:Int)<=1024:=by omega
  repeat first|with_reducible refine GE.g ?_|simp only[hn',decide_true,go_sem,simprocAttr]
  refine dd ([.b true,.n .i64 (0:Nat),.n .i64 6]) (bT (0:Nat) 6) ?_
  repeat first|with_reducible refine GE.g ?_|simp only[go_sem,simprocAttr]
  refine wB [0] [] [(7,.fs 2 cs.length (pI cs))] [.sl 0 0 1 1,.n .i64 cs.length] [ae 1 3 [.n .i64 (-1)]] (IX cs.length hn) ?_ ?_ ?_ (by simp) (by rfl) (λ_=>rfl) ?_ (λ_ _ h=>h.elim)
  ·exact ba
  ·exact .cr (.j1) .nil
  ·exact⟨Wv.sl rfl,Wv.n rfl,trivial⟩
  rintro v H' ⟨rfl,rfl⟩
  repeat first|with_reducible refine GE.g ?_|simp only[go_sem,simprocAttr]
  refine gX [0,1] [] (.p 0 0) [ai 3 1 (List.replicate cs.length (-1:Int)).length 0 (iC (List.replicate cs.length (-1))),ae 0 173 [.fs 2 cs.length (pI cs),.n .i64 0,.os 1 (List.replicate cs.length (-1:Int)).length]] ?_ (Wv.p rfl) (by simp) pn ⟨hn,rfl,rfl⟩
  rw[List.length_replicate]
  exact .cr .k1 (.cr (.j3) .nil)
 ·have hn':¬(cs.length:Int)<=1024:=by omega
  repeat first|with_reducible refine GE.g ?_|simp only[hn',decide_false,go_sem,simprocAttr]
  exact aM [] (fargs:=[.b false,.n .i64 (0:Int),.n .i64 6]) (cm.same rfl) (bh 0 6) ⟨by omega,rfl⟩
theorem aA.congrR{cs:List (Int×Int)}{out out2:List Int}:∀{o:Fo} {a b:Nat},aA cs out o a b->(∀k,a<=k->k<b->aj cs k≠30->out2.getD k 0=out.getD k 0)->aA cs out2 o a b
 |.nil,a,b,h,_=>h
 |.pl x y r,a,b,h,hc=>by
  obtain⟨h0,h1,h2,h3,h4⟩:=h
  have:=h4.le
  exact⟨h0,h1,h2,h3,h4.congrR λk k1 k2=>hc k (by omega) k2⟩
 |.br op x y u v r,a,b,h,hc=>by
  obtain⟨h0,h1,h2,⟨m,g1,g2,g3,g4,g5⟩,h4⟩:=h
  have hr:=h4.le
  have ha:aj cs a≠30:=by rw[h1];rcases h2 with h2|h2<;>rw[h2]<;>decide
  refine⟨h0,h1,h2,⟨m,by rw[hc a (Nat.le_refl _) (by omega) ha];exact g1,g2,g3,g4.congrR λk k1 k2=>hc k (by omega) (by omega),?_⟩,h4.congrR λk k1 k2=>hc k ?_ k2⟩
  ·rcases g5 with⟨q0,e,q1,q2,q3,q4,q5⟩|⟨q0,q1,q2⟩
   ·exact .inl ⟨q0,e,by rw[hc m (by omega) g3 (by rw[q0];decide)];exact q1,q2,q3,q4.congrR λk k1 k2=>hc k (by omega) (by omega),q5⟩
   ·exact .inr ⟨q0,q1,q2⟩
  ·rcases g5 with⟨_,e,_,q2,_,_,q5⟩|⟨_,_,q2⟩<;>omega
theorem jo{i:Nat}:∀(l pt:List Int) (v:Int),(∀z ∈ l,z.toNat≠i)->(bD pt v l).getD i 0=pt.getD i 0
 |[],_,_,_=>rfl
 |z::l,pt,v,h=>by
  rw[bD,jo l _ v λy hy=>h y (List.mem_cons_of_mem _ hy),a9 (λe=>h z (List.mem_cons_self ..) e.symm)]
def LV(cs:List (Int×Int))(lv:List Int):Prop:=∀z ∈ lv,aj cs z.toNat=30
theorem LV.ne{cs:List (Int×Int)}{lv:List Int}(h:LV cs lv){i:Nat}(hi:aj cs i≠30):∀z ∈ lv,z.toNat≠i:=λz hz e=>hi (e ▸ h z hz)
def Aq(cs:List (Int×Int))(p a:Nat)(pt:List Int):Except Nat LR->Prop
 |.error _=>True
 |.ok (o,p1,pt1,lv1)=>aA cs pt1 o a p1/\(∀i,i<p->aj cs i≠30->pt1.getD i 0=pt.getD i 0)/\LV cs lv1
theorem Ae{cs:List (Int×Int)}{L:Nat->Bool->Nat->List Int->List Int->Option (Except Nat LR)}(hL:wV cs L)(hP:∀d inL p pt lv r,p<=cs.length->pt.length=cs.length->lv.length<=p->LV cs lv->L d inL p pt lv=some r->Aq cs p p pt r)
  {d p:Nat} {inL:Bool} {pt lv:List Int} {r:Except Nat LR} (hp:p<cs.length) (hpt:pt.length=cs.length) (hlv:lv.length<=p) (hv:LV cs lv) (hop:aj cs p=27\/aj cs p=29) (h:d8 cs L d inL p pt lv=some r):Aq cs p p pt r:=by
 have p30:aj cs p≠30:=by rcases hop with h|h<;>rw[h]<;>decide
 rw[d8] at h
 split at h
 ·cases h;trivial
 split at h
 ·cases h
 ·cases h;trivial
 rename_i x p1 pt1 lv1 hl
 have hv0:LV cs (if aj cs p=29 then[] else lv):=by
  split
  ·intro z hz;cases hz
  ·exact hv
 have hl0:(if aj cs p=29 then[] else lv).length<=p+1:=by split<;>(try simp)<;>omega
 obtain⟨f1,f2,f3,f4,f5⟩:=hL _ _ _ _ _ _ (by omega) hpt hl0 hl x p1 pt1 lv1 rfl
 obtain⟨k1,k2,k3⟩:=hP _ _ _ _ _ _ (by omega) hpt hl0 hv0 hl
 split at h
 ·rename_i hc
  split at h
  ·cases h
  ·cases h;trivial
  rename_i y p2 pt2 lv2 hl2
  have hs3:(pt1.set p p1).length=cs.length:=by rw[List.length_set];exact f3
  obtain⟨e1,e2,e3,e4,e5⟩:=hL _ _ _ _ _ _ (by omega) hs3 (by omega) hl2 y p2 pt2 lv2 rfl
  obtain⟨m1,m2,m3⟩:=hP _ _ _ _ _ _ (by omega) hs3 (by omega) k3 hl2
  have n29:aj cs p≠29:=by rw[hc.1];decide
  rw[dx] at h
  split at h
  rotate_left
  ·cases h;trivial
  rename_i h31
  try rw[if_neg n29] at h
  cases h
  have get:∀i,i≠p1->i≠p2->((pt2.set p1 p2).set p2 p).getD i 0=pt2.getD i 0:=λi a b=>by rw[a9 b,a9 a]
  have low:∀i,i<p1->aj cs i≠30->((pt2.set p1 p2).set p2 p).getD i 0=(pt1.set p p1).getD i 0:=λi a b=>by rw[get i (by omega) (by omega)];exact m2 i (by omega) b
  refine⟨⟨rfl,rfl,hop,⟨p1,by rw[show bD ((pt2.set p1 p2).set p2 p) p2 []=(pt2.set p1 p2).set p2 p from rfl,low p (by omega) p30,dF (by omega)],⟨by omega,λh=>absurd h n29⟩,by omega,?_,.inl ⟨hc.2.2,p2,?_,by omega,by omega,?_,rfl⟩⟩,rfl⟩,λi hi h30=>?_,m3⟩
  ·exact k1.congrR λk a b c=>(low k b c).trans (a9 (by omega))
  ·show((pt2.set p1 p2).set p2 p).getD p1 0=_
   rw[a9 (by omega),dF (by omega)]
  ·exact m1.congrR λk a b c=>get k (by omega) (by omega)
  ·show((pt2.set p1 p2).set p2 p).getD i 0=_
   rw[low i (by omega) h30,a9 (by omega),k2 i (by omega) h30]
 ·rename_i hc
  rw[dx] at h
  split at h
  rotate_left
  ·cases h;trivial
  rename_i h31
  cases h
  have hlv2:LV cs (if aj cs p=29 then lv1 else[]):=by
   split
   ·exact k3
   ·intro z hz;cases hz
  have get:∀i,aj cs i≠30->i≠p->i≠p1->(bD ((pt1.set p p1).set p1 p) p1 (if aj cs p=29 then lv1 else[])).getD i 0=pt1.getD i 0:=λi a b c=>by rw[jo _ _ _ (hlv2.ne a),a9 c,a9 b]
  have hg:(bD ((pt1.set p p1).set p1 p) p1 (if aj cs p=29 then lv1 else[])).getD p 0=p1:=by rw[jo _ _ _ (hlv2.ne p30),a9 (by omega),dF (by omega)]
  refine⟨⟨rfl,rfl,hop,⟨p1,hg,⟨by omega,λ_=>h31.2⟩,by omega,k1.congrR λk a b c=>get k c (by omega) (by omega),.inr ⟨by rw[h31.2];decide,rfl,rfl⟩⟩,rfl⟩,λi hi h30=>?_,?_⟩
  ·rw[get i h30 (by omega) (by omega)];exact k2 i (by omega) h30
  ·split
   ·exact hv
   ·exact k3
theorem yz{cs:List (Int×Int)}:∀(f d:Nat) (inL:Bool) (p:Nat) (pt lv:List Int) (out0:Fo) (r:Except Nat LR) (a:Nat),lst cs f d inL p pt lv out0=some r->p<=cs.length->pt.length=cs.length->lv.length<=p->LV cs lv->aA cs pt out0 a p->Aq cs p a pt r:=by
 intro f
 induction f with
 |zero=>intro d inL p pt lv out0 r a h;cases h
 |succ f ih=>
  intro d inL p pt lv out0 r a h hp hpt hlv hv hg
  rw[lst] at h
  by_cases c1:cs.length<=p
  ·rw[if_pos c1] at h
   cases h
   exact⟨hg,λ_ _ _=>rfl,hv⟩
  rw[if_neg c1] at h
  by_cases c2:aj cs p=28\/aj cs p=31
  ·rw[if_pos c2] at h
   cases h
   exact⟨hg,λ_ _ _=>rfl,hv⟩
  rw[if_neg c2] at h
  by_cases c3:aj cs p=27\/aj cs p=29
  ·rw[if_pos c3] at h
   have hL:wV cs (λd inL p pt lv=>lst cs f d inL p pt lv .nil):=λd inL p pt lv r q1 q2 q3 q4=>cB f d inL p pt lv .nil r q1 q2 q3 q4
   cases hb:d8 cs (λd inL p pt lv=>lst cs f d inL p pt lv .nil) (d+1) inL p pt lv with
   |none=>rw[hb] at h;cases h
   |some rb=>
   rw[hb] at h
   have k:=Ae hL (λd inL p pt lv r q1 q2 q3 q4 q5=>ih d inL p pt lv .nil r p q5 q1 q2 q3 q4 rfl) (by omega) hpt hlv hv c3 hb
   have kk:=kM hL (by omega) hpt hlv hb
   cases rb with
   |error x=>cases h;trivial
   |ok q=>
   obtain⟨b,p',pt',lv'⟩:=q
   obtain⟨k1,k2,k3⟩:=k
   obtain⟨f1,f2,f3,f4,f5⟩:=kk.1 b p' pt' lv' rfl
   dsimp only at h
   obtain⟨x,y,hbr⟩:=kk.2 b p' pt' lv' rfl
   have hgood:aA cs pt' (out0.app b) a p':=(hg.congrR λk _ q2 q3=>k2 k q2 q3).app k1 (λ_=>by rw[hbr];rfl)
   have k4:=ih d inL p' pt' lv' (out0.app b) r a h f2 f3 f4 k3 hgood
   cases r with
   |error x=>trivial
   |ok q=>
   obtain⟨o,p1,pt1,lv1⟩:=q
   obtain⟨m1,m2,m3⟩:=k4
   exact⟨m1,λi hi h30=>(m2 i (by omega) h30).trans (k2 i hi h30),m3⟩
  rw[if_neg c3] at h
  by_cases c4:aj cs p=30/\inL=false
  ·rw[if_pos c4] at h
   cases h
   trivial
  rw[if_neg c4] at h
  have hlv1:(if aj cs p=30 then lv++[(p:Int)] else lv).length<=p+1:=by split<;>(try simp)<;>omega
  have hv1:LV cs (if aj cs p=30 then lv++[(p:Int)] else lv):=by
   split
   ·rename_i h30
    intro z hz
    rcases List.mem_append.1 hz with hz|hz
    ·exact hv z hz
    ·rw[List.mem_singleton.1 hz];exact h30
   ·exact hv
  have k4:=ih d inL (p+1) pt _ (out0.addPl p) r a h (by omega) hpt hlv1 hv1 (hg.addPl (λh=>c3 (.inl h)) (λh=>c3 (.inr h)) (λh=>c2 (.inl h)) (λh=>c2 (.inr h)))
  cases r with
  |error x=>trivial
  |ok q=>
  obtain⟨o,p1,pt1,lv1⟩:=q
  obtain⟨m1,m2,m3⟩:=k4
  exact⟨m1,λi hi h30=>m2 i (by omega) h30,m3⟩
theorem iR{cs:List (Int×Int)}{o:Fo}{pt:List Int}(h:cn cs= .ok (o,pt)):aA cs pt o 0 cs.length/\pt.length=cs.length:=by
 obtain⟨r,hr⟩:=jU (cs:=cs) (cs.length+1) 0 false 0 (List.replicate cs.length (-1)) [] .nil (Nat.zero_le _) (by simp) (by simp) (by omega)
 have k:=yz _ _ _ _ _ _ _ _ 0 hr (Nat.zero_le _) (by simp) (by simp) (λz hz=>by cases hz) rfl
 have kk:=cB _ _ _ _ _ _ _ _ (Nat.zero_le _) (by simp) (by simp) hr
 rw[cn,hr] at h
 cases r with
 |error x=>cases h
 |ok q=>
  obtain⟨o',p,pt',lv⟩:=q
  dsimp only at h
  by_cases he:p=cs.length
  ·rw[if_pos he] at h
   cases h
   subst he
   exact⟨k.1,(kk _ _ _ _ rfl).2.2.1⟩
  ·rw[if_neg he] at h
   cases h
end Go.Proofs.YtdpkgnmmikebdaaGreat