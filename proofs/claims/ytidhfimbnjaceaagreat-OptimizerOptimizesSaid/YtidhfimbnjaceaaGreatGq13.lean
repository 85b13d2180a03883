/- A part of the proof of OptimizerOptimizes: FwS FsB FvB FwK AcH FsC. No condition. -/
import Derived.Test.YtidhfimbnjaceaaGreatGq12
import Derived.Test.YtidhfimbnjaceaaGreatGq11
import Derived.Test.YtidhfimbnjaceaaGreatProg
set_option linter.unusedSimpArgs false
set_option linter.unusedVariables false
set_option linter.constructorNameAsVariable false
set_option maxRecDepth 100000
set_option maxHeartbeats 4000000
namespace Go.Proofs.YtidhfimbnjaceaaGreat
open Go.RowKit
theorem hY(l:List (Int×Int))(i j:Nat)(hj:j<2):(sC l i j).cell=true:=by
 have h5:j=0\/j=1\/j=2\/j=3\/j=4:=by omega
 rcases h5 with rfl|rfl|rfl|rfl|rfl<;>first|rfl|omega
def zb(st:List (List (Int×Int)))(i _j:Nat):AV:= .fs 2 (st.reverse.getD i []).length (sC (st.reverse.getD i []))
theorem jP(st:List (List (Int×Int)))(t:List (Int×Int))(i j:Nat)(hi:i<st.length):zb (t::st) i j=zb st i j:=by
 unfold zb;rw[List.reverse_cons,aF (by simpa using hi)]
theorem lH(st:List (List (Int×Int)))(t:List (Int×Int))(j:Nat):zb (t::st) st.length j= .fs 2 t.length (sC t):=by
 unfold zb;rw[List.reverse_cons]
 have:=aG (l:=st.reverse) (x:=t) (d:=[])
 rw[List.length_reverse] at this
 rw[this]
theorem t8{n0:Nat}{pf:(Int×Int)->Prop}(D:In->(Int×Int)->Bool)(V:In->List (Int×Int)->In×Bool×List (Int×Int))(g v:FuncId)(cs:List In)(fs0:List (Int×Int))(pt:List Int)(fin:oz (Int×Int))
  (hD:∀x,opOk x->∀f,a7 Tryz.prog g ([]++[aY x,sV f]++[]) [.v (.b (D x f))])
  (hV:∀x ∈ cs,∀fs:List (Int×Int),fs.length<1000000->(∀f ∈ fs,pf f)->a7 Tryz.prog v [aY x,.fs 2 fs.length (sC fs)] [.v (aY (V x fs).1),.v (.b (V x fs).2.1),.v (.fs 2 (V x fs).2.2.length (sC (V x fs).2.2))])
  (hV1:∀x ∈ cs,∀fs:List (Int×Int),(∀f ∈ fs,pf f)->(V x fs).2.2.length<=1/\∀f ∈ (V x fs).2.2,pf f)
  (hV2:∀x ∈ cs,∀fs:List (Int×Int),(∀f ∈ fs,pf f)->opOk (V x fs).1)
  (hcs:cs.length<400000) (hok:∀x ∈ cs,opOk x) (hn0:fs0.length<=n0) (hn1:n0<400000) (hpf:∀f ∈ fs0,pf f)
  (hpt:eU cs=some pt) (hptl:pt.length=cs.length) (hgo:bV D (λf g=>decide (f.1=g.1)&&decide (f.2=g.2)) V cs pt cs 0 ⟨[],fs0,[]⟩=some fin):
  a7 Tryz.prog 64 [.fs 5 cs.length (cC cs),.fs 2 fs0.length (sC fs0),.agg [.f g [] [],.f v [] []]] [.o 37 5 fin.out.length 0 (cC fin.out)]:=by
 have hpa:=i6 cs (by omega) pt hpt
 refine af ay QD ⟨by simp,by decide⟩ ?_
 simp only[aZ]
 have hfg:(AV.f g [] []).pu 3=true:=rfl
 have hfv:(AV.f v [] []).pu 3=true:=rfl
 repeat first|with_reducible refine ab ?_|simp only[go_sem,simprocAttr]
 refine cV hpa ?_
 simp only[go_sem,simprocAttr]
 refine GA.wk (Wk.mk (L:=[(0,.fs 5 cs.length (cC cs)),(1,.fs 2 fs0.length (sC fs0)),(5,.p 0 0),(7,.fs 1 pt.length (iC .i64 pt))]) (bl:=[aq 0 108 [.f g [] [],.f v [] []]]) [0] [1] ?_ ?_ ?_) ?_
 ·simp only[aB,aD,go_sem,simprocAttr]
  repeat' refine aa ?_ ?_
  all_goals first|trivial|exact Wv.same rfl|exact Wv.p rfl|skip
  refine Wv.cv (Cv.own (ty:=3) (z:=0) (by simp) (by simp only[go_sem,simprocAttr]) (λi j _ _=>rfl))
 ·refine .cons rfl (.ls) .nil
 ·simp
 with_reducible refine GA.seq ?_
 with_reducible refine GA.reg ?_
 simp only[go_sem,simprocAttr]
 with_reducible refine GA.seq ?_
 with_reducible refine GA.reg ?_
 simp only[go_sem,simprocAttr]
 refine GA.wk (Wk.nil 8 5 37 (by simp only[go_sem,simprocAttr]) (by decide) (by simp only[go_sem,simprocAttr])) ?_
 refine GA.wk (Wk.nil 9 1 104 (by simp only[go_sem,simprocAttr]) (by decide) (by simp only[go_sem,simprocAttr])) ?_
 simp only[cA]
 repeat first|with_reducible refine ab ?_|simp only[go_sem,simprocAttr]
 refine GA.loop (I:=λmm e H=>∃(k:Nat) (s:oz (Int×Int)),mm=cs.length-k/\k<=cs.length/\vL pf n0 k s/\bV D (λf g=>decide (f.1=g.1)&&decide (f.2=g.2)) V cs pt (cs.drop k) k s=some fin/\
   e=au [(0,.fs 5 cs.length (cC cs)),(1,.fs 2 s.fs.length (sC s.fs)),(5,.p 0 0),(7,.fs 1 pt.length (iC .i64 pt)),(18,.fs 5 cs.length (cC cs)),(19,.n .i64 cs.length),(20,.n .i64 k),(8,.os 1 s.out.length),(9,.os 2 s.op.length)]/\
   H=ao [am 104 1 s.op.length 0 (zb s.op),am 37 5 s.out.length 0 (cC s.out),aq 0 108 [.f g [] [],.f v [] []]]) (Wk.mk [2,1,0] [] ?_ ?_ ?_) ⟨0,⟨[],fs0,[]⟩,rfl,by omega,⟨by simp,by simp,by simp only;omega,hpf,by simp,by simp⟩,hgo,rfl,rfl⟩ ?_
 ·simp only[aB,aD,go_sem,simprocAttr]
  repeat' refine aa ?_ ?_
  all_goals first|exact bi|skip
 ·refine .cons rfl (.r0) (.cons rfl (.r0) (.cons rfl (.ls) .nil))
 ·simp
 rintro mm e H ⟨k,⟨out,fs,op⟩,rfl,hk,hinv,hs,rfl,rfl⟩
 have⟨hi1,hi2,hi3,hi4,hi5,hi6⟩:=hinv
 simp only at hi1 hi2 hi3 hi4 hi5 hi6
 repeat first|with_reducible refine ab ?_|simp only[go_sem,simprocAttr]
 refine⟨λh=>?_,λh=>?_⟩
 ·have hkn:k<cs.length:=by omega
  have h0:(0:Int)<=(k:Int):=by omega
  have hk1:k+1<=cs.length:=hkn
  have hm:cs.getD k dj ∈ cs:=by rw[List.getD_eq_getElem?_getD,List.getElem?_eq_getElem hkn];exact List.getElem_mem _
  rw[bw (d:=dj) hkn,bV] at hs
  obtain⟨s2,hst,hs⟩:=Option.bind_eq_some_iff.1 hs
  have hcc0:cC cs k 0= .n .i64 (cs.getD k dj).1:=gG cs k
  have hcc1:cC cs k 1= .n .i64 (cs.getD k dj).2.1:=kG cs k
  have hcc2:cC cs k 2= .n .i64 (cs.getD k dj).2.2.1:=lQ cs k
  have hcc3:cC cs k 3= .n .i64 (cs.getD k dj).2.2.2.1:=lP cs k
  have hcc4:cC cs k 4= .n .u32 (cs.getD k dj).2.2.2.2:=lu cs k
  generalize cs.getD k dj=x at hst hcc0 hcc1 hcc2 hcc3 hcc4 hm
  have hcv:=hV x hm fs (by omega) hi4
  have hv1:=hV1 x hm
  have hv2:=hV2 x hm fs hi4
  have key:=gP hinv hv1 hst
  have hv1:=hv1 fs hi4
  unfold b6 at hst
  simp only at hst
  generalize V x fs=r at hst hcv hv1 hv2
  obtain⟨y,rem,more⟩:=r
  obtain⟨opc,to,a,b,arg⟩:=x
  obtain⟨yopc,yto,ya,yb,yarg⟩:=y
  simp only[aY] at hst hcv hv1 hv2 hcc0 hcc1 hcc2 hcc3 hcc4
  repeat first|with_reducible refine ab ?_|simp only[h0,h,hcc0,hcc1,hcc2,hcc3,hcc4,go_sem,simprocAttr]
  refine fm hcv ?_
  repeat first|with_reducible refine ab ?_|simp only[go_sem,simprocAttr]
  have ht:rem=false\/rem=true:=by cases rem<;>simp
  refine⟨λhr=>?_,λhr=>?_⟩
  ·rw[hr,if_neg (by simp)] at hst
   cases hst
   repeat first|with_reducible refine ab ?_|simp only[go_sem,simprocAttr]
   refine⟨_,_,_,?_,Wk.mk [2,1,0] [] ?_ ?_ ?_,k+1,_,rfl,by omega,key,hs,rfl,rfl⟩
   ·omega
   ·simp only[aB,aD,go_sem,simprocAttr]
    repeat' refine aa ?_ ?_
    all_goals first|exact bi|skip
   ·refine .cons rfl (.k1) (.cons rfl (.k5) (.cons rfl (.ls) .nil))
   ·simp
  rw[hr,if_pos rfl] at hst
  obtain⟨⟨fs',op'⟩,hsw,rfl⟩:=Option.map_eq_some_iff.1 hst
  simp only at key hs
  have hinv2:=gN hinv hsw
  obtain⟨hj1,hj2,hj3,hj4,hj5⟩:=hinv2
  simp only at hj1 hj2 hj3 hj4 hj5
  (try simp only[go_sem,simprocAttr])
  iterate 4 (with_reducible refine GA.go ay rfl ?_;try simp only[go_sem,simprocAttr])
  have hy5:∀j,j<5->[AV.n .i64 yopc,AV.n .i64 yto,AV.n .i64 ya,AV.n .i64 yb,AV.n .u32 yarg][j]?.getD .u=cC [(yopc,yto,ya,yb,yarg)] 0 j:=λj hj=>by rcases cJ hj with rfl|rfl|rfl|rfl|rfl<;>rfl
  refine GA.wk (Wk.mk (L:=[(0,.fs 5 cs.length (cC cs)),(1,.fs 2 fs.length (sC fs)),(5,.p 0 0),(7,.fs 1 pt.length (iC .i64 pt)),(18,.fs 5 cs.length (cC cs)),(19,.n .i64 cs.length),(20,.n .i64 k),(8,.os 1 out.length),(9,.os 2 op.length),(10,.n .i64 k),(11,.p 3 0),(12,.p 4 0),(14,.fs 2 more.length (sC more)),(15,.n .i64 ((op.length:Int)-1))])
   (bl:=[aq 0 37 [.n .i64 yopc,.n .i64 yto,.n .i64 ya,.n .i64 yb,.n .u32 yarg],aq 0 37 [.n .i64 opc,.n .i64 to,.n .i64 a,.n .i64 b,.n .u32 arg],am 104 1 op.length 0 (zb op),am 37 5 out.length 0 (cC out),aq 0 108 [.f g [] [],.f v [] []]]) [4,3,2,1,0] [] ?_ ?_ ?_) ?_
  ·simp only[aB,aD,go_sem,simprocAttr]
   repeat' refine aa ?_ ?_
   all_goals first|exact bi|skip
  ·refine .cons rfl (.lsti (x:=_) (by simp only[go_sem,simprocAttr]<;>rfl) (by rfl) (by rfl) (by rfl) (by rfl) (by rfl) (by rfl) (by simp) (λi hi=>?_) (by rfl)) (.cons rfl (.lsti (x:=_) (by simp only[go_sem,simprocAttr]<;>rfl) (by rfl) (by rfl) (by rfl) (by rfl) (by rfl) (by rfl) (by simp) (λi hi=>?_) (by rfl)) (.cons rfl (.k1) (.cons rfl (.k5) (.cons rfl (.ls) .nil))))
   ·rcases cJ hi with rfl|rfl|rfl|rfl|rfl<;>simp only[go_sem,simprocAttr]
   ·rcases cJ hi with rfl|rfl|rfl|rfl|rfl<;>simp only[go_sem,simprocAttr]
  ·simp
  refine GA.cutQ (au [(0,.fs 5 cs.length (cC cs)),(1,.fs 2 fs'.length (sC fs')),(5,.p 0 0),(7,.fs 1 pt.length (iC .i64 pt)),(18,.fs 5 cs.length (cC cs)),(19,.n .i64 cs.length),(20,.n .i64 k),(8,.os 1 out.length),(9,.os 2 op'.length),(12,.p 3 0),(14,.fs 2 more.length (sC more))])
   (ao [aq 0 37 [.n .i64 yopc,.n .i64 yto,.n .i64 ya,.n .i64 yb,.n .u32 yarg],am 104 1 op'.length 0 (zb op'),am 37 5 out.length 0 (cC out),aq 0 108 [.f g [] [],.f v [] []]]) ?_ ?_
  rotate_left
  ·intro e' H' hw
   refine GA.wk hw ?_
   have hwo:=gM fs' [(yopc,yto,ya,yb,yarg)] g [] [] (.f v [] []) D (λz hz f=>by
    rw[List.mem_singleton.1 hz];exact hD _ hv2 f) rfl rfl (by omega) (by simp)
   have hwl:=d9 D fs' [(yopc,yto,ya,yb,yarg)]
   change a7 _ _ _ [.o 102 2 (eH D fs' [(yopc,yto,ya,yb,yarg)]).length 0 (sC (eH D fs' [(yopc,yto,ya,yb,yarg)]))] at hwo
   generalize eH D fs' [(yopc,yto,ya,yb,yarg)]=wfs at hwo hwl key hs
   have hlim:(wfs.length+more.length)*2<1099511627776/\(wfs.length+more.length)*16<=140737488355328/\wfs.length+more.length<=9223372036854775807:=by omega
   have hlio:(out.length+1)*5<1099511627776/\(out.length+1)*40<=140737488355328/\out.length+1<=9223372036854775807:=by omega
   repeat first|with_reducible refine ab ?_|simp only[hlim.1,hlim.2.1,hlim.2.2,hlio.1,hlio.2.1,hlio.2.2,decide_true,go_sem,simprocAttr]
   refine ai [4] (fargs:=[.fs 2 fs'.length (sC fs'),.agg [.f g [] [],.f v [] []],.fs 5 [(yopc,yto,ya,yb,yarg)].length (cC [(yopc,yto,ya,yb,yarg)])]) ?_ hwo (by simp only[go_sem,simprocAttr]) ?_
   ·refine .cons (.rfl (by rfl)) (.cons (.rfl (by rfl)) (.cons ?_ .nil))
    refine Cv.sl (x:=_) (by simp) (by simp only[go_sem,simprocAttr]<;>rfl) (by simp) (by simp) (by simp) (λi j hi hj=>?_) (λi j hi hj=>by rcases cJ hj with rfl|rfl|rfl|rfl|rfl<;>rfl)
    obtain rfl:i=0:=by simpa using hi
    rw[<-hy5 j hj]
    rcases cJ hj with rfl|rfl|rfl|rfl|rfl<;>simp only[go_sem,simprocAttr]
   repeat first|with_reducible refine ab ?_|simp only[hlim.1,hlim.2.1,hlim.2.2,hlio.1,hlio.2.1,hlio.2.2,decide_true,go_sem,simprocAttr]
   refine⟨_,_,_,?_,Wk.mk [2,8,0] [6] ?_ ?_ ?_,k+1,_,rfl,by omega,key,hs,rfl,rfl⟩
   ·omega
   ·simp only[aB,aD,go_sem,simprocAttr]
    repeat' refine aa ?_ ?_
    all_goals first|exact bi|skip
    refine Wv.cv (Cv.os (x:=_) (by simp) (by simp only[go_sem,simprocAttr]<;>rfl) (by simp only[go_sem,simprocAttr]<;>omega) (λi j hi hj=>?_) (λi j hi hj=>hY _ _ _ hj))
    rw[ig hj hi (by omega),aH i j hj]
    unfold sC
    by_cases hw:wfs.length<=i
    ·rw[if_pos hw]
     simp only[List.getD_eq_getElem?_getD,List.getElem?_append_right hw]
    ·rw[if_neg hw]
     simp only[List.getD_eq_getElem?_getD,List.getElem?_append_left (Nat.lt_of_not_le hw)]
   ·rw[show(out++[(yopc,yto,ya,yb,yarg)]).length=out.length+1 from by simp]
    refine .cons rfl (.k1) (.cons rfl (.snoc (by simp only[go_sem,simprocAttr]<;>rfl) (by simp) (by rfl) rfl (by decide) (by omega) (λi j hi _=>by unfold cC;rw[aF hi]) (λj hj=>by
     unfold cC
     rw[aG]
     exact(hy5 j hj).symm) (λi j _ hj=>by rcases cJ hj with rfl|rfl|rfl|rfl|rfl<;>rfl)) (.cons rfl (.ls) .nil))
   ·simp
  unfold cZ at hsw
  repeat first|with_reducible refine ab ?_|simp only[go_sem,simprocAttr]
  refine⟨λh1=>?_,λh1=>?_⟩
  ·rw[if_pos h1] at hsw
   injection hsw with hsw
   injection hsw with e1 e2
   subst e1 e2
   have hlo:op.length+1<1099511627776/\(op.length+1)*24<=140737488355328/\op.length+1<=9223372036854775807:=by omega
   repeat first|with_reducible refine ab ?_|simp only[hlo.1,hlo.2.1,hlo.2.2,decide_true,go_sem,simprocAttr]
   refine Wk.mk [4,6,1,0] [] ?_ ?_ ?_
   ·simp only[aB,aD,go_sem,simprocAttr]
    repeat' refine aa ?_ ?_
    all_goals first|exact bi|skip
   ·refine .cons rfl (.ls) (.cons rfl (.snoc (by simp only[go_sem,simprocAttr]<;>rfl) (by simp) (by rfl) rfl (by decide) (by omega) (λi j hi _=>jP _ _ _ _ hi) (λj hj=>by
     cases Nat.lt_one_iff.1 hj
     exact lH _ _ _) (λi j _ _=>rfl)) (.cons rfl (.k5) (.cons rfl (.ls) .nil)))
   ·simp
  rw[if_neg h1] at hsw
  repeat first|with_reducible refine ab ?_|simp only[go_sem,simprocAttr]
  refine⟨λh2=>?_,λh2=>?_⟩
  ·rw[if_pos h2] at hsw
   cases op with
   |nil=>cases hsw
   |cons t r=>
   simp only at hsw
   injection hsw with hsw
   injection hsw with e1 e2
   subst e1 e2
   have hrl:r.length<=k:=by simp only[List.length_cons] at hi2;omega
   have hsub:((r.length+1:Nat):Int)-1=(r.length:Int):=by omega
   have hz0:(0:Int)<=(r.length:Int):=by omega
   have hz1:(r.length:Int)<((r.length+1:Nat):Int):=by omega
   have hz2:r.length<r.length+1:=by omega
   have hg:(am 104 1 (r.length+1) 0 (zb (t::r))).get r.length= .fs 2 t.length (sC t):=by
    rw[bH];exact lH _ _ _
   repeat first|with_reducible refine ab ?_|simp only[hsub,hz0,hz1,hz2,hg,Nat.le_refl,go_sem,simprocAttr]
   refine Wk.mk [4,2,1,0] [] ?_ ?_ ?_
   ·simp only[aB,aD,go_sem,simprocAttr]
    repeat' refine aa ?_ ?_
    all_goals first|exact bi|skip
   ·refine .cons rfl (.ls) (.cons rfl (.put (n:=r.length+1) (q:=r.length) (by simp only[go_sem,simprocAttr]<;>rfl) (by simp) rfl hz2 rfl (by decide) (by omega) (λi j h hj=>?_) (λi j h hj=>rfl)) (.cons rfl (.k5) (.cons rfl (.ls) .nil)))
    cases Nat.lt_one_iff.1 hj
    by_cases e:i=r.length
    ·rw[if_pos e,e];exact(lH _ _ _).symm
    ·rw[if_neg e,jP _ _ _ _ (by omega),jP _ _ _ _ (by omega)]
   ·simp
  rw[if_neg h2] at hsw
  have hkp:k<pt.length:=by omega
  have hkpi:(k:Int)<(pt.length:Int):=by omega
  repeat first|with_reducible refine ab ?_|simp only[go_sem,simprocAttr]
  refine⟨λh3=>?_,λh3=>?_⟩
  ·rw[if_pos h3] at hsw
   split at hsw
   rotate_left
   ·cases hsw
   rename_i hrg
   obtain⟨q,hq⟩:∃q:Nat,pt.getD k 0=(q:Int):=⟨(pt.getD k 0).toNat,by omega⟩
   rw[hq] at hrg hsw
   rw[Int.toNat_natCast] at hsw
   have hql:q-k=((cs.take q).drop k).length:=by rw[List.length_drop,List.length_take];omega
   have hwo:=gM fs ((cs.take q).drop k) g [] [] (.f v [] []) D (λz hz f=>hD z (hok z (List.mem_of_mem_take (List.mem_of_mem_drop hz))) f) rfl rfl (by omega) (by rw[<-hql];omega)
   have hwl:=d9 D fs ((cs.take q).drop k)
   change a7 _ _ _ [.o 102 2 (eH D fs ((cs.take q).drop k)).length 0 (sC (eH D fs ((cs.take q).drop k)))] at hwo
   generalize eH D fs ((cs.take q).drop k)=wfs at hwo hwl hsw
   injection hsw with hsw
   injection hsw with e1 e2
   subst e1 e2
   have hpk:iC .i64 pt k 0= .n .i64 (q:Int):=by unfold iC;rw[hq]
   have hq0:(0:Int)<=(q:Int):=by omega
   have hq1:(k:Int)<=(q:Int):=hrg.1
   have hq2:(q:Int)<=(cs.length:Int):=hrg.2
   repeat first|with_reducible refine ab ?_|simp only[h0,hkpi,hpk,hq0,hq1,hq2,go_sem,simprocAttr]
   rw[hql]
   refine ai [] (fargs:=[.fs 2 fs.length (sC fs),.agg [.f g [] [],.f v [] []],.fs 5 ((cs.take q).drop k).length (cC ((cs.take q).drop k))]) ?_ hwo (by simp only[go_sem,simprocAttr]) ?_
   ·refine .cons (.rfl (by rfl)) (.cons (.rfl (by rfl)) (.cons (.fs (λi j hi hj=>?_)) .nil))
    unfold cC
    rw[List.getD_eq_getElem?_getD,List.getD_eq_getElem?_getD,List.getElem?_drop,List.getElem?_take_of_lt (by omega)]
   repeat first|with_reducible refine ab ?_|simp only[go_sem,simprocAttr]
   refine Wk.mk [4,2,1,0] [5] ?_ ?_ ?_
   ·simp only[aB,aD,go_sem,simprocAttr]
    repeat' refine aa ?_ ?_
    all_goals first|exact bi|skip
    exact Wv.cv (Cv.own (ty:=102) (z:=0) (by simp) (by simp only[go_sem,simprocAttr]) (λi j _ hj=>hY _ _ _ hj))
   ·refine .cons rfl (.ls) (.cons rfl (.k1) (.cons rfl (.k5) (.cons rfl (.ls) .nil)))
   ·simp
  rw[if_neg h3] at hsw
  by_cases h4:opc=31
  ·rw[if_pos h4] at hsw
   subst h4
   split at hsw
   rotate_left
   ·cases hsw
   rename_i hrg
   obtain⟨q,hq⟩:∃q:Nat,pt.getD k 0=(q:Int):=⟨(pt.getD k 0).toNat,by omega⟩
   rw[hq] at hrg hsw
   rw[Int.toNat_natCast] at hsw
   have hpk:iC .i64 pt k 0= .n .i64 (q:Int):=by unfold iC;rw[hq]
   have hq0:(0:Int)<=(q:Int):=by omega
   have hq1:(q:Int)<=(k:Int):=hrg.2
   have hq2:(q:Int)<(cs.length:Int):=by omega
   have hq3:(k:Int)<=(cs.length:Int):=by omega
   have hcq:cC cs q 0= .n .i64 (cs.getD q dj).1:=gG cs q
   repeat first|with_reducible refine ab ?_|simp only[h0,hkpi,hpk,hq0,hq1,hq2,hcq,decide_true,go_sem,simprocAttr]
   refine⟨λh5=>?_,λh5=>?_⟩
   ·rw[if_pos h5] at hsw
    have hql:k-q=((cs.take k).drop q).length:=by rw[List.length_drop,List.length_take];omega
    have hwo:=gM fs ((cs.take k).drop q) g [] [] (.f v [] []) D (λz hz f=>hD z (hok z (List.mem_of_mem_take (List.mem_of_mem_drop hz))) f) rfl rfl (by omega) (by rw[<-hql];omega)
    have hwl:=d9 D fs ((cs.take k).drop q)
    change a7 _ _ _ [.o 102 2 (eH D fs ((cs.take k).drop q)).length 0 (sC (eH D fs ((cs.take k).drop q)))] at hwo
    generalize eH D fs ((cs.take k).drop q)=wfs at hwo hwl hsw
    injection hsw with hsw
    injection hsw with e1 e2
    subst e1 e2
    repeat first|with_reducible refine ab ?_|simp only[h0,hkpi,hpk,hq0,hq1,hq2,hq3,go_sem,simprocAttr]
    rw[hql]
    refine ai [] (fargs:=[.fs 2 fs.length (sC fs),.agg [.f g [] [],.f v [] []],.fs 5 ((cs.take k).drop q).length (cC ((cs.take k).drop q))]) ?_ hwo (by simp only[go_sem,simprocAttr]) ?_
    ·refine .cons (.rfl (by rfl)) (.cons (.rfl (by rfl)) (.cons (.fs (λi j hi hj=>?_)) .nil))
     unfold cC
     rw[List.getD_eq_getElem?_getD,List.getD_eq_getElem?_getD,List.getElem?_drop,List.getElem?_take_of_lt (by omega)]
    repeat first|with_reducible refine ab ?_|simp only[go_sem,simprocAttr]
    refine Wk.mk [4,2,1,0] [5] ?_ ?_ ?_
    ·simp only[aB,aD,go_sem,simprocAttr]
     repeat' refine aa ?_ ?_
     all_goals first|exact bi|skip
     exact Wv.cv (Cv.own (ty:=102) (z:=0) (by simp) (by simp only[go_sem,simprocAttr]) (λi j _ hj=>hY _ _ _ hj))
    ·refine .cons rfl (.ls) (.cons rfl (.k1) (.cons rfl (.k5) (.cons rfl (.ls) .nil)))
    ·simp
   ·rw[if_neg h5] at hsw
    cases op with
    |nil=>cases hsw
    |cons t r=>
    simp only at hsw
    have hrl:r.length<=k:=by simp only[List.length_cons] at hi2;omega
    have htl:=hi5 t (List.mem_cons_self ..)
    have hbo:=vz fs t (by omega) (by omega)
    have hbl:=lR (λf g=>decide (f.1=g.1)&&decide (f.2=g.2)) fs t
    change a7 _ _ _ [.o 102 2 (ow (λf g=>decide (f.1=g.1)&&decide (f.2=g.2)) fs t).length 0 (sC (ow (λf g=>decide (f.1=g.1)&&decide (f.2=g.2)) fs t))] at hbo
    generalize ow (λf g=>decide (f.1=g.1)&&decide (f.2=g.2)) fs t=bfs at hbo hbl hsw
    injection hsw with hsw
    injection hsw with e1 e2
    subst e1 e2
    have hsub:((r.length+1:Nat):Int)-1=(r.length:Int):=by omega
    have hz0:(0:Int)<=(r.length:Int):=by omega
    have hz1:(r.length:Int)<((r.length+1:Nat):Int):=by omega
    have hz3:(r.length:Int)<=((r.length+1:Nat):Int):=by omega
    have hz2:r.length<r.length+1:=by omega
    have hg:(am 104 1 (r.length+1) 0 (zb (t::r))).get r.length= .fs 2 t.length (sC t):=by
     rw[bH];exact lH _ _ _
    repeat first|with_reducible refine ab ?_|simp only[hsub,hz0,hz1,hz2,hz3,hg,Int.le_refl,go_sem,simprocAttr]
    refine fm hbo ?_
    repeat first|with_reducible refine ab ?_|simp only[go_sem,simprocAttr]
    refine Wk.mk [4,2,1,0] [5] ?_ ?_ ?_
    ·simp only[aB,aD,go_sem,simprocAttr]
     repeat' refine aa ?_ ?_
     all_goals first|exact bi|skip
     exact Wv.cv (Cv.own (ty:=102) (z:=0) (by simp) (by simp only[go_sem,simprocAttr]) (λi j _ hj=>hY _ _ _ hj))
    ·refine .cons rfl (.ls) (.cons rfl (.pop (n:=r.length+1) (by simp only[go_sem,simprocAttr]<;>rfl) rfl (by decide) (by omega) (λi j hi _=>jP _ _ _ _ hi) (λi j _ hj=>rfl)) (.cons rfl (.k5) (.cons rfl (.ls) .nil)))
    ·simp
  rw[if_neg h4] at hsw
  injection hsw with hsw
  injection hsw with e1 e2
  subst e1 e2
  repeat first|with_reducible refine ab ?_|simp only[h4,decide_false,go_sem,simprocAttr]
  refine Wk.mk [4,2,1,0] [] ?_ ?_ ?_
  ·simp only[aB,aD,go_sem,simprocAttr]
   repeat' refine aa ?_ ?_
   all_goals first|exact bi|skip
  ·refine .cons rfl (.ls) (.cons rfl (.k1) (.cons rfl (.k5) (.cons rfl (.ls) .nil)))
  ·simp
 ·have hkn:k=cs.length:=by omega
  subst hkn
  rw[List.drop_length,bV] at hs
  cases hs
  repeat first|with_reducible refine ab ?_|simp only[go_sem,simprocAttr]
  refine⟨[_],rfl,.o (x:=_) (by simp only[go_sem,simprocAttr];rfl) (by rfl) (by rfl) (by rfl) (by decide) (Nat.le_refl _) (Nat.le_refl _) (λi j _ hj=>aH i j hj) (λi j _ hj=>bh i hj) rfl .nil⟩
def ef:List (Int×Int)->Int->Int
 |[],r=>r
 |f::l,r=>if f.1=r then f.2 else ef l r
theorem lZ(l:List (Int×Int))(r:Int)(hl:l.length<1000000):a7 Tryz.prog 67 [.fs 2 l.length (sC l),.n .i64 r] [.v (.n .i64 (ef l r))]:=by
 refine af ay WU ⟨by simp,by decide⟩ ?_
 simp only[aZ]
 repeat first|with_reducible refine ab ?_|simp only[go_sem,simprocAttr]
 refine GA.loop (I:=λmm e H=>∃k:Nat,mm=l.length-k/\k<=l.length/\ef l r=ef (l.drop k) r/\e=au [(1,.n .i64 r),(7,.fs 2 l.length (sC l)),(8,.n .i64 l.length),(9,.n .i64 k)]/\H=ao []) (Wk.mk [] [] ?_ ?_ ?_) ⟨0,rfl,by omega,rfl,rfl,rfl⟩ ?_
 ·simp only[aB,aD,go_sem,simprocAttr]
  repeat' refine aa ?_ ?_
  all_goals first|exact bi|skip
 ·trivial
 ·simp
 rintro mm e H ⟨k,rfl,hk,hs,rfl,rfl⟩
 repeat first|with_reducible refine ab ?_|simp only[go_sem,simprocAttr]
 refine⟨λh=>?_,λh=>?_⟩
 ·have hk':k<l.length:=by omega
  have h0:(0:Int)<=(k:Int):=by omega
  rw[bw (d:=(0,0)) hk',ef] at hs
  repeat first|with_reducible refine ab ?_|simp only[h0,h,Vh,Vg,go_sem,simprocAttr]
  refine⟨λh1=>?_,λh1=>?_⟩
  ·rw[if_pos h1] at hs
   repeat first|with_reducible refine ab ?_|simp only[go_sem,simprocAttr]
   exact ah (by rw[hs]) rfl
  ·rw[if_neg h1] at hs
   repeat first|with_reducible refine ab ?_|simp only[go_sem,simprocAttr]
   refine⟨_,_,_,?_,Wk.mk [] [] ?_ ?_ ?_,k+1,rfl,by omega,hs,rfl,rfl⟩
   ·omega
   ·simp only[aB,aD,go_sem,simprocAttr]
    repeat' refine aa ?_ ?_
    all_goals first|exact bi|skip
   ·trivial
   ·simp
 ·have:k=l.length:=by omega
  rw[this,List.drop_length,ef] at hs
  repeat first|with_reducible refine ab ?_|simp only[go_sem,simprocAttr]
  exact ah (by rw[hs]) rfl
def kc(x:In)(f:Int×Int):Bool:=decide (ar x.1 x.2.1=f.1)||decide (ar x.1 x.2.1=f.2)
theorem qT(x:In)(f:Int×Int)(h:opOk x):a7 Tryz.prog 65 [aY x,sV f] [.v (.b (kc x f))]:=by
 obtain⟨op,to,a,b,arg⟩:=x
 refine af ay Qs ⟨by simp,by decide⟩ ?_
 simp only[aZ,sV,aY,kc]
 repeat first|with_reducible refine ab ?_|simp only[go_sem,simprocAttr]
 refine cV (ik op to a b arg h) ?_
 by_cases h1:ar op to=f.1
 ·repeat first|with_reducible refine ab ?_|simp only[h1,decide_true,go_sem,simprocAttr]
  exact ah (by simp) rfl
 ·repeat first|with_reducible refine ab ?_|simp only[h1,decide_false,go_sem,simprocAttr]
  exact ah (by simp) rfl
theorem gv{P:Program}{f:FuncId}{args:List AV}{a b:AV}{esz:Nat}{row:Nat->Nat->AV}(h:a7 P f args [.v a,.v b,.v .sl0]):a7 P f args [.v a,.v b,.v (.fs esz 0 row)]:=by
 refine⟨h.1,λφ w args' hφ ha=>(h.2 φ w args' hφ ha).mono λe w' hq=>?_⟩
 cases e with
 |panicked c=>exact hq.elim
 |outgrown=>exact hq.elim
 |returned u=>
  obtain⟨v,Hc,σ',⟨l,rfl,hr⟩,hv,hHc,hbel,hfz⟩:=hq
  match l,hr with
  |[x,y,z],hr=>
   obtain⟨⟨rfl,h1⟩,⟨rfl,h2⟩,⟨rfl,h3⟩,_⟩:=hr
   obtain⟨us,hus,hback⟩:=gk hv
   refine⟨_,Hc,σ',⟨[x,y,.fs esz 0 row],rfl,⟨rfl,h1⟩,⟨rfl,h2⟩,⟨rfl,rfl⟩,trivial⟩,hback rfl ⟨hus.1,λi v hi=>?_⟩,hHc,hbel,hfz⟩
   match i with
   |0=>exact hus.2 0 v hi
   |1=>exact hus.2 1 v hi
   |2=>
    have h0:=hus.2 2 .sl0 rfl
    simp only[List.getElem?_cons_succ,List.getElem?_cons_zero,Option.some.injEq] at hi
    subst hi
    generalize us.getD 2 undef=u2 at h0
    cases h0
    exact .fs0 _ _ _ _
   |i+3=>simp at hi
def fZ(op to a b arg:Int):In×Bool×List (Int×Int):=
 if op=36 then(if a=to then((op,to,a,b,arg),false,[]) else((op,to,a,b,arg),true,[(to,a)])) else((op,to,a,b,arg),true,[])
def eW(x:In)(fs:List (Int×Int)):In×Bool×List (Int×Int):=fZ x.1 x.2.1 (ef fs x.2.2.1) (ef fs x.2.2.2.1) x.2.2.2.2
theorem qS(x:In)(fs:List (Int×Int))(hl:fs.length<1000000):a7 Tryz.prog 66 [aY x,.fs 2 fs.length (sC fs)] [.v (aY (eW x fs).1),.v (.b (eW x fs).2.1),.v (.fs 2 (eW x fs).2.2.length (sC (eW x fs).2.2))]:=by
 obtain⟨op,to,a,b,arg⟩:=x
 have hsa:=lZ fs a hl
 have hsb:=lZ fs b hl
 show a7 _ _ _ [.v (aY (fZ op to (ef fs a) (ef fs b) arg).1),.v (.b (fZ op to (ef fs a) (ef fs b) arg).2.1),.v (.fs 2 (fZ op to (ef fs a) (ef fs b) arg).2.2.length (sC (fZ op to (ef fs a) (ef fs b) arg).2.2))]
 generalize ef fs a=a' at hsa ⊢
 generalize ef fs b=b' at hsb ⊢
 unfold fZ
 by_cases h1:op=36
 ·subst h1
  rw[if_pos rfl]
  by_cases h2:a'=to
  ·rw[if_pos h2]
   subst h2
   refine gv ?_
   refine af ay v9 ⟨by simp,by decide⟩ ?_
   simp only[aZ,aY]
   repeat first|with_reducible refine ab ?_|simp only[go_sem,simprocAttr]
   refine fm hsa ?_
   repeat first|with_reducible refine ab ?_|simp only[go_sem,simprocAttr]
   first
    |refine aa (by first|decide|simp) ?_
    |skip
   refine fm hsb ?_
   repeat first|with_reducible refine ab ?_|simp only[decide_true,go_sem,simprocAttr]
   exact bB (.v rfl rfl (.v rfl rfl (.v rfl rfl .nil)))
  ·rw[if_neg h2]
   refine af ay v9 ⟨by simp,by decide⟩ ?_
   simp only[aZ,aY]
   repeat first|with_reducible refine ab ?_|simp only[go_sem,simprocAttr]
   refine fm hsa ?_
   repeat first|with_reducible refine ab ?_|simp only[go_sem,simprocAttr]
   first
    |refine aa (by first|decide|simp) ?_
    |skip
   refine fm hsb ?_
   repeat first|with_reducible refine ab ?_|simp only[decide_true,h2,decide_false,go_sem,simprocAttr]
   refine GA.cut' (au [(4,.p 0 0),(5,.b true),(6,.fs 2 1 (sC [(to,a')]))]) (ao [aq 0 37 [.n .i64 36,.n .i64 to,.n .i64 a',.n .i64 b',.n .u32 arg]]) ?_ ?_
   ·refine GA.frkm ay 1 (by simp only[eC,go_sem,simprocAttr]) ?_
    simp only[go_sem,simprocAttr]
    repeat' refine aa ?_ ?_
    all_goals first
     |decide
     |(refine Wk.mk [1] [2] ?_ ?_ ?_
       ·simp only[aB,go_sem,simprocAttr]
        repeat' refine aa ?_ ?_
        ·exact Wv.p rfl
        ·exact Wv.same rfl
        ·refine Wv.cv (Cv.sl (x:=_) (by simp) (by simp only[go_sem,simprocAttr];rfl) (by simp only[go_sem,simprocAttr];first|done|decide) (by decide) (by simp only[go_sem,simprocAttr];first|done|decide) (λi j hi hj=>?_) (λi j _ _=>by unfold sC;split<;>rfl))
         obtain rfl:i=0:=by omega
         have hj2:j=0\/j=1:=by omega
         rcases hj2 with rfl|rfl<;>simp only[go_sem,simprocAttr]<;>rfl
       ·refine .cons rfl (.lsti (x:=_) (by simp only[go_sem,simprocAttr];rfl) (by rfl) (by rfl) (by rfl) (by rfl) (by rfl) (by rfl) (by simp) (λi hi=>?_) rfl) .nil
        rcases cJ hi with rfl|rfl|rfl|rfl|rfl<;>simp only[go_sem,simprocAttr]
       ·simp)
   ·repeat first|with_reducible refine ab ?_|simp only[go_sem,simprocAttr]
    exact bB (.v rfl rfl (.v rfl rfl (.v rfl rfl .nil)))
 ·rw[if_neg h1]
  refine gv ?_
  refine af ay v9 ⟨by simp,by decide⟩ ?_
  simp only[aZ,aY]
  repeat first|with_reducible refine ab ?_|simp only[go_sem,simprocAttr]
  refine fm hsa ?_
  repeat first|with_reducible refine ab ?_|simp only[go_sem,simprocAttr]
  first
   |refine aa (by first|decide|simp) ?_
   |skip
  refine fm hsb ?_
  repeat first|with_reducible refine ab ?_|simp only[h1,decide_false,go_sem,simprocAttr]
  exact bB (.v rfl rfl (.v rfl rfl (.v rfl rfl .nil)))
theorem tT(x:In)(fs:List (Int×Int))(hx:opOk x):((eW x fs).2.2.length<=1/\∀f ∈ (eW x fs).2.2,True)/\opOk (eW x fs).1:=by
 refine⟨⟨?_,λ_ _=>trivial⟩,?_⟩
 ·unfold eW fZ
  split
  ·split<;>simp
  ·simp
 ·unfold eW fZ
  split
  ·split<;>exact hx
  ·exact hx
theorem sW{na:Nat}{ra:Nat->Nat->AV}{regs par:Int}{cs:List In}{pt:List Int}{fin:oz (Int×Int)}(hcs:cs.length<400000)(hok:∀x ∈ cs,opOk x)(hpt:eU cs=some pt)(hptl:pt.length=cs.length)
  (hgo:bV kc (λf g=>decide (f.1=g.1)&&decide (f.2=g.2)) eW cs pt cs 0 ⟨[],[],[]⟩=some fin):
  a7 Tryz.prog 36 [ae na ra regs par cs] [.o 37 5 fin.out.length 0 (cC fin.out)]:=by
 have hw:=t8 (n0:=0) (pf:=λ_=>True) kc eW 65 66 cs [] pt fin (λx hx f=>qT x f hx) (λx hx fs hl _=>qS x fs hl) (λx hx fs _=>(tT x fs (hok x hx)).1) (λx hx fs _=>(tT x fs (hok x hx)).2) hcs hok (by simp) (by decide) (by simp) hpt hptl hgo
 refine af ay QG ⟨by simp,by decide⟩ ?_
 simp only[aZ,ae]
 repeat first|with_reducible refine ab ?_|simp only[go_sem,simprocAttr]
 refine ai [] (fargs:=[.fs 5 cs.length (cC cs),.fs 2 ([]:List (Int×Int)).length (sC []),.agg [.f 65 [] [],.f 66 [] []]]) (.cons (.rfl (by rfl)) (.cons (.sl0 _ _) (.cons (.rfl (by rfl)) .nil))) hw (by simp only[go_sem,simprocAttr]) ?_
 repeat first|with_reducible refine ab ?_|simp only[go_sem,simprocAttr]
 refine⟨[_],rfl,.o (x:=_) (by simp only[go_sem,simprocAttr];rfl) (by rfl) (by rfl) (by rfl) (by decide) (Nat.le_refl _) (Nat.le_refl _) (λi j _ hj=>aH i j hj) (λi j _ hj=>bh i hj) rfl .nil⟩
theorem mw(l:List In)(g:FuncId)(c1 c2:List AV)(p:In->Bool)(hp:∀f ∈ l,a7 Tryz.prog g (c1++[aY f]++c2) [.v (.b (p f))])(hl:l.length<1000000)(hpu:(c1.all (AV.pu 2)&&c2.all (AV.pu 2))=true):
  a7 Tryz.prog 72 [.fs 5 l.length (cC l),.f g c1 c2] [.v (.n .i64 (idx p l 0))]:=by
 refine af ay L0 ⟨by simp,by decide⟩ ?_
 simp only[aZ]
 repeat first|with_reducible refine ab ?_|simp only[go_sem,simprocAttr]
 refine GA.loop (I:=λm e H=>∃k:Nat,m=l.length-k/\k<=l.length/\idx p l 0=idx p (l.drop k) k/\e=au [(0,.fs 5 l.length (cC l)),(1,.f g c1 c2),(6,.fs 5 l.length (cC l)),(7,.n .i64 l.length),(8,.n .i64 k)]/\H=ao []) (Wk.mk [] [] ?_ ?_ ?_) ⟨0,rfl,by omega,rfl,rfl,rfl⟩ ?_
 ·simp only[aB,aD,go_sem,simprocAttr]
  repeat' refine aa ?_ ?_
  all_goals first|exact bi|skip
  all_goals exact Wv.same hpu
 ·trivial
 ·decide
 rintro m e H ⟨k,rfl,hk,hs,rfl,rfl⟩
 repeat first|with_reducible refine ab ?_|simp only[go_sem,simprocAttr]
 refine⟨λh=>?_,λh=>?_⟩
 ·have hk':k<l.length:=by omega
  have h0:(0:Int)<=(k:Int):=by omega
  rw[bw (d:=(0,0,0,0,0)) hk',idx] at hs
  have hm:l.getD k (0,0,0,0,0) ∈ l:=by rw[List.getD_eq_getElem?_getD,List.getElem?_eq_getElem hk'];exact List.getElem_mem _
  repeat first|with_reducible refine ab ?_|simp only[h0,h,gG,kG,lQ,lP,lu,go_sem,simprocAttr]
  refine ai [] (fargs:=c1++[aY (l.getD k (0,0,0,0,0))]++c2) ?_ (hp _ hm) (by decide) ?_
  ·refine jd.same ?_
   simp only[List.all_append,Bool.and_eq_true] at hpu ⊢
   exact⟨⟨cj hpu.1,rfl⟩,cj hpu.2⟩
  repeat first|with_reducible refine ab ?_|simp only[go_sem,simprocAttr]
  refine⟨λh1=>?_,λh1=>?_⟩
  ·repeat first|with_reducible refine ab ?_|simp only[go_sem,simprocAttr]
   rw[if_pos h1] at hs
   exact ah (by rw[hs]) rfl
  ·repeat first|with_reducible refine ab ?_|simp only[go_sem,simprocAttr]
   rw[if_neg (by rw[h1];simp)] at hs
   refine⟨_,_,_,?_,Wk.mk [] [] ?_ ?_ ?_,k+1,rfl,by omega,hs,rfl,rfl⟩
   ·omega
   ·simp only[aB,aD,go_sem,simprocAttr]
    repeat' refine aa ?_ ?_
    all_goals first|exact bi|skip
    all_goals exact Wv.same hpu
   ·trivial
   ·decide
 ·repeat first|with_reducible refine ab ?_|simp only[go_sem,simprocAttr]
  have:k=l.length:=by omega
  subst this
  rw[List.drop_length,idx] at hs
  exact ah (by rw[hs]) rfl
def di(op:Int):Bool:=bI op||decide (op=3)||decide (op=32)||decide (op=33)
theorem iM(op:Int):a7 Tryz.prog 71 [.n .i64 op] [.v (.b (di op))]:=by
 refine af ay L7 ⟨by simp,by decide⟩ ?_
 simp only[aZ]
 repeat first|with_reducible refine ab ?_|simp only[go_sem,simprocAttr]
 refine cV (ep op) ?_
 unfold di
 cases ha:bI op
 ·by_cases h3:op=3
  ·repeat first|with_reducible refine ab ?_|simp only[h3,decide_true,go_sem,simprocAttr]
   exact ah rfl rfl
  ·by_cases h32:op=32
   ·have h3':¬(32:Int)=3:=by decide
    repeat first|with_reducible refine ab ?_|simp only[h32,h3',decide_true,decide_false,go_sem,simprocAttr]
    exact ah rfl rfl
   ·repeat first|with_reducible refine ab ?_|simp only[h3,h32,decide_false,go_sem,simprocAttr]
    exact ah (by simp) rfl
 ·repeat first|with_reducible refine ab ?_|simp only[go_sem,simprocAttr]
  exact ah rfl rfl
def cE(f x:In):Bool:=dL f (x.1,f.2.1,x.2.2.1,x.2.2.2.1,x.2.2.2.2)
theorem pr(f x:In):a7 Tryz.prog 74 [aY f,aY x] [.v (.b (cE f x))]:=by
 obtain⟨op,to,a,b,arg⟩:=x
 refine af ay LO ⟨by simp,by decide⟩ ?_
 simp only[aZ,aY]
 repeat first|with_reducible refine ab ?_|simp only[pj,lq,iG,pF,SH.row,go_sem,simprocAttr]
 refine ah ?_ rfl
 unfold cE
 rw[ka]
 simp
theorem qd(f x:In)(row:Nat->AV)(hrow:∀j,j<5->row j=qG x j):a7 Tryz.prog 73 [aY f,.fp 5 row 0] [.v (.b (cE f x))]:=by
 have hc:=pr f x
 obtain⟨op,to,a,b,arg⟩:=x
 refine af ay LR ⟨by simp,by decide⟩ ?_
 have h0:row 0= .n .i64 op:=hrow 0 (by decide)
 have h1:row 1= .n .i64 to:=hrow 1 (by decide)
 have h2:row 2= .n .i64 a:=hrow 2 (by decide)
 have h3:row 3= .n .i64 b:=hrow 3 (by decide)
 have h4:row 4= .n .u32 arg:=hrow 4 (by decide)
 simp only[aZ,aY] at hc ⊢
 repeat first|with_reducible refine ab ?_|simp only[h0,h1,h2,h3,h4,go_sem,simprocAttr]
 refine fm hc ?_
 repeat first|with_reducible refine ab ?_|simp only[go_sem,simprocAttr]
 exact ah rfl rfl
def kb(x f:In):Bool:=
 (decide (0<=ar x.1 x.2.1)&&(decide (ar x.1 x.2.1=f.2.1)||decide (ar x.1 x.2.1=f.2.2.1)||decide (ar x.1 x.2.1=f.2.2.2.1)))||(decide (x.1=4)&&decide (f.1=3)&&decide (x.2.2.2.2=f.2.2.2.2))
theorem r8(x f:In)(h:opOk x):a7 Tryz.prog 69 [aY x,aY f] [.v (.b (kb x f))]:=by
 obtain⟨op,to,a,b,arg⟩:=x
 obtain⟨fop,fto,fa,fb,farg⟩:=f
 have hw:=ik op to a b arg h
 unfold kb
 simp only
 generalize ar op to=w at hw ⊢
 refine af ay Mo ⟨by simp,by decide⟩ ?_
 simp only[aZ,aY]
 repeat first|with_reducible refine ab ?_|simp only[go_sem,simprocAttr]
 refine cV hw ?_
 cases d0:decide (0<=w)<;>cases d1:decide (w=fto)<;>cases d2:decide (w=fa)<;>cases d3:decide (w=fb)<;>cases d4:decide (op=4)<;>cases d5:decide (fop=3)
 all_goals
  repeat first|with_reducible refine ab ?_|simp only[d0,d1,d2,d3,d4,d5,go_sem,simprocAttr]
  first
   |exact ah (by simp only[Bool.and_true,Bool.true_and,Bool.false_and,Bool.and_false,Bool.or_true,Bool.true_or,Bool.false_or,Bool.or_false]) rfl
   |exact ah rfl rfl
def dZ(x:In)(fs:List In):In×Bool×List In:=
 if di x.1=true then
  (if 0<=idx (λf=>cE f x) fs 0 then
   (if(fs.getD (idx (λf=>cE f x) fs 0).toNat (0,0,0,0,0)).2.1=x.2.1 then(x,false,[]) else((36,x.2.1,(fs.getD (idx (λf=>cE f x) fs 0).toNat (0,0,0,0,0)).2.1,-1,0),true,[]))
  else if x.2.1=x.2.2.1\/x.2.1=x.2.2.2.1 then(x,true,[]) else(x,true,[x]))
 else(x,true,[])
theorem r7(x:In)(fs:List In)(hl:fs.length<1000000):a7 Tryz.prog 70 [aY x,.fs 5 fs.length (cC fs)] [.v (aY (dZ x fs).1),.v (.b (dZ x fs).2.1),.v (.fs 5 (dZ x fs).2.2.length (cC (dZ x fs).2.2))]:=by
 have hif:=λrow (hrow:∀j,j<5->row j=qG x j)=>mw fs 73 [] [.fp 5 row 0] (λf=>cE f x) (λf _=>qd f x row hrow) hl rfl
 unfold dZ
 have hx:=iM x.1
 generalize hq:idx (λf=>cE f x) fs 0=q at hif ⊢
 have hqr:=mz (λf=>cE f x) fs 0
 rw[hq] at hqr
 obtain⟨op,to,a,b,arg⟩:=x
 simp only at hx ⊢
 cases he:di op
 ·rw[he] at hx
  rw[if_neg (by simp)]
  refine gv ?_
  refine af ay pP ⟨by simp,by decide⟩ ?_
  simp only[aZ,aY]
  repeat first|with_reducible refine ab ?_|simp only[go_sem,simprocAttr]
  refine cV hx ?_
  repeat first|with_reducible refine ab ?_|simp only[go_sem,simprocAttr]
  exact bB (.v rfl rfl (.v rfl rfl (.v rfl rfl .nil)))
 ·rw[he] at hx
  rw[if_pos rfl]
  by_cases h0:0<=q
  ·rw[if_pos h0]
   obtain⟨p,rfl⟩:∃p:Nat,q=(p:Int):=⟨q.toNat,by omega⟩
   have hp1:(p:Int)<(fs.length:Int):=by omega
   rw[Int.toNat_natCast]
   have hc1:=kG fs p
   generalize (fs.getD p (0,0,0,0,0)).2.1=ft at hc1 ⊢
   by_cases h1:ft=to
   ·rw[if_pos h1]
    subst h1
    refine gv ?_
    refine af ay pP ⟨by simp,by decide⟩ ?_
    simp only[aZ,aY]
    repeat first|with_reducible refine ab ?_|simp only[go_sem,simprocAttr]
    refine cV hx ?_
    repeat first|with_reducible refine ab ?_|simp only[go_sem,simprocAttr]
    refine eG [0] (fargs:=[.fs 5 fs.length (cC fs),.f 73 [] [.fp 5 (λj=>[AV.n .i64 op,AV.n .i64 ft,AV.n .i64 a,AV.n .i64 b,AV.n .u32 arg][j]?.getD .u) 0]]) ?_ (hif _ (λj hj=>by rcases cJ hj with rfl|rfl|rfl|rfl|rfl<;>rfl)) (by simp only[go_sem,simprocAttr]) (λr hr=>by rw[List.mem_singleton.1 hr];rfl) ?_
    ·refine .cons (.rfl rfl) (.cons (.fn .nil (.cons ?_ .nil)) .nil)
     refine Cv.box (l:=[AV.n .i64 op,AV.n .i64 ft,AV.n .i64 a,AV.n .i64 b,AV.n .u32 arg]) (b:=0) rfl (x:=_) (by simp only[go_sem,simprocAttr];rfl) (by rfl) (by simp) (λj hj=>?_) rfl
     rcases cJ (by simpa using hj) with rfl|rfl|rfl|rfl|rfl<;>simp only[go_sem,simprocAttr]
    repeat first|with_reducible refine ab ?_|simp only[h0,hp1,hc1,decide_true,go_sem,simprocAttr]
    exact bB (.v rfl rfl (.v rfl rfl (.v rfl rfl .nil)))
   ·rw[if_neg h1]
    refine gv ?_
    refine af ay pP ⟨by simp,by decide⟩ ?_
    simp only[aZ,aY]
    repeat first|with_reducible refine ab ?_|simp only[go_sem,simprocAttr]
    refine cV hx ?_
    repeat first|with_reducible refine ab ?_|simp only[go_sem,simprocAttr]
    refine eG [0] (fargs:=[.fs 5 fs.length (cC fs),.f 73 [] [.fp 5 (λj=>[AV.n .i64 op,AV.n .i64 to,AV.n .i64 a,AV.n .i64 b,AV.n .u32 arg][j]?.getD .u) 0]]) ?_ (hif _ (λj hj=>by rcases cJ hj with rfl|rfl|rfl|rfl|rfl<;>rfl)) (by simp only[go_sem,simprocAttr]) (λr hr=>by rw[List.mem_singleton.1 hr];rfl) ?_
    ·refine .cons (.rfl rfl) (.cons (.fn .nil (.cons ?_ .nil)) .nil)
     refine Cv.box (l:=[AV.n .i64 op,AV.n .i64 to,AV.n .i64 a,AV.n .i64 b,AV.n .u32 arg]) (b:=0) rfl (x:=_) (by simp only[go_sem,simprocAttr];rfl) (by rfl) (by simp) (λj hj=>?_) rfl
     rcases cJ (by simpa using hj) with rfl|rfl|rfl|rfl|rfl<;>simp only[go_sem,simprocAttr]
    repeat first|with_reducible refine ab ?_|simp only[h0,hp1,hc1,h1,decide_true,decide_false,go_sem,simprocAttr]
    exact bB (.v rfl rfl (.v rfl rfl (.v rfl rfl .nil)))
  ·rw[if_neg h0]
   by_cases h2:to=a\/to=b
   ·rw[if_pos h2]
    refine gv ?_
    refine af ay pP ⟨by simp,by decide⟩ ?_
    simp only[aZ,aY]
    repeat first|with_reducible refine ab ?_|simp only[go_sem,simprocAttr]
    refine cV hx ?_
    repeat first|with_reducible refine ab ?_|simp only[go_sem,simprocAttr]
    refine eG [0] (fargs:=[.fs 5 fs.length (cC fs),.f 73 [] [.fp 5 (λj=>[AV.n .i64 op,AV.n .i64 to,AV.n .i64 a,AV.n .i64 b,AV.n .u32 arg][j]?.getD .u) 0]]) ?_ (hif _ (λj hj=>by rcases cJ hj with rfl|rfl|rfl|rfl|rfl<;>rfl)) (by simp only[go_sem,simprocAttr]) (λr hr=>by rw[List.mem_singleton.1 hr];rfl) ?_
    ·refine .cons (.rfl rfl) (.cons (.fn .nil (.cons ?_ .nil)) .nil)
     refine Cv.box (l:=[AV.n .i64 op,AV.n .i64 to,AV.n .i64 a,AV.n .i64 b,AV.n .u32 arg]) (b:=0) rfl (x:=_) (by simp only[go_sem,simprocAttr];rfl) (by rfl) (by simp) (λj hj=>?_) rfl
     rcases cJ (by simpa using hj) with rfl|rfl|rfl|rfl|rfl<;>simp only[go_sem,simprocAttr]
    cases d1:decide (to=a)<;>cases d2:decide (to=b)
    all_goals try (exact absurd h2 (by simp at d1 d2;omega))
    all_goals
     repeat first|with_reducible refine ab ?_|simp only[h0,decide_false,d1,d2,go_sem,simprocAttr]
     exact bB (.v rfl rfl (.v rfl rfl (.v rfl rfl .nil)))
   ·rw[if_neg h2]
    have d1:decide (to=a)=false:=by simp;omega
    have d2:decide (to=b)=false:=by simp;omega
    refine af ay pP ⟨by simp,by decide⟩ ?_
    simp only[aZ,aY]
    repeat first|with_reducible refine ab ?_|simp only[go_sem,simprocAttr]
    refine cV hx ?_
    repeat first|with_reducible refine ab ?_|simp only[go_sem,simprocAttr]
    refine eG [0] (fargs:=[.fs 5 fs.length (cC fs),.f 73 [] [.fp 5 (λj=>[AV.n .i64 op,AV.n .i64 to,AV.n .i64 a,AV.n .i64 b,AV.n .u32 arg][j]?.getD .u) 0]]) ?_ (hif _ (λj hj=>by rcases cJ hj with rfl|rfl|rfl|rfl|rfl<;>rfl)) (by simp only[go_sem,simprocAttr]) (λr hr=>by rw[List.mem_singleton.1 hr];rfl) ?_
    ·refine .cons (.rfl rfl) (.cons (.fn .nil (.cons ?_ .nil)) .nil)
     refine Cv.box (l:=[AV.n .i64 op,AV.n .i64 to,AV.n .i64 a,AV.n .i64 b,AV.n .u32 arg]) (b:=0) rfl (x:=_) (by simp only[go_sem,simprocAttr];rfl) (by rfl) (by simp) (λj hj=>?_) rfl
     rcases cJ (by simpa using hj) with rfl|rfl|rfl|rfl|rfl<;>simp only[go_sem,simprocAttr]
    repeat first|with_reducible refine ab ?_|simp only[h0,decide_false,d1,d2,go_sem,simprocAttr]
    refine GA.cut' (au [(4,.p 0 0),(5,.b true),(6,.fs 5 1 (cC [(op,to,a,b,arg)]))]) (ao [aq 0 37 [.n .i64 op,.n .i64 to,.n .i64 a,.n .i64 b,.n .u32 arg]]) ?_ ?_
    ·refine GA.frkm ay 1 (by simp only[eC,go_sem,simprocAttr]) ?_
     simp only[go_sem,simprocAttr]
     repeat' refine aa ?_ ?_
     all_goals first
      |decide
      |(refine Wk.mk [1] [2] ?_ ?_ ?_
        ·simp only[aB,go_sem,simprocAttr]
         repeat' refine aa ?_ ?_
         ·exact Wv.p rfl
         ·exact Wv.same rfl
         ·refine Wv.cv (Cv.sl (x:=_) (by simp) (by simp only[go_sem,simprocAttr];rfl) (by simp only[go_sem,simprocAttr];first|done|decide) (by decide) (by simp only[go_sem,simprocAttr];first|done|decide) (λi j hi hj=>?_) (λi j _ hj=>bh i hj))
          obtain rfl:i=0:=by omega
          rcases cJ hj with rfl|rfl|rfl|rfl|rfl<;>simp only[go_sem,simprocAttr]<;>rfl
        ·refine .cons rfl (.lsti (x:=_) (by simp only[go_sem,simprocAttr];rfl) (by rfl) (by rfl) (by rfl) (by rfl) (by rfl) (by rfl) (by simp) (λi hi=>?_) rfl) .nil
         rcases cJ hi with rfl|rfl|rfl|rfl|rfl<;>simp only[go_sem,simprocAttr]
        ·simp)
    ·repeat first|with_reducible refine ab ?_|simp only[go_sem,simprocAttr]
     exact bB (.v rfl rfl (.v rfl rfl (.v rfl rfl .nil)))
theorem tr(x:In)(fs:List In)(hx:opOk x):((dZ x fs).2.2.length<=1/\∀f ∈ (dZ x fs).2.2,True)/\opOk (dZ x fs).1:=by
 refine⟨⟨?_,λ_ _=>trivial⟩,?_⟩
 ·unfold dZ
  split
  ·split
   ·split<;>simp
   ·split<;>simp
  ·simp
 ·unfold dZ
  split
  ·split
   ·split
    ·exact hx
    ·exact⟨by simp,by simp⟩
   ·split<;>exact hx
  ·exact hx
theorem ud{na:Nat}{ra:Nat->Nat->AV}{regs par:Int}{cs:List In}{pt:List Int}{fin:oz In}(hcs:cs.length<400000)(hok:∀x ∈ cs,opOk x)(hpt:eU cs=some pt)(hptl:pt.length=cs.length)
  (hgo:bV kb dL dZ cs pt cs 0 ⟨[],[],[]⟩=some fin):
  a7 Tryz.prog 41 [ae na ra regs par cs] [.o 37 5 fin.out.length 0 (cC fin.out)]:=by
 have hw:=t7 (n0:=0) (pf:=λ_=>True) kb dZ 69 70 cs [] pt fin (λx hx f=>r8 x f hx) (λx hx fs hl _=>r7 x fs hl) (λx hx fs _=>(tr x fs (hok x hx)).1) (λx hx fs _=>(tr x fs (hok x hx)).2) hcs hok (by simp) (by decide) (by simp) hpt hptl hgo
 refine af ay MC ⟨by simp,by decide⟩ ?_
 simp only[aZ,ae]
 repeat first|with_reducible refine ab ?_|simp only[go_sem,simprocAttr]
 refine ai [] (fargs:=[.fs 5 cs.length (cC cs),.fs 5 ([]:List In).length (cC []),.agg [.f 69 [] [],.f 70 [] []]]) (.cons (.rfl (by rfl)) (.cons (.sl0 _ _) (.cons (.rfl (by rfl)) .nil))) hw (by simp only[go_sem,simprocAttr]) ?_
 repeat first|with_reducible refine ab ?_|simp only[go_sem,simprocAttr]
 refine⟨[_],rfl,.o (x:=_) (by simp only[go_sem,simprocAttr];rfl) (by rfl) (by rfl) (by rfl) (by decide) (Nat.le_refl _) (Nat.le_refl _) (λi j _ hj=>aH i j hj) (λi j _ hj=>bh i hj) rfl .nil⟩
theorem hZ(l:List (Int×Int))(i j:Nat)(hj:j<2):(kC l i j).cell=true:=by
 have h5:j=0\/j=1\/j=2\/j=3\/j=4:=by omega
 rcases h5 with rfl|rfl|rfl|rfl|rfl<;>first|rfl|omega
def zc(st:List (List (Int×Int)))(i _j:Nat):AV:= .fs 2 (st.reverse.getD i []).length (kC (st.reverse.getD i []))
theorem jQ(st:List (List (Int×Int)))(t:List (Int×Int))(i j:Nat)(hi:i<st.length):zc (t::st) i j=zc st i j:=by
 unfold zc;rw[List.reverse_cons,aF (by simpa using hi)]
theorem lI(st:List (List (Int×Int)))(t:List (Int×Int))(j:Nat):zc (t::st) st.length j= .fs 2 t.length (kC t):=by
 unfold zc;rw[List.reverse_cons]
 have:=aG (l:=st.reverse) (x:=t) (d:=[])
 rw[List.length_reverse] at this
 rw[this]
theorem t9{n0:Nat}{pf:(Int×Int)->Prop}(D:In->(Int×Int)->Bool)(V:In->List (Int×Int)->In×Bool×List (Int×Int))(g v:FuncId)(cs:List In)(fs0:List (Int×Int))(pt:List Int)(fin:oz (Int×Int))
  (hD:∀x,opOk x->∀f,a7 Tryz.prog g ([]++[aY x,kV f]++[]) [.v (.b (D x f))])
  (hV:∀x ∈ cs,∀fs:List (Int×Int),fs.length<1000000->(∀f ∈ fs,pf f)->a7 Tryz.prog v [aY x,.fs 2 fs.length (kC fs)] [.v (aY (V x fs).1),.v (.b (V x fs).2.1),.v (.fs 2 (V x fs).2.2.length (kC (V x fs).2.2))])
  (hV1:∀x ∈ cs,∀fs:List (Int×Int),(∀f ∈ fs,pf f)->(V x fs).2.2.length<=1/\∀f ∈ (V x fs).2.2,pf f)
  (hV2:∀x ∈ cs,∀fs:List (Int×Int),(∀f ∈ fs,pf f)->opOk (V x fs).1)
  (hcs:cs.length<400000) (hok:∀x ∈ cs,opOk x) (hn0:fs0.length<=n0) (hn1:n0<400000) (hpf:∀f ∈ fs0,pf f)
  (hpt:eU cs=some pt) (hptl:pt.length=cs.length) (hgo:bV D (λf g=>decide (f.1=g.1)&&decide (f.2=g.2)) V cs pt cs 0 ⟨[],fs0,[]⟩=some fin):
  a7 Tryz.prog 55 [.fs 5 cs.length (cC cs),.fs 2 fs0.length (kC fs0),.agg [.f g [] [],.f v [] []]] [.o 37 5 fin.out.length 0 (cC fin.out)]:=by
 have hpa:=i6 cs (by omega) pt hpt
 refine af ay Tm ⟨by simp,by decide⟩ ?_
 simp only[aZ]
 have hfg:(AV.f g [] []).pu 3=true:=rfl
 have hfv:(AV.f v [] []).pu 3=true:=rfl
 repeat first|with_reducible refine ab ?_|simp only[go_sem,simprocAttr]
 refine cV hpa ?_
 simp only[go_sem,simprocAttr]
 refine GA.wk (Wk.mk (L:=[(0,.fs 5 cs.length (cC cs)),(1,.fs 2 fs0.length (kC fs0)),(5,.p 0 0),(7,.fs 1 pt.length (iC .i64 pt))]) (bl:=[aq 0 91 [.f g [] [],.f v [] []]]) [0] [1] ?_ ?_ ?_) ?_
 ·simp only[aB,aD,go_sem,simprocAttr]
  repeat' refine aa ?_ ?_
  all_goals first|trivial|exact Wv.same rfl|exact Wv.p rfl|skip
  refine Wv.cv (Cv.own (ty:=3) (z:=0) (by simp) (by simp only[go_sem,simprocAttr]) (λi j _ _=>rfl))
 ·refine .cons rfl (.ls) .nil
 ·simp
 with_reducible refine GA.seq ?_
 with_reducible refine GA.reg ?_
 simp only[go_sem,simprocAttr]
 with_reducible refine GA.seq ?_
 with_reducible refine GA.reg ?_
 simp only[go_sem,simprocAttr]
 refine GA.wk (Wk.nil 8 5 37 (by simp only[go_sem,simprocAttr]) (by decide) (by simp only[go_sem,simprocAttr])) ?_
 refine GA.wk (Wk.nil 9 1 82 (by simp only[go_sem,simprocAttr]) (by decide) (by simp only[go_sem,simprocAttr])) ?_
 simp only[cA]
 repeat first|with_reducible refine ab ?_|simp only[go_sem,simprocAttr]
 refine GA.loop (I:=λmm e H=>∃(k:Nat) (s:oz (Int×Int)),mm=cs.length-k/\k<=cs.length/\vL pf n0 k s/\bV D (λf g=>decide (f.1=g.1)&&decide (f.2=g.2)) V cs pt (cs.drop k) k s=some fin/\
   e=au [(0,.fs 5 cs.length (cC cs)),(1,.fs 2 s.fs.length (kC s.fs)),(5,.p 0 0),(7,.fs 1 pt.length (iC .i64 pt)),(18,.fs 5 cs.length (cC cs)),(19,.n .i64 cs.length),(20,.n .i64 k),(8,.os 1 s.out.length),(9,.os 2 s.op.length)]/\
   H=ao [am 82 1 s.op.length 0 (zc s.op),am 37 5 s.out.length 0 (cC s.out),aq 0 91 [.f g [] [],.f v [] []]]) (Wk.mk [2,1,0] [] ?_ ?_ ?_) ⟨0,⟨[],fs0,[]⟩,rfl,by omega,⟨by simp,by simp,by simp only;omega,hpf,by simp,by simp⟩,hgo,rfl,rfl⟩ ?_
 ·simp only[aB,aD,go_sem,simprocAttr]
  repeat' refine aa ?_ ?_
  all_goals first|exact bi|skip
 ·refine .cons rfl (.r0) (.cons rfl (.r0) (.cons rfl (.ls) .nil))
 ·simp
 rintro mm e H ⟨k,⟨out,fs,op⟩,rfl,hk,hinv,hs,rfl,rfl⟩
 have⟨hi1,hi2,hi3,hi4,hi5,hi6⟩:=hinv
 simp only at hi1 hi2 hi3 hi4 hi5 hi6
 repeat first|with_reducible refine ab ?_|simp only[go_sem,simprocAttr]
 refine⟨λh=>?_,λh=>?_⟩
 ·have hkn:k<cs.length:=by omega
  have h0:(0:Int)<=(k:Int):=by omega
  have hk1:k+1<=cs.length:=hkn
  have hm:cs.getD k dj ∈ cs:=by rw[List.getD_eq_getElem?_getD,List.getElem?_eq_getElem hkn];exact List.getElem_mem _
  rw[bw (d:=dj) hkn,bV] at hs
  obtain⟨s2,hst,hs⟩:=Option.bind_eq_some_iff.1 hs
  have hcc0:cC cs k 0= .n .i64 (cs.getD k dj).1:=gG cs k
  have hcc1:cC cs k 1= .n .i64 (cs.getD k dj).2.1:=kG cs k
  have hcc2:cC cs k 2= .n .i64 (cs.getD k dj).2.2.1:=lQ cs k
  have hcc3:cC cs k 3= .n .i64 (cs.getD k dj).2.2.2.1:=lP cs k
  have hcc4:cC cs k 4= .n .u32 (cs.getD k dj).2.2.2.2:=lu cs k
  generalize cs.getD k dj=x at hst hcc0 hcc1 hcc2 hcc3 hcc4 hm
  have hcv:=hV x hm fs (by omega) hi4
  have hv1:=hV1 x hm
  have hv2:=hV2 x hm fs hi4
  have key:=gP hinv hv1 hst
  have hv1:=hv1 fs hi4
  unfold b6 at hst
  simp only at hst
  generalize V x fs=r at hst hcv hv1 hv2
  obtain⟨y,rem,more⟩:=r
  obtain⟨opc,to,a,b,arg⟩:=x
  obtain⟨yopc,yto,ya,yb,yarg⟩:=y
  simp only[aY] at hst hcv hv1 hv2 hcc0 hcc1 hcc2 hcc3 hcc4
  repeat first|with_reducible refine ab ?_|simp only[h0,h,hcc0,hcc1,hcc2,hcc3,hcc4,go_sem,simprocAttr]
  refine fm hcv ?_
  repeat first|with_reducible refine ab ?_|simp only[go_sem,simprocAttr]
  have ht:rem=false\/rem=true:=by cases rem<;>simp
  refine⟨λhr=>?_,λhr=>?_⟩
  ·rw[hr,if_neg (by simp)] at hst
   cases hst
   repeat first|with_reducible refine ab ?_|simp only[go_sem,simprocAttr]
   refine⟨_,_,_,?_,Wk.mk [2,1,0] [] ?_ ?_ ?_,k+1,_,rfl,by omega,key,hs,rfl,rfl⟩
   ·omega
   ·simp only[aB,aD,go_sem,simprocAttr]
    repeat' refine aa ?_ ?_
    all_goals first|exact bi|skip
   ·refine .cons rfl (.k1) (.cons rfl (.k5) (.cons rfl (.ls) .nil))
   ·simp
  rw[hr,if_pos rfl] at hst
  obtain⟨⟨fs',op'⟩,hsw,rfl⟩:=Option.map_eq_some_iff.1 hst
  simp only at key hs
  have hinv2:=gN hinv hsw
  obtain⟨hj1,hj2,hj3,hj4,hj5⟩:=hinv2
  simp only at hj1 hj2 hj3 hj4 hj5
  (try simp only[go_sem,simprocAttr])
  iterate 4 (with_reducible refine GA.go ay rfl ?_;try simp only[go_sem,simprocAttr])
  have hy5:∀j,j<5->[AV.n .i64 yopc,AV.n .i64 yto,AV.n .i64 ya,AV.n .i64 yb,AV.n .u32 yarg][j]?.getD .u=cC [(yopc,yto,ya,yb,yarg)] 0 j:=λj hj=>by rcases cJ hj with rfl|rfl|rfl|rfl|rfl<;>rfl
  refine GA.wk (Wk.mk (L:=[(0,.fs 5 cs.length (cC cs)),(1,.fs 2 fs.length (kC fs)),(5,.p 0 0),(7,.fs 1 pt.length (iC .i64 pt)),(18,.fs 5 cs.length (cC cs)),(19,.n .i64 cs.length),(20,.n .i64 k),(8,.os 1 out.length),(9,.os 2 op.length),(10,.n .i64 k),(11,.p 3 0),(12,.p 4 0),(14,.fs 2 more.length (kC more)),(15,.n .i64 ((op.length:Int)-1))])
   (bl:=[aq 0 37 [.n .i64 yopc,.n .i64 yto,.n .i64 ya,.n .i64 yb,.n .u32 yarg],aq 0 37 [.n .i64 opc,.n .i64 to,.n .i64 a,.n .i64 b,.n .u32 arg],am 82 1 op.length 0 (zc op),am 37 5 out.length 0 (cC out),aq 0 91 [.f g [] [],.f v [] []]]) [4,3,2,1,0] [] ?_ ?_ ?_) ?_
  ·simp only[aB,aD,go_sem,simprocAttr]
   repeat' refine aa ?_ ?_
   all_goals first|exact bi|skip
  ·refine .cons rfl (.lsti (x:=_) (by simp only[go_sem,simprocAttr]<;>rfl) (by rfl) (by rfl) (by rfl) (by rfl) (by rfl) (by rfl) (by simp) (λi hi=>?_) (by rfl)) (.cons rfl (.lsti (x:=_) (by simp only[go_sem,simprocAttr]<;>rfl) (by rfl) (by rfl) (by rfl) (by rfl) (by rfl) (by rfl) (by simp) (λi hi=>?_) (by rfl)) (.cons rfl (.k1) (.cons rfl (.k5) (.cons rfl (.ls) .nil))))
   ·rcases cJ hi with rfl|rfl|rfl|rfl|rfl<;>simp only[go_sem,simprocAttr]
   ·rcases cJ hi with rfl|rfl|rfl|rfl|rfl<;>simp only[go_sem,simprocAttr]
  ·simp
  refine GA.cutQ (au [(0,.fs 5 cs.length (cC cs)),(1,.fs 2 fs'.length (kC fs')),(5,.p 0 0),(7,.fs 1 pt.length (iC .i64 pt)),(18,.fs 5 cs.length (cC cs)),(19,.n .i64 cs.length),(20,.n .i64 k),(8,.os 1 out.length),(9,.os 2 op'.length),(12,.p 3 0),(14,.fs 2 more.length (kC more))])
   (ao [aq 0 37 [.n .i64 yopc,.n .i64 yto,.n .i64 ya,.n .i64 yb,.n .u32 yarg],am 82 1 op'.length 0 (zc op'),am 37 5 out.length 0 (cC out),aq 0 91 [.f g [] [],.f v [] []]]) ?_ ?_
  rotate_left
  ·intro e' H' hw
   refine GA.wk hw ?_
   have hwo:=iq fs' [(yopc,yto,ya,yb,yarg)] g [] [] (.f v [] []) D (λz hz f=>by
    rw[List.mem_singleton.1 hz];exact hD _ hv2 f) rfl rfl (by omega) (by simp)
   have hwl:=d9 D fs' [(yopc,yto,ya,yb,yarg)]
   change a7 _ _ _ [.o 84 2 (eH D fs' [(yopc,yto,ya,yb,yarg)]).length 0 (kC (eH D fs' [(yopc,yto,ya,yb,yarg)]))] at hwo
   generalize eH D fs' [(yopc,yto,ya,yb,yarg)]=wfs at hwo hwl key hs
   have hlim:(wfs.length+more.length)*2<1099511627776/\(wfs.length+more.length)*16<=140737488355328/\wfs.length+more.length<=9223372036854775807:=by omega
   have hlio:(out.length+1)*5<1099511627776/\(out.length+1)*40<=140737488355328/\out.length+1<=9223372036854775807:=by omega
   repeat first|with_reducible refine ab ?_|simp only[hlim.1,hlim.2.1,hlim.2.2,hlio.1,hlio.2.1,hlio.2.2,decide_true,go_sem,simprocAttr]
   refine ai [4] (fargs:=[.fs 2 fs'.length (kC fs'),.agg [.f g [] [],.f v [] []],.fs 5 [(yopc,yto,ya,yb,yarg)].length (cC [(yopc,yto,ya,yb,yarg)])]) ?_ hwo (by simp only[go_sem,simprocAttr]) ?_
   ·refine .cons (.rfl (by rfl)) (.cons (.rfl (by rfl)) (.cons ?_ .nil))
    refine Cv.sl (x:=_) (by simp) (by simp only[go_sem,simprocAttr]<;>rfl) (by simp) (by simp) (by simp) (λi j hi hj=>?_) (λi j hi hj=>by rcases cJ hj with rfl|rfl|rfl|rfl|rfl<;>rfl)
    obtain rfl:i=0:=by simpa using hi
    rw[<-hy5 j hj]
    rcases cJ hj with rfl|rfl|rfl|rfl|rfl<;>simp only[go_sem,simprocAttr]
   repeat first|with_reducible refine ab ?_|simp only[hlim.1,hlim.2.1,hlim.2.2,hlio.1,hlio.2.1,hlio.2.2,decide_true,go_sem,simprocAttr]
   refine⟨_,_,_,?_,Wk.mk [2,8,0] [6] ?_ ?_ ?_,k+1,_,rfl,by omega,key,hs,rfl,rfl⟩
   ·omega
   ·simp only[aB,aD,go_sem,simprocAttr]
    repeat' refine aa ?_ ?_
    all_goals first|exact bi|skip
    refine Wv.cv (Cv.os (x:=_) (by simp) (by simp only[go_sem,simprocAttr]<;>rfl) (by simp only[go_sem,simprocAttr]<;>omega) (λi j hi hj=>?_) (λi j hi hj=>hZ _ _ _ hj))
    rw[ig hj hi (by omega),aH i j hj]
    unfold kC
    by_cases hw:wfs.length<=i
    ·rw[if_pos hw]
     simp only[List.getD_eq_getElem?_getD,List.getElem?_append_right hw]
    ·rw[if_neg hw]
     simp only[List.getD_eq_getElem?_getD,List.getElem?_append_left (Nat.lt_of_not_le hw)]
   ·rw[show(out++[(yopc,yto,ya,yb,yarg)]).length=out.length+1 from by simp]
    refine .cons rfl (.k1) (.cons rfl (.snoc (by simp only[go_sem,simprocAttr]<;>rfl) (by simp) (by rfl) rfl (by decide) (by omega) (λi j hi _=>by unfold cC;rw[aF hi]) (λj hj=>by
     unfold cC
     rw[aG]
     exact(hy5 j hj).symm) (λi j _ hj=>by rcases cJ hj with rfl|rfl|rfl|rfl|rfl<;>rfl)) (.cons rfl (.ls) .nil))
   ·simp
  unfold cZ at hsw
  repeat first|with_reducible refine ab ?_|simp only[go_sem,simprocAttr]
  refine⟨λh1=>?_,λh1=>?_⟩
  ·rw[if_pos h1] at hsw
   injection hsw with hsw
   injection hsw with e1 e2
   subst e1 e2
   have hlo:op.length+1<1099511627776/\(op.length+1)*24<=140737488355328/\op.length+1<=9223372036854775807:=by omega
   repeat first|with_reducible refine ab ?_|simp only[hlo.1,hlo.2.1,hlo.2.2,decide_true,go_sem,simprocAttr]
   refine Wk.mk [4,6,1,0] [] ?_ ?_ ?_
   ·simp only[aB,aD,go_sem,simprocAttr]
    repeat' refine aa ?_ ?_
    all_goals first|exact bi|skip
   ·refine .cons rfl (.ls) (.cons rfl (.snoc (by simp only[go_sem,simprocAttr]<;>rfl) (by simp) (by rfl) rfl (by decide) (by omega) (λi j hi _=>jQ _ _ _ _ hi) (λj hj=>by
     cases Nat.lt_one_iff.1 hj
     exact lI _ _ _) (λi j _ _=>rfl)) (.cons rfl (.k5) (.cons rfl (.ls) .nil)))
   ·simp
  rw[if_neg h1] at hsw
  repeat first|with_reducible refine ab ?_|simp only[go_sem,simprocAttr]
  refine⟨λh2=>?_,λh2=>?_⟩
  ·rw[if_pos h2] at hsw
   cases op with
   |nil=>cases hsw
   |cons t r=>
   simp only at hsw
   injection hsw with hsw
   injection hsw with e1 e2
   subst e1 e2
   have hrl:r.length<=k:=by simp only[List.length_cons] at hi2;omega
   have hsub:((r.length+1:Nat):Int)-1=(r.length:Int):=by omega
   have hz0:(0:Int)<=(r.length:Int):=by omega
   have hz1:(r.length:Int)<((r.length+1:Nat):Int):=by omega
   have hz2:r.length<r.length+1:=by omega
   have hg:(am 82 1 (r.length+1) 0 (zc (t::r))).get r.length= .fs 2 t.length (kC t):=by
    rw[bH];exact lI _ _ _
   repeat first|with_reducible refine ab ?_|simp only[hsub,hz0,hz1,hz2,hg,Nat.le_refl,go_sem,simprocAttr]
   refine Wk.mk [4,2,1,0] [] ?_ ?_ ?_
   ·simp only[aB,aD,go_sem,simprocAttr]
    repeat' refine aa ?_ ?_
    all_goals first|exact bi|skip
   ·refine .cons rfl (.ls) (.cons rfl (.put (n:=r.length+1) (q:=r.length) (by simp only[go_sem,simprocAttr]<;>rfl) (by simp) rfl hz2 rfl (by decide) (by omega) (λi j h hj=>?_) (λi j h hj=>rfl)) (.cons rfl (.k5) (.cons rfl (.ls) .nil)))
    cases Nat.lt_one_iff.1 hj
    by_cases e:i=r.length
    ·rw[if_pos e,e];exact(lI _ _ _).symm
    ·rw[if_neg e,jQ _ _ _ _ (by omega),jQ _ _ _ _ (by omega)]
   ·simp
  rw[if_neg h2] at hsw
  have hkp:k<pt.length:=by omega
  have hkpi:(k:Int)<(pt.length:Int):=by omega
  repeat first|with_reducible refine ab ?_|simp only[go_sem,simprocAttr]
  refine⟨λh3=>?_,λh3=>?_⟩
  ·rw[if_pos h3] at hsw
   split at hsw
   rotate_left
   ·cases hsw
   rename_i hrg
   obtain⟨q,hq⟩:∃q:Nat,pt.getD k 0=(q:Int):=⟨(pt.getD k 0).toNat,by omega⟩
   rw[hq] at hrg hsw
   rw[Int.toNat_natCast] at hsw
   have hql:q-k=((cs.take q).drop k).length:=by rw[List.length_drop,List.length_take];omega
   have hwo:=iq fs ((cs.take q).drop k) g [] [] (.f v [] []) D (λz hz f=>hD z (hok z (List.mem_of_mem_take (List.mem_of_mem_drop hz))) f) rfl rfl (by omega) (by rw[<-hql];omega)
   have hwl:=d9 D fs ((cs.take q).drop k)
   change a7 _ _ _ [.o 84 2 (eH D fs ((cs.take q).drop k)).length 0 (kC (eH D fs ((cs.take q).drop k)))] at hwo
   generalize eH D fs ((cs.take q).drop k)=wfs at hwo hwl hsw
   injection hsw with hsw
   injection hsw with e1 e2
   subst e1 e2
   have hpk:iC .i64 pt k 0= .n .i64 (q:Int):=by unfold iC;rw[hq]
   have hq0:(0:Int)<=(q:Int):=by omega
   have hq1:(k:Int)<=(q:Int):=hrg.1
   have hq2:(q:Int)<=(cs.length:Int):=hrg.2
   repeat first|with_reducible refine ab ?_|simp only[h0,hkpi,hpk,hq0,hq1,hq2,go_sem,simprocAttr]
   rw[hql]
   refine ai [] (fargs:=[.fs 2 fs.length (kC fs),.agg [.f g [] [],.f v [] []],.fs 5 ((cs.take q).drop k).length (cC ((cs.take q).drop k))]) ?_ hwo (by simp only[go_sem,simprocAttr]) ?_
   ·refine .cons (.rfl (by rfl)) (.cons (.rfl (by rfl)) (.cons (.fs (λi j hi hj=>?_)) .nil))
    unfold cC
    rw[List.getD_eq_getElem?_getD,List.getD_eq_getElem?_getD,List.getElem?_drop,List.getElem?_take_of_lt (by omega)]
   repeat first|with_reducible refine ab ?_|simp only[go_sem,simprocAttr]
   refine Wk.mk [4,2,1,0] [5] ?_ ?_ ?_
   ·simp only[aB,aD,go_sem,simprocAttr]
    repeat' refine aa ?_ ?_
    all_goals first|exact bi|skip
    exact Wv.cv (Cv.own (ty:=84) (z:=0) (by simp) (by simp only[go_sem,simprocAttr]) (λi j _ hj=>hZ _ _ _ hj))
   ·refine .cons rfl (.ls) (.cons rfl (.k1) (.cons rfl (.k5) (.cons rfl (.ls) .nil)))
   ·simp
  rw[if_neg h3] at hsw
  by_cases h4:opc=31
  ·rw[if_pos h4] at hsw
   subst h4
   split at hsw
   rotate_left
   ·cases hsw
   rename_i hrg
   obtain⟨q,hq⟩:∃q:Nat,pt.getD k 0=(q:Int):=⟨(pt.getD k 0).toNat,by omega⟩
   rw[hq] at hrg hsw
   rw[Int.toNat_natCast] at hsw
   have hpk:iC .i64 pt k 0= .n .i64 (q:Int):=by unfold iC;rw[hq]
   have hq0:(0:Int)<=(q:Int):=by omega
   have hq1:(q:Int)<=(k:Int):=hrg.2
   have hq2:(q:Int)<(cs.length:Int):=by omega
   have hq3:(k:Int)<=(cs.length:Int):=by omega
   have hcq:cC cs q 0= .n .i64 (cs.getD q dj).1:=gG cs q
   repeat first|with_reducible refine ab ?_|simp only[h0,hkpi,hpk,hq0,hq1,hq2,hcq,decide_true,go_sem,simprocAttr]
   refine⟨λh5=>?_,λh5=>?_⟩
   ·rw[if_pos h5] at hsw
    have hql:k-q=((cs.take k).drop q).length:=by rw[List.length_drop,List.length_take];omega
    have hwo:=iq fs ((cs.take k).drop q) g [] [] (.f v [] []) D (λz hz f=>hD z (hok z (List.mem_of_mem_take (List.mem_of_mem_drop hz))) f) rfl rfl (by omega) (by rw[<-hql];omega)
    have hwl:=d9 D fs ((cs.take k).drop q)
    change a7 _ _ _ [.o 84 2 (eH D fs ((cs.take k).drop q)).length 0 (kC (eH D fs ((cs.take k).drop q)))] at hwo
    generalize eH D fs ((cs.take k).drop q)=wfs at hwo hwl hsw
    injection hsw with hsw
    injection hsw with e1 e2
    subst e1 e2
    repeat first|with_reducible refine ab ?_|simp only[h0,hkpi,hpk,hq0,hq1,hq2,hq3,go_sem,simprocAttr]
    rw[hql]
    refine ai [] (fargs:=[.fs 2 fs.length (kC fs),.agg [.f g [] [],.f v [] []],.fs 5 ((cs.take k).drop q).length (cC ((cs.take k).drop q))]) ?_ hwo (by simp only[go_sem,simprocAttr]) ?_
    ·refine .cons (.rfl (by rfl)) (.cons (.rfl (by rfl)) (.cons (.fs (λi j hi hj=>?_)) .nil))
     unfold cC
     rw[List.getD_eq_getElem?_getD,List.getD_eq_getElem?_getD,List.getElem?_drop,List.getElem?_take_of_lt (by omega)]
    repeat first|with_reducible refine ab ?_|simp only[go_sem,simprocAttr]
    refine Wk.mk [4,2,1,0] [5] ?_ ?_ ?_
    ·simp only[aB,aD,go_sem,simprocAttr]
     repeat' refine aa ?_ ?_
     all_goals first|exact bi|skip
     exact Wv.cv (Cv.own (ty:=84) (z:=0) (by simp) (by simp only[go_sem,simprocAttr]) (λi j _ hj=>hZ _ _ _ hj))
    ·refine .cons rfl (.ls) (.cons rfl (.k1) (.cons rfl (.k5) (.cons rfl (.ls) .nil)))
    ·simp
   ·rw[if_neg h5] at hsw
    cases op with
    |nil=>cases hsw
    |cons t r=>
    simp only at hsw
    have hrl:r.length<=k:=by simp only[List.length_cons] at hi2;omega
    have htl:=hi5 t (List.mem_cons_self ..)
    have hbo:=yg fs t (by omega) (by omega)
    have hbl:=lR (λf g=>decide (f.1=g.1)&&decide (f.2=g.2)) fs t
    change a7 _ _ _ [.o 84 2 (ow (λf g=>decide (f.1=g.1)&&decide (f.2=g.2)) fs t).length 0 (kC (ow (λf g=>decide (f.1=g.1)&&decide (f.2=g.2)) fs t))] at hbo
    generalize ow (λf g=>decide (f.1=g.1)&&decide (f.2=g.2)) fs t=bfs at hbo hbl hsw
    injection hsw with hsw
    injection hsw with e1 e2
    subst e1 e2
    have hsub:((r.length+1:Nat):Int)-1=(r.length:Int):=by omega
    have hz0:(0:Int)<=(r.length:Int):=by omega
    have hz1:(r.length:Int)<((r.length+1:Nat):Int):=by omega
    have hz3:(r.length:Int)<=((r.length+1:Nat):Int):=by omega
    have hz2:r.length<r.length+1:=by omega
    have hg:(am 82 1 (r.length+1) 0 (zc (t::r))).get r.length= .fs 2 t.length (kC t):=by
     rw[bH];exact lI _ _ _
    repeat first|with_reducible refine ab ?_|simp only[hsub,hz0,hz1,hz2,hz3,hg,Int.le_refl,go_sem,simprocAttr]
    refine fm hbo ?_
    repeat first|with_reducible refine ab ?_|simp only[go_sem,simprocAttr]
    refine Wk.mk [4,2,1,0] [5] ?_ ?_ ?_
    ·simp only[aB,aD,go_sem,simprocAttr]
     repeat' refine aa ?_ ?_
     all_goals first|exact bi|skip
     exact Wv.cv (Cv.own (ty:=84) (z:=0) (by simp) (by simp only[go_sem,simprocAttr]) (λi j _ hj=>hZ _ _ _ hj))
    ·refine .cons rfl (.ls) (.cons rfl (.pop (n:=r.length+1) (by simp only[go_sem,simprocAttr]<;>rfl) rfl (by decide) (by omega) (λi j hi _=>jQ _ _ _ _ hi) (λi j _ hj=>rfl)) (.cons rfl (.k5) (.cons rfl (.ls) .nil)))
    ·simp
  rw[if_neg h4] at hsw
  injection hsw with hsw
  injection hsw with e1 e2
  subst e1 e2
  repeat first|with_reducible refine ab ?_|simp only[h4,decide_false,go_sem,simprocAttr]
  refine Wk.mk [4,2,1,0] [] ?_ ?_ ?_
  ·simp only[aB,aD,go_sem,simprocAttr]
   repeat' refine aa ?_ ?_
   all_goals first|exact bi|skip
  ·refine .cons rfl (.ls) (.cons rfl (.k1) (.cons rfl (.k5) (.cons rfl (.ls) .nil)))
  ·simp
 ·have hkn:k=cs.length:=by omega
  subst hkn
  rw[List.drop_length,bV] at hs
  cases hs
  repeat first|with_reducible refine ab ?_|simp only[go_sem,simprocAttr]
  refine⟨[_],rfl,.o (x:=_) (by simp only[go_sem,simprocAttr];rfl) (by rfl) (by rfl) (by rfl) (by decide) (Nat.le_refl _) (Nat.le_refl _) (λi j _ hj=>aH i j hj) (λi j _ hj=>bh i hj) rfl .nil⟩
/-! compactorlaw24.awake-/
abbrev Jj:List AO:=
 [o1 0 (.mv (.c (.b false)))]
abbrev Ji:List AO:=
 [(o2 15 23 [(ci 0),(ci 0),(.c (.n .i64 (-1))),(.c (.n .i64 (-1))),(.c (.n .u32 2))]),
  (o2 16 23 [(ci 0),(ci 1),(.c (.n .i64 (-1))),(.c (.n .i64 (-1))),(.c (.n .u32 3))]),
  (o2 17 23 [(ci 8),(ci 0),(ci 0),(ci 1),(.c (.n .u32 0))]),
  (o2 18 23 [(ci 34),(.c (.n .i64 (-1))),(ci 0),(.c (.n .i64 (-1))),(.c (.n .u32 0))]),o1 19 (.bs 37 5 4 [.n .i64 0,.n .i64 0,.n .i64 0,.n .i64 0,.n .u32 0,.n .i64 0,.n .i64 0,.n .i64 0,.n .i64 0,.n .u32 0,.n .i64 0,.n .i64 0,.n .i64 0,.n .i64 0,.n .u32 0,.n .i64 0,.n .i64 0,.n .i64 0,.n .i64 0,.n .u32 0] [(0,5,(.t 15)),(5,5,(.t 16)),(10,5,(.t 17)),(15,5,(.t 18))]),
  (o2 20 22 [.t 19]),o1 1 (.al 25 [.sl0,.n .i64 0,.n .i64 0,.sl0]),
  (o3 (.st 4 (.t 1) (.t 20)))]
abbrev Jh:List AO:=
 [o1 22 (.ld 4 true (.t 1)),
  (o2 23 10 [.t 22]),
  (mt 21 23),o1 24 (.ext 0 (.t 21)),o1 25 (.ext 1 (.t 21)),o1 2 (.al 25 [.sl0,.n .i64 0,.n .i64 0,.sl0]),
  (o3 (.st 4 (.t 2) (.t 24))),
  (mt 3 25)]
abbrev Jg:List AO:=
 [o1 27 (.ld 4 true (.t 2)),
  (o2 28 17 [.t 27]),
  (mt 26 28),o1 29 (.ext 0 (.t 26)),o1 30 (.ext 1 (.t 26)),o1 4 (.al 25 [.sl0,.n .i64 0,.n .i64 0,.sl0]),
  (o3 (.st 4 (.t 4) (.t 29))),
  (mt 5 30)]
abbrev Jf:List AO:=
 [(o2 31 23 [(ci 0),(ci 0),(.c (.n .i64 (-1))),(.c (.n .i64 (-1))),(.c (.n .u32 5))]),o1 6 (.al 37 [.n .i64 0,.n .i64 0,.n .i64 0,.n .i64 0,.n .u32 0]),
  (o3 (.st 5 (.t 6) (.t 31)))]
abbrev Jl:List (Nat×AO):=
 [(2,(mt 32 3)),
  (2,(mt 33 5)),(2,(o1 34 (.bin .add (.t 32) (.t 33)))),(2,(o1 35 (.bin .neq (.t 34) (ci 0)))),
  (2,(mt 36 35)),
  (2,(o4 38 36 (.fa 3 (.t 1)))),
  (2,(o4 42 36 (.fa 3 (.t 1)))),
  (2,(o4 47 36 (.fa 3 (.t 1)))),
  (1,(o4 37 36 (.ld 4 true (.t 2)))),
  (1,(o4 39 36 (.ld 1 false (.t 38)))),
  (2,(o4 40 36 (.ia 5 (.t 39) (ci 0)))),
  (1,(o4 41 36 (.ld 5 true (.t 40)))),
  (1,(o4 43 36 (.ld 1 false (.t 42)))),
  (2,(o4 44 36 (.ia 5 (.t 43) (ci 1)))),
  (1,(o4 45 36 (.ld 5 true (.t 44)))),
  (1,(o4 46 36 (.ld 5 true (.t 6)))),
  (1,(o4 48 36 (.ld 1 false (.t 47)))),
  (2,(o4 49 36 (.ia 5 (.t 48) (ci 3)))),
  (1,(o4 50 36 (.ld 5 true (.t 49)))),
  (0,(o4 51 36 (.bs 37 5 4 [.n .i64 0,.n .i64 0,.n .i64 0,.n .i64 0,.n .u32 0,.n .i64 0,.n .i64 0,.n .i64 0,.n .i64 0,.n .u32 0,.n .i64 0,.n .i64 0,.n .i64 0,.n .i64 0,.n .u32 0,.n .i64 0,.n .i64 0,.n .i64 0,.n .i64 0,.n .u32 0] [(0,5,(.t 41)),(5,5,(.t 45)),(10,5,(.t 46)),(15,5,(.t 50))]))),(0,⟨some 52,some (36,false),.cl (.c (.f 22 [] [])) [.t 51]⟩),(0,⟨some 53,some (36,false),.cl (.c (.f 12 [] [])) [.t 37,.t 52]⟩),
  (2,(o4 54 36 (.un .not (.t 53)))),(2,(o1 55 (.pick (.t 36) (.c (.b true)) (.t 54)))),
  (2,(mt 56 55)),
  (2,(o4 59 56 (.fa 3 (.t 1)))),
  (1,(o4 57 56 (.ld 4 true (.t 4)))),
  (1,(o4 58 56 (.ld 5 true (.t 6)))),
  (1,(o4 60 56 (.ld 1 false (.t 59)))),
  (2,(o4 61 56 (.ia 5 (.t 60) (ci 3)))),
  (1,(o4 62 56 (.ld 5 true (.t 61)))),
  (0,(o4 63 56 (.bs 37 5 2 [.n .i64 0,.n .i64 0,.n .i64 0,.n .i64 0,.n .u32 0,.n .i64 0,.n .i64 0,.n .i64 0,.n .i64 0,.n .u32 0] [(0,5,(.t 58)),(5,5,(.t 62))]))),(0,⟨some 64,some (56,false),.cl (.c (.f 22 [] [])) [.t 63]⟩),(0,⟨some 65,some (56,false),.cl (.c (.f 12 [] [])) [.t 57,.t 64]⟩),
  (2,(o4 66 56 (.un .not (.t 65)))),(2,(o1 67 (.pick (.t 56) (.c (.b true)) (.t 66))))]
abbrev Je:List AO:=
 [o1 0 (.mv (.c (.b false)))]
abbrev Jd:List AO:=
 [(o2 68 23 [(ci 32),(ci 1),(.c (.n .i64 (-1))),(.c (.n .i64 (-1))),(.c (.n .u32 0))]),
  (o2 69 23 [(ci 36),(ci 2),(ci 1),(.c (.n .i64 (-1))),(.c (.n .u32 0))]),
  (o2 70 23 [(ci 34),(.c (.n .i64 (-1))),(ci 2),(.c (.n .i64 (-1))),(.c (.n .u32 0))]),
  (o2 71 23 [(ci 34),(.c (.n .i64 (-1))),(ci 1),(.c (.n .i64 (-1))),(.c (.n .u32 0))]),o1 72 (.bs 37 5 4 [.n .i64 0,.n .i64 0,.n .i64 0,.n .i64 0,.n .u32 0,.n .i64 0,.n .i64 0,.n .i64 0,.n .i64 0,.n .u32 0,.n .i64 0,.n .i64 0,.n .i64 0,.n .i64 0,.n .u32 0,.n .i64 0,.n .i64 0,.n .i64 0,.n .i64 0,.n .u32 0] [(0,5,(.t 68)),(5,5,(.t 69)),(10,5,(.t 70)),(15,5,(.t 71))]),
  (o2 73 22 [.t 72]),o1 7 (.al 25 [.sl0,.n .i64 0,.n .i64 0,.sl0]),
  (o3 (.st 4 (.t 7) (.t 73)))]
abbrev Jc:List AO:=
 [o1 75 (.ld 4 true (.t 7)),
  (o2 76 13 [.t 75]),
  (mt 74 76),o1 77 (.ext 0 (.t 74)),o1 78 (.ext 1 (.t 74)),o1 8 (.al 25 [.sl0,.n .i64 0,.n .i64 0,.sl0]),
  (o3 (.st 4 (.t 8) (.t 77))),
  (mt 3 78)]
abbrev Jb:List AO:=
 [o1 80 (.ld 4 true (.t 8)),
  (o2 81 17 [.t 80]),
  (mt 79 81),o1 82 (.ext 0 (.t 79)),o1 83 (.ext 1 (.t 79)),o1 9 (.al 25 [.sl0,.n .i64 0,.n .i64 0,.sl0]),
  (o3 (.st 4 (.t 9) (.t 82))),
  (mt 5 83)]
abbrev A9:List AO:=
 [o1 84 (.fa 3 (.t 7)),o1 85 (.ld 1 false (.t 84)),o1 86 (.ia 5 (.t 85) (ci 3)),o1 87 (.ld 5 true (.t 86)),o1 10 (.al 37 [.n .i64 0,.n .i64 0,.n .i64 0,.n .i64 0,.n .u32 0]),
  (o3 (.st 5 (.t 10) (.t 87)))]
abbrev Bc:List (Nat×AO):=
 [(2,(mt 88 3)),
  (2,(mt 89 5)),(2,(o1 90 (.bin .add (.t 88) (.t 89)))),(2,(o1 91 (.bin .neq (.t 90) (ci 0)))),
  (2,(mt 92 91)),
  (2,(o4 94 92 (.fa 3 (.t 7)))),
  (2,(o4 98 92 (.fa 3 (.t 7)))),
  (1,(o4 93 92 (.ld 4 true (.t 8)))),
  (1,(o4 95 92 (.ld 1 false (.t 94)))),
  (2,(o4 96 92 (.ia 5 (.t 95) (ci 0)))),
  (1,(o4 97 92 (.ld 5 true (.t 96)))),
  (1,(o4 99 92 (.ld 1 false (.t 98)))),
  (2,(o4 100 92 (.ia 5 (.t 99) (ci 1)))),
  (1,(o4 101 92 (.ld 5 true (.t 100)))),
  (1,(o4 102 92 (.ld 5 true (.t 10)))),
  (1,(o4 103 92 (.ld 5 true (.t 10)))),
  (0,(o4 104 92 (.bs 37 5 4 [.n .i64 0,.n .i64 0,.n .i64 0,.n .i64 0,.n .u32 0,.n .i64 0,.n .i64 0,.n .i64 0,.n .i64 0,.n .u32 0,.n .i64 0,.n .i64 0,.n .i64 0,.n .i64 0,.n .u32 0,.n .i64 0,.n .i64 0,.n .i64 0,.n .i64 0,.n .u32 0] [(0,5,(.t 97)),(5,5,(.t 101)),(10,5,(.t 102)),(15,5,(.t 103))]))),(0,⟨some 105,some (92,false),.cl (.c (.f 22 [] [])) [.t 104]⟩),(0,⟨some 106,some (92,false),.cl (.c (.f 12 [] [])) [.t 93,.t 105]⟩),
  (2,(o4 107 92 (.un .not (.t 106)))),(2,(o1 108 (.pick (.t 92) (.c (.b true)) (.t 107)))),
  (2,(mt 109 108)),
  (2,(o4 111 109 (.fa 3 (.t 7)))),
  (1,(o4 110 109 (.ld 4 true (.t 9)))),
  (1,(o4 112 109 (.ld 1 false (.t 111)))),
  (2,(o4 113 109 (.ia 5 (.t 112) (ci 0)))),
  (1,(o4 114 109 (.ld 5 true (.t 113)))),
  (1,(o4 115 109 (.ld 5 true (.t 10)))),
  (1,(o4 116 109 (.ld 5 true (.t 10)))),
  (0,(o4 117 109 (.bs 37 5 3 [.n .i64 0,.n .i64 0,.n .i64 0,.n .i64 0,.n .u32 0,.n .i64 0,.n .i64 0,.n .i64 0,.n .i64 0,.n .u32 0,.n .i64 0,.n .i64 0,.n .i64 0,.n .i64 0,.n .u32 0] [(0,5,(.t 114)),(5,5,(.t 115)),(10,5,(.t 116))]))),(0,⟨some 118,some (109,false),.cl (.c (.f 22 [] [])) [.t 117]⟩),(0,⟨some 119,some (109,false),.cl (.c (.f 12 [] [])) [.t 110,.t 118]⟩),
  (2,(o4 120 109 (.un .not (.t 119)))),(2,(o1 121 (.pick (.t 109) (.c (.b true)) (.t 120))))]
abbrev A8:List AO:=
 [o1 0 (.mv (.c (.b false)))]
abbrev A7:List AO:=
 [(o2 122 23 [(ci 32),(ci 0),(.c (.n .i64 (-1))),(.c (.n .i64 (-1))),(.c (.n .u32 0))]),
  (o2 123 23 [(ci 32),(ci 1),(.c (.n .i64 (-1))),(.c (.n .i64 (-1))),(.c (.n .u32 0))]),
  (o2 124 23 [(ci 8),(ci 2),(ci 0),(ci 1),(.c (.n .u32 0))]),
  (o2 125 23 [(ci 8),(ci 3),(ci 0),(ci 1),(.c (.n .u32 0))]),
  (o2 126 23 [(ci 34),(.c (.n .i64 (-1))),(ci 3),(.c (.n .i64 (-1))),(.c (.n .u32 0))]),o1 127 (.bs 37 5 5 [.n .i64 0,.n .i64 0,.n .i64 0,.n .i64 0,.n .u32 0,.n .i64 0,.n .i64 0,.n .i64 0,.n .i64 0,.n .u32 0,.n .i64 0,.n .i64 0,.n .i64 0,.n .i64 0,.n .u32 0,.n .i64 0,.n .i64 0,.n .i64 0,.n .i64 0,.n .u32 0,.n .i64 0,.n .i64 0,.n .i64 0,.n .i64 0,.n .u32 0] [(0,5,(.t 122)),(5,5,(.t 123)),(10,5,(.t 124)),(15,5,(.t 125)),(20,5,(.t 126))]),
  (o2 128 22 [.t 127]),o1 11 (.al 25 [.sl0,.n .i64 0,.n .i64 0,.sl0]),
  (o3 (.st 4 (.t 11) (.t 128)))]
abbrev A6:List AO:=
 [o1 130 (.ld 4 true (.t 11)),
  (o2 131 15 [.t 130]),
  (mt 129 131),o1 132 (.ext 0 (.t 129)),o1 133 (.ext 1 (.t 129)),o1 12 (.al 25 [.sl0,.n .i64 0,.n .i64 0,.sl0]),
  (o3 (.st 4 (.t 12) (.t 132))),
  (mt 3 133)]
abbrev A5:List AO:=
 [o1 135 (.ld 4 true (.t 11)),
  (o2 136 19 [.t 135]),
  (mt 134 136),o1 137 (.ext 0 (.t 134)),o1 138 (.ext 1 (.t 134)),o1 13 (.al 25 [.sl0,.n .i64 0,.n .i64 0,.sl0]),
  (o3 (.st 4 (.t 13) (.t 137))),
  (mt 5 138)]
abbrev Bb:List (Nat×AO):=
 [(2,(o1 139 (.fa 3 (.t 11)))),(1,(o1 140 (.ld 1 false (.t 139)))),(2,(o1 141 (.ia 5 (.t 140) (ci 0)))),(1,(o1 142 (.ld 5 true (.t 141)))),(2,(o1 144 (.fa 3 (.t 11)))),(1,(o1 145 (.ld 1 false (.t 144)))),(2,(o1 146 (.ia 5 (.t 145) (ci 2)))),(1,(o1 147 (.ld 5 true (.t 146)))),(2,(o1 149 (.fa 3 (.t 11)))),(1,(o1 150 (.ld 1 false (.t 149)))),(2,(o1 151 (.ia 5 (.t 150) (ci 4)))),(1,(o1 152 (.ld 5 true (.t 151))))]
abbrev A4:AT:=
 (.alt (o2 143 23 [(ci 36),(ci 1),(ci 0),(.c (.n .i64 (-1))),(.c (.n .u32 0))]) (.alt (o2 148 23 [(ci 36),(ci 3),(ci 2),(.c (.n .i64 (-1))),(.c (.n .u32 0))]) (.alt (o1 153 (.bs 37 5 5 [.n .i64 0,.n .i64 0,.n .i64 0,.n .i64 0,.n .u32 0,.n .i64 0,.n .i64 0,.n .i64 0,.n .i64 0,.n .u32 0,.n .i64 0,.n .i64 0,.n .i64 0,.n .i64 0,.n .u32 0,.n .i64 0,.n .i64 0,.n .i64 0,.n .i64 0,.n .u32 0,.n .i64 0,.n .i64 0,.n .i64 0,.n .i64 0,.n .u32 0] [(0,5,(.t 142)),(5,5,(.t 143)),(10,5,(.t 147)),(15,5,(.t 148)),(20,5,(.t 152))])) (.alt (o2 154 22 [.t 153]) (.alt (o1 14 (.al 25 [.sl0,.n .i64 0,.n .i64 0,.sl0])) (.alt (o3 (.st 4 (.t 14) (.t 154))) .fin .none) .none) (.alt (o1 14 (.al 25 [.sl0,.n .i64 0,.n .i64 0,.sl0])) (.alt (o2 154 22 [.t 153]) (.alt (o3 (.st 4 (.t 14) (.t 154))) .fin .none) .none) .none)) (.alt (o1 14 (.al 25 [.sl0,.n .i64 0,.n .i64 0,.sl0])) (.alt (o1 153 (.bs 37 5 5 [.n .i64 0,.n .i64 0,.n .i64 0,.n .i64 0,.n .u32 0,.n .i64 0,.n .i64 0,.n .i64 0,.n .i64 0,.n .u32 0,.n .i64 0,.n .i64 0,.n .i64 0,.n .i64 0,.n .u32 0,.n .i64 0,.n .i64 0,.n .i64 0,.n .i64 0,.n .u32 0,.n .i64 0,.n .i64 0,.n .i64 0,.n .i64 0,.n .u32 0] [(0,5,(.t 142)),(5,5,(.t 143)),(10,5,(.t 147)),(15,5,(.t 148)),(20,5,(.t 152))])) (.alt (o2 154 22 [.t 153]) (.alt (o3 (.st 4 (.t 14) (.t 154))) .fin .none) .none) .none) .none)) (.alt (o1 14 (.al 25 [.sl0,.n .i64 0,.n .i64 0,.sl0])) (.alt (o2 148 23 [(ci 36),(ci 3),(ci 2),(.c (.n .i64 (-1))),(.c (.n .u32 0))]) (.alt (o1 153 (.bs 37 5 5 [.n .i64 0,.n .i64 0,.n .i64 0,.n .i64 0,.n .u32 0,.n .i64 0,.n .i64 0,.n .i64 0,.n .i64 0,.n .u32 0,.n .i64 0,.n .i64 0,.n .i64 0,.n .i64 0,.n .u32 0,.n .i64 0,.n .i64 0,.n .i64 0,.n .i64 0,.n .u32 0,.n .i64 0,.n .i64 0,.n .i64 0,.n .i64 0,.n .u32 0] [(0,5,(.t 142)),(5,5,(.t 143)),(10,5,(.t 147)),(15,5,(.t 148)),(20,5,(.t 152))])) (.alt (o2 154 22 [.t 153]) (.alt (o3 (.st 4 (.t 14) (.t 154))) .fin .none) .none) .none) .none) .none)) (.alt (o1 14 (.al 25 [.sl0,.n .i64 0,.n .i64 0,.sl0])) (.alt (o2 143 23 [(ci 36),(ci 1),(ci 0),(.c (.n .i64 (-1))),(.c (.n .u32 0))]) (.alt (o2 148 23 [(ci 36),(ci 3),(ci 2),(.c (.n .i64 (-1))),(.c (.n .u32 0))]) (.alt (o1 153 (.bs 37 5 5 [.n .i64 0,.n .i64 0,.n .i64 0,.n .i64 0,.n .u32 0,.n .i64 0,.n .i64 0,.n .i64 0,.n .i64 0,.n .u32 0,.n .i64 0,.n .i64 0,.n .i64 0,.n .i64 0,.n .u32 0,.n .i64 0,.n .i64 0,.n .i64 0,.n .i64 0,.n .u32 0,.n .i64 0,.n .i64 0,.n .i64 0,.n .i64 0,.n .u32 0] [(0,5,(.t 142)),(5,5,(.t 143)),(10,5,(.t 147)),(15,5,(.t 148)),(20,5,(.t 152))])) (.alt (o2 154 22 [.t 153]) (.alt (o3 (.st 4 (.t 14) (.t 154))) .fin .none) .none) .none) .none) .none) .none))
abbrev Ba:List (Nat×AO):=
 [(2,(mt 155 3)),
  (2,(mt 156 5)),(2,(o1 157 (.bin .add (.t 155) (.t 156)))),(2,(o1 158 (.bin .eql (.t 157) (ci 0)))),
  (2,(mt 159 158)),
  (1,(o5 160 159 (.ld 4 true (.t 12)))),
  (1,(o5 161 159 (.ld 4 true (.t 14)))),(0,⟨some 162,some (159,true),.cl (.c (.f 12 [] [])) [.t 160,.t 161]⟩),(2,(o1 163 (.pick (.t 159) (.t 162) (.c (.b false))))),
  (2,(mt 164 163)),
  (2,(o5 166 164 (.fa 3 (.t 11)))),
  (1,(o5 165 164 (.ld 4 true (.t 13)))),
  (1,(o5 167 164 (.ld 1 false (.t 166)))),
  (2,(o5 168 164 (.ia 5 (.t 167) (ci 0)))),
  (1,(o5 169 164 (.ld 5 true (.t 168)))),(0,⟨some 170,some (164,true),.cl (.c (.f 23 [] [])) [(ci 8),(ci 2),(ci 0),(ci 0),(.c (.n .u32 0))]⟩),(0,⟨some 171,some (164,true),.cl (.c (.f 23 [] [])) [(ci 34),(.c (.n .i64 (-1))),(ci 2),(.c (.n .i64 (-1))),(.c (.n .u32 0))]⟩),
  (0,(o5 172 164 (.bs 37 5 3 [.n .i64 0,.n .i64 0,.n .i64 0,.n .i64 0,.n .u32 0,.n .i64 0,.n .i64 0,.n .i64 0,.n .i64 0,.n .u32 0,.n .i64 0,.n .i64 0,.n .i64 0,.n .i64 0,.n .u32 0] [(0,5,(.t 169)),(5,5,(.t 170)),(10,5,(.t 171))]))),(0,⟨some 173,some (164,true),.cl (.c (.f 22 [] [])) [.t 172]⟩),(0,⟨some 174,some (164,true),.cl (.c (.f 12 [] [])) [.t 165,.t 173]⟩),(2,(o1 175 (.pick (.t 164) (.t 174) (.c (.b false))))),
  (2,(mt 0 175))]
abbrev Vz:AF:=⟨176,(.seq (.reg Jj) (.seq (.reg Ji) (.seq (.reg Jh) (.seq (.reg Jg) (.seq (.reg Jf) (.seq (.seq (.mix Jl) (.cond (.t 67) (.seq (.reg Je) .ret) .skip)) (.seq (.reg Jd) (.seq (.reg Jc) (.seq (.reg Jb) (.seq (.reg A9) (.seq (.seq (.mix Bc) (.cond (.t 121) (.seq (.reg A8) .ret) .skip)) (.seq (.reg A7) (.seq (.reg A6) (.seq (.reg A5) (.seq (.frk Bb A4) (.seq (.mix Ba) .ret)))))))))))))))),[.mv (.t 0)]⟩
theorem Jk:bj Tryz.prog (xh Tryz.prog 9) 9=some Vz:=by rw[<-yR];kernel_rfl
def dv(l:Nat->Int)(r:Int):Int:=if 0<=r/\0<=l r.toNat then l r.toNat else r
theorem kM{n:Nat}(l:Nat->Int)(r:Int)(hr:r<n):a7 Tryz.prog 37 [.fs 1 n (nF l),.n .i64 r] [.v (.n .i64 (dv l r))]:=by
 refine af ay Pm ⟨by simp,by decide⟩ ?_
 simp only[aZ]
 by_cases h0:0<=r
 ·obtain⟨q,rfl⟩:∃q:Nat,r=(q:Int):=⟨r.toNat,by omega⟩
  have e1:nF l q 0= .n .i64 (l q):=rfl
  by_cases h1:0<=l q
  ·repeat first|with_reducible refine ab ?_|simp only[h0,hr,e1,h1,decide_true,go_sem,simprocAttr]
   exact ah (by unfold dv;rw[if_pos ⟨h0,by simpa using h1⟩];simp) rfl
  ·have h2:l q<0:=by omega
   repeat first|with_reducible refine ab ?_|simp only[h0,hr,e1,h1,h2,decide_true,decide_false,go_sem,simprocAttr]
   exact ah (by unfold dv;rw[if_neg (by simp;omega)]) rfl
 ·have h2:r<0:=by omega
  repeat first|with_reducible refine ab ?_|simp only[h0,h2,decide_true,decide_false,go_sem,simprocAttr]
  exact ah (by unfold dv;rw[if_neg (by omega)]) rfl
def mZ(l:Nat->Int)(w:Nat->Bool)(i:Nat):Int:=if 0<=l i/\(w i=true\/w (l i).toNat=true) then-1 else l i
theorem pR(l:Nat->Int)(w:Nat->Bool)(k i:Nat):(if i<k+1 then mZ l w i else l i)=if i=k then mZ l w k else(if i<k then mZ l w i else l i):=by
 by_cases e:i=k
 ·subst e;rw[if_pos rfl,if_pos (by omega)]
 ·rw[if_neg e]
  by_cases h:i<k
  ·rw[if_pos h,if_pos (by omega)]
  ·rw[if_neg h,if_neg (by omega)]
theorem pQ{l:Nat->Int}{w:Nat->Bool}{k:Nat}(h:mZ l w k=l k)(i:Nat):(if i<k then mZ l w i else l i)=(if i<k+1 then mZ l w i else l i):=by
 rw[pR,h]
 by_cases e:i=k
 ·subst e;rw[if_neg (by omega),if_pos rfl]
 ·rw[if_neg e]
theorem dP{n:Nat}(l:Nat->Int)(w:Nat->Bool)(hn:n<1000000)(hl:∀i,i<n->l i<n):a7 Tryz.prog 38 [.fs 1 n (nF l),.fs 1 n (bF w)] [.o 3 1 n 0 (nF (mZ l w))]:=by
 refine af ay Pb ⟨by simp,by decide⟩ ?_
 simp only[aZ]
 have hm:n<1099511627776/\n*8<=140737488355328/\n<=9223372036854775807/\n<=140737488355328:=by omega
 repeat first|with_reducible refine ab ?_|simp only[hm.1,hm.2.1,hm.2.2.1,hm.2.2.2,decide_true,go_sem,simprocAttr]
 refine GA.loop (I:=λmm e H=>∃k:Nat,mm=n-k/\k<=n/\e=au [(1,.fs 1 n (bF w)),(5,.os 0 n),(6,.n .i64 k)]/\H=ao [am 3 1 n 0 (nF λi=>if i<k then mZ l w i else l i)]) (Wk.mk [0] [] ?_ ?_ ?_) ⟨0,rfl,by omega,rfl,rfl⟩ ?_
 ·simp only[aB,aD,go_sem,simprocAttr]
  repeat' refine aa ?_ ?_
  all_goals first|exact bi|skip
 ·refine .cons rfl (.rows (x:=_) (by simp only[go_sem,simprocAttr];rfl) (by rfl) (by rfl) (by rfl) (by simp only[go_sem,simprocAttr]<;>omega) (by simp only[go_sem,simprocAttr];exact Nat.le_refl _) (by decide) (λi j hi hj=>?_) (λi j _ _=>rfl)) .nil
  rw[hP hi hj (by omega)]
  rfl
 ·simp
 rintro mm e H ⟨k,rfl,hk,rfl,rfl⟩
 repeat first|with_reducible refine ab ?_|simp only[go_sem,simprocAttr]
 refine⟨λh=>?_,λh=>?_⟩
 ·have hkn:k<n:=by omega
  have h0:(0:Int)<=(k:Int):=by omega
  have hk1:k+1<=n:=hkn
  have hg:(am 3 1 n 0 (nF λi=>if i<k then mZ l w i else l i)).get k= .n .i64 (l k):=by
   rw[bH];simp only[nF];rw[if_neg (by omega)]
  have e2:bF w k 0= .b (w k):=rfl
  have hnx:=pR l w k
  by_cases hz:0<=l k
  ·obtain⟨q,hq⟩:∃q:Nat,l k=(q:Int):=⟨(l k).toNat,by omega⟩
   have hqn:(q:Int)<(n:Int):=by have:=hl k hkn;omega
   have hq0:(0:Int)<=(q:Int):=by omega
   have e3:bF w q 0= .b (w q):=rfl
   rw[hq] at hg
   cases h1:w k<;>cases h2:w q
   all_goals
    rw[h1] at e2
    rw[h2] at e3
    have hws:=show mZ l w k=if 0<=l k/\(w k=true\/w (l k).toNat=true) then-1 else l k from rfl
    rw[hq,Int.toNat_natCast,h1,h2] at hws
    simp only[hq0,true_and,or_true,true_or,if_true,Bool.false_eq_true,or_self,if_false] at hws
    repeat first|with_reducible refine ab ?_|simp only[h0,h,hkn,hk1,hg,e2,e3,hqn,hq0,decide_true,go_sem,simprocAttr]
    refine⟨_,_,_,?_,Wk.mk [0] [] ?_ ?_ ?_,k+1,rfl,by omega,rfl,rfl⟩
    ·omega
    ·simp only[aB,aD,go_sem,simprocAttr]
     repeat' refine aa ?_ ?_
     all_goals first|exact bi|skip
    ·first
      |refine .cons rfl (.put (q:=k) (by simp only[go_sem,simprocAttr]<;>rfl) (by simp) rfl hkn rfl (by decide) (by omega) (λi j h hj=>?_) (λi j _ hj=>rfl)) .nil
       cases Nat.lt_one_iff.1 hj
       simp only[nF]
       rw[hnx,hws]
       split<;>rfl
      |refine .cons rfl (.same (by simp only[go_sem,simprocAttr]<;>rfl) rfl (by decide) (λi j h hj=>?_) (λi j _ hj=>rfl)) .nil
       exact congrArg (AV.n .i64) (pQ (by rw[hws,hq]) i)
    ·simp
  ·have hz2:l k<0:=by omega
   have hws:mZ l w k=l k:=by unfold mZ;rw[if_neg (by omega)]
   repeat first|with_reducible refine ab ?_|simp only[h0,h,hkn,hk1,hg,hz,hz2,decide_false,go_sem,simprocAttr]
   refine⟨_,_,_,?_,Wk.mk [0] [] ?_ ?_ ?_,k+1,rfl,by omega,rfl,rfl⟩
   ·omega
   ·simp only[aB,aD,go_sem,simprocAttr]
    repeat' refine aa ?_ ?_
    all_goals first|exact bi|skip
   ·refine .cons rfl (.same (by simp only[go_sem,simprocAttr]<;>rfl) rfl (by decide) (λi j h hj=>?_) (λi j _ hj=>rfl)) .nil
    exact congrArg (AV.n .i64) (pQ hws i)
   ·simp
 ·repeat first|with_reducible refine ab ?_|simp only[go_sem,simprocAttr]
  have hkn:k=n:=by omega
  subst hkn
  refine⟨[_],rfl,.o (x:=_) (by simp only[go_sem,simprocAttr];rfl) (by rfl) (by rfl) (by rfl) (by decide) (Nat.le_refl _) (Nat.le_refl _) (λi j hi hj=>?_) (λi j _ _=>rfl) rfl .nil⟩
  rw[aH i j hj]
  simp only[nF]
  rw[if_pos hi]
def s5(a b:Nat->Int)(i:Nat):Int:=if a i=b i then a i else-1
theorem lw{n:Nat}(a b:Nat->Int)(hn:n<1000000):a7 Tryz.prog 39 [.fs 1 n (nF a),.fs 1 n (nF b)] [.o 3 1 n 0 (nF (s5 a b))]:=by
 refine af ay OZ ⟨by simp,by decide⟩ ?_
 simp only[aZ]
 have hm:n<1099511627776/\n*8<=140737488355328/\n<=9223372036854775807/\n<=140737488355328:=by omega
 repeat first|with_reducible refine ab ?_|simp only[hm.1,hm.2.1,hm.2.2.1,hm.2.2.2,decide_true,go_sem,simprocAttr]
 refine GA.loop (I:=λmm e H=>∃k:Nat,mm=n-k/\k<=n/\e=au [(0,.fs 1 n (nF a)),(1,.fs 1 n (nF b)),(5,.os 0 n),(6,.n .i64 k)]/\H=ao [am 3 1 n 0 (nF λi=>if i<k then s5 a b i else a i)]) (Wk.mk [0] [] ?_ ?_ ?_) ⟨0,rfl,by omega,rfl,rfl⟩ ?_
 ·simp only[aB,aD,go_sem,simprocAttr]
  repeat' refine aa ?_ ?_
  all_goals first|exact bi|skip
 ·refine .cons rfl (.rows (x:=_) (by simp only[go_sem,simprocAttr];rfl) (by rfl) (by rfl) (by rfl) (by simp only[go_sem,simprocAttr]<;>omega) (by simp only[go_sem,simprocAttr];exact Nat.le_refl _) (by decide) (λi j hi hj=>?_) (λi j _ _=>rfl)) .nil
  rw[hP hi hj (by omega)]
  rfl
 ·simp
 rintro mm e H ⟨k,rfl,hk,rfl,rfl⟩
 repeat first|with_reducible refine ab ?_|simp only[go_sem,simprocAttr]
 refine⟨λh=>?_,λh=>?_⟩
 ·have hkn:k<n:=by omega
  have h0:(0:Int)<=(k:Int):=by omega
  have hk1:k+1<=n:=hkn
  have e1:nF a k 0= .n .i64 (a k):=rfl
  have e2:nF b k 0= .n .i64 (b k):=rfl
  by_cases hz:a k=b k
  ·repeat first|with_reducible refine ab ?_|simp only[h0,h,hkn,hk1,e1,e2,hz,decide_true,go_sem,simprocAttr]
   refine⟨_,_,_,?_,Wk.mk [0] [] ?_ ?_ ?_,k+1,rfl,by omega,rfl,rfl⟩
   ·omega
   ·simp only[aB,aD,go_sem,simprocAttr]
    repeat' refine aa ?_ ?_
    all_goals first|exact bi|skip
   ·refine .cons rfl (.same (by simp only[go_sem,simprocAttr]<;>rfl) rfl (by decide) (λi j h hj=>?_) (λi j _ hj=>rfl)) .nil
    simp only[nF]
    by_cases e:i=k
    ·subst e;rw[if_neg (by omega),if_pos (by omega)];unfold s5;rw[if_pos hz]
    ·by_cases h9:i<k
     ·rw[if_pos h9,if_pos (by omega)]
     ·rw[if_neg h9,if_neg (by omega)]
   ·simp
  ·repeat first|with_reducible refine ab ?_|simp only[h0,h,hkn,hk1,e1,e2,hz,decide_false,go_sem,simprocAttr]
   refine⟨_,_,_,?_,Wk.mk [0] [] ?_ ?_ ?_,k+1,rfl,by omega,rfl,rfl⟩
   ·omega
   ·simp only[aB,aD,go_sem,simprocAttr]
    repeat' refine aa ?_ ?_
    all_goals first|exact bi|skip
   ·refine .cons rfl (.put (q:=k) (by simp only[go_sem,simprocAttr]<;>rfl) (by simp) rfl hkn rfl (by decide) (by omega) (λi j h hj=>?_) (λi j _ hj=>rfl)) .nil
    cases Nat.lt_one_iff.1 hj
    simp only[nF]
    by_cases e:i=k
    ·subst e;rw[if_pos rfl,if_pos (by omega)];unfold s5;rw[if_neg hz];rfl
    ·rw[if_neg e]
     by_cases h9:i<k
     ·rw[if_pos h9,if_pos (by omega)]
     ·rw[if_neg h9,if_neg (by omega)]
   ·simp
 ·repeat first|with_reducible refine ab ?_|simp only[go_sem,simprocAttr]
  have hkn:k=n:=by omega
  subst hkn
  refine⟨[_],rfl,.o (x:=_) (by simp only[go_sem,simprocAttr];rfl) (by rfl) (by rfl) (by rfl) (by decide) (Nat.le_refl _) (Nat.le_refl _) (λi j hi hj=>?_) (λi j _ _=>rfl) rfl .nil⟩
  rw[aH i j hj]
  simp only[nF]
  rw[if_pos hi]
theorem wI{n q:Nat}(hn:n<1000000)(hq:q<n):a7 Tryz.prog 40 [.n .i64 n,.n .i64 q] [.o 4 1 n 0 (bF λi=>decide (i=q))]:=by
 refine af ay OS ⟨by simp,by decide⟩ ?_
 simp only[aZ]
 have hl1:n<1099511627776:=by omega
 have hl2:n<=140737488355328:=by omega
 have hl3:(0:Int)<=(n:Int):=by omega
 have hl4:(n:Int)<=16777216:=by omega
 have hl5:1*n<=140737488355328:=by omega
 have hq0:(0:Int)<=(q:Int):=by omega
 have hq1:(q:Int)<(n:Int):=by omega
 have hq3:q+1<=n:=hq
 repeat first|with_reducible refine ab ?_|simp only[hl1,hl2,hl3,hl4,hl5,Int.le_refl,decide_true,hq0,hq1,hq,hq3,go_sem,simprocAttr]
 refine⟨[_],rfl,.o (x:=_) (by simp only[go_sem,simprocAttr];rfl) (by rfl) (by rfl) (by rfl) (by decide) (by simp only[go_sem,simprocAttr]) (Nat.le_refl _) (λi j hi hj=>?_) (λi j _ _=>rfl) rfl .nil⟩
 have:=lF (ty:=4) (esz:=1) (n:=n) (z:=0) (row:=λ_ j=>[AV.b false][j]?.getD .u) (l:=[.b true]) rfl hq (by omega) i j hi hj
 rw[Nat.mul_one] at this
 refine Eq.trans this ?_
 cases Nat.lt_one_iff.1 hj
 by_cases e:i=q
 ·rw[if_pos e];simp only[bF,decide_eq_true e];rfl
 ·rw[if_neg e];simp only[bF,decide_eq_false e];rfl
end Go.Proofs.YtidhfimbnjaceaaGreat