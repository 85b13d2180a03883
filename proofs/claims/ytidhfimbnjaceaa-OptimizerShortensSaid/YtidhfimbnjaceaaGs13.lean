/- A part of the proof of OptimizerShortens: FvA FwV FsA FwS FsB FvB FwK AcH. No condition. -/
import Derived.Test.YtidhfimbnjaceaaGs12
import Derived.Test.YtidhfimbnjaceaaGs10
import Derived.Test.YtidhfimbnjaceaaGs11
import Derived.Test.YtidhfimbnjaceaaProg
set_option linter.unusedSimpArgs false
set_option linter.unusedVariables false
set_option linter.constructorNameAsVariable false
set_option maxRecDepth 100000
set_option maxHeartbeats 4000000
namespace Go.Proofs.Ytidhfimbnjaceaa
open Go.RowKit
def dR(f g:In):Bool:=decide (f=g)
theorem jE(f g:In):dR f g=(decide (f.1=g.1)&&(decide (f.2.1=g.2.1)&&(decide (f.2.2.1=g.2.2.1)&&(decide (f.2.2.2.1=g.2.2.2.1)&&decide (f.2.2.2.2=g.2.2.2.2))))):=by
 obtain⟨a,b,c,d,e⟩:=f
 obtain⟨a',b',c',d',e'⟩:=g
 unfold dR
 rw[Bool.eq_iff_iff]
 simp[Prod.ext_iff]
theorem nV(l:List (In))(f:In)(hl:l.length<1000000):bj Try.prog 103 [.fs 5 l.length (cC l),aI f] [.v (.n .i64 (dy (λg=>dR f g) l 0))]:=by
 refine ae aH BI ⟨by simp,by decide⟩ ?_
 simp only[aV,aI]
 repeat first|with_reducible refine gg ?_|simp only[go_sem,simprocAttr]
 refine GA.loop (I:=λm e H=>∃k:Nat,m=l.length-k/\k<=l.length/\dy (λg=>dR f g) l 0=dy (λg=>dR f g) (l.drop k) k/\e=aL [(0,.fs 5 l.length (cC l)),(3,.p 0 0),(6,.fs 5 l.length (cC l)),(7,.n .i64 l.length),(8,.n .i64 k)]/\H=aq [aK 0 91 [.n .i64 f.1,.n .i64 f.2.1,.n .i64 f.2.2.1,.n .i64 f.2.2.2.1,.n .u32 f.2.2.2.2]]) (Wk.mk [0] [] ?_ ?_ ?_) ⟨0,rfl,by omega,rfl,rfl,rfl⟩ ?_
 ·simp only[aZ,a7,go_sem,simprocAttr]
  repeat' refine aa ?_ ?_
  all_goals first|exact bX|skip
 ·exact .cons rfl (.ls) .nil
 ·simp
 rintro m e H ⟨k,rfl,hk,hs,rfl,rfl⟩
 repeat first|with_reducible refine gg ?_|simp only[go_sem,simprocAttr]
 refine⟨λh=>?_,λh=>?_⟩
 ·have hk':k<l.length:=by omega
  have h0:(0:Int)<=(k:Int):=by omega
  rw[bq (d:=(0,0,0,0,0)) hk',dy] at hs
  repeat first|with_reducible refine gg ?_|simp only[h0,h,ki,ny,ou,ot,oo,mg,jw,f9,l6,SH.row,go_sem,simprocAttr]
  refine⟨λh1=>?_,λh1=>?_⟩
  ·repeat first|with_reducible refine gg ?_|simp only[go_sem,simprocAttr]
   rw[if_pos (by rw[jE];simp only[Bool.and_eq_true,decide_eq_true_eq];exact h1)] at hs
   exact ag (by rw[hs]) rfl
  ·repeat first|with_reducible refine gg ?_|simp only[go_sem,simprocAttr]
   rw[if_neg (by rw[jE,h1];simp)] at hs
   refine⟨_,_,_,?_,Wk.mk [0] [] ?_ ?_ ?_,k+1,rfl,by omega,hs,rfl,rfl⟩
   ·omega
   ·simp only[aZ,a7,go_sem,simprocAttr]
    repeat' refine aa ?_ ?_
    all_goals first|exact bX|skip
   ·exact .cons rfl (.lst (by first|(simp only[go_sem,simprocAttr];done)|(simp only[go_sem,simprocAttr];rfl)|rfl) rfl (by simp) rfl) .nil
   ·simp
 ·repeat first|with_reducible refine gg ?_|simp only[go_sem,simprocAttr]
  have:k=l.length:=by omega
  subst this
  rw[List.drop_length,dy] at hs
  exact ag (by rw[hs]) rfl
theorem kG(l:List (In))(f:In)(hl:l.length<1000000):bj Try.prog 79 [.fs 5 l.length (cC l),aI f] [.v (.b (l.any λg=>dR f g))]:=by
 refine ae aH BQ ⟨by simp,by decide⟩ ?_
 simp only[aV,aI]
 repeat first|with_reducible refine gg ?_|simp only[go_sem,simprocAttr]
 refine g2 (nV l f hl) ?_
 repeat first|with_reducible refine gg ?_|simp only[go_sem,simprocAttr]
 exact ag (by rw[<-dj _ l 0]) rfl
theorem qh(l m:List (In))(hl:l.length<1000000)(hm:m.length<1000000):bj Try.prog 68 [.fs 5 l.length (cC l),.fs 5 m.length (cC m)]
  [.o 91 5 (l.filter λf=>m.any λg=>dR f g).length 0 (cC (l.filter λf=>m.any λg=>dR f g))]:=by
 refine ae aH B5 ⟨by simp,by decide⟩ ?_
 generalize hp:(λf:In=>m.any λg=>dR f g)=p
 simp only[aV]
 repeat first|with_reducible refine gg ?_|simp only[go_sem,simprocAttr]
 refine GA.wk (Wk.nil 5 5 91 (by simp only[go_sem,simprocAttr]) (by decide) (by simp only[go_sem,simprocAttr])) ?_
 simp only[cA]
 refine GA.loop (I:=λmm e H=>∃(k:Nat) (xs:List (In)),mm=l.length-k/\k<=l.length/\xs=(l.take k).filter p/\e=aL [(1,.fs 5 m.length (cC m)),(8,.fs 5 l.length (cC l)),(9,.n .i64 l.length),(10,.n .i64 k),(5,.os 0 xs.length)]/\H=aq [ax 91 5 xs.length 0 (cC xs)]) (Wk.mk [0] [] ?_ ?_ ?_) ⟨0,[],rfl,by omega,rfl,rfl,rfl⟩ ?_
 ·simp only[aZ,a7,go_sem,simprocAttr]
  repeat' refine aa ?_ ?_
  all_goals first|exact bX|skip
 ·exact .cons rfl (.r1) .nil
 ·simp
 rintro mm e H ⟨k,xs,rfl,hk,hs,rfl,rfl⟩
 repeat first|with_reducible refine gg ?_|simp only[go_sem,simprocAttr]
 refine⟨λh=>?_,λh=>?_⟩
 ·have hk':k<l.length:=by omega
  have h0:(0:Int)<=(k:Int):=by omega
  repeat first|with_reducible refine gg ?_|simp only[h0,h,ki,ny,ou,ot,oo,go_sem,simprocAttr]
  have hlt:xs.length<=l.length:=by rw[hs];exact Nat.le_trans (List.length_filter_le _ _) (by rw[List.length_take];exact Nat.min_le_right _ _)
  refine g2 (kG m (l.getD k (0,0,0,0,0)) hm) ?_
  have hpk:(m.any λg=>dR (l.getD k (0,0,0,0,0)) g)=p (l.getD k (0,0,0,0,0)):=by rw[<-hp]
  rw[hpk]
  have htk:(l.take (k+1)).filter p=xs++(if p (l.getD k (0,0,0,0,0))=true then[l.getD k (0,0,0,0,0)] else[]):=by
   rw[ey (d:=(0,0,0,0,0)) hk',List.filter_append,<-hs]
   simp only[List.filter_cons,List.filter_nil]
  have hlim:(xs.length+1)*5<1099511627776/\(xs.length+1)*40<=140737488355328/\xs.length+1<=9223372036854775807:=by omega
  repeat first|with_reducible refine gg ?_|simp only[go_sem,simprocAttr]
  refine⟨λh1=>?_,λh1=>?_⟩
  ·rw[if_pos h1] at htk
   repeat first|with_reducible refine gg ?_|simp only[hlim.1,hlim.2.1,hlim.2.2,decide_true,go_sem,simprocAttr]
   refine⟨_,_,_,?_,Wk.mk [3] [] ?_ ?_ ?_,k+1,xs++[l.getD k (0,0,0,0,0)],rfl,by omega,htk.symm,rfl,rfl⟩
   ·omega
   ·simp only[aZ,a7,go_sem,simprocAttr]
    repeat' refine aa ?_ ?_
    all_goals first|exact bX|skip
   ·refine .cons rfl (.rows (x:=_) (by simp only[go_sem,simprocAttr];rfl) (by rfl) (by rfl) (by rfl) ?_ (Nat.le_refl _) (by decide) ?_ (λi j _ hj=>by rcases cD hj with rfl|rfl|rfl|rfl|rfl<;>rfl)) .nil
    ·simp only[go_sem,simprocAttr];omega
    ·simp only[go_sem,simprocAttr]
     exact dg rfl (by omega) (λi j hi _=>by unfold cC;rw[aP hi]) (λj hj=>by
      have hj2:=cD hj
      unfold cC
      rw[aQ]
      rcases hj2 with rfl|rfl|rfl|rfl|rfl<;>rfl)
   ·simp
  ·rw[if_neg (by rw[h1];simp),List.append_nil] at htk
   repeat first|with_reducible refine gg ?_|simp only[go_sem,simprocAttr]
   refine⟨_,_,_,?_,Wk.mk [0] [] ?_ ?_ ?_,k+1,xs,rfl,by omega,htk.symm,rfl,rfl⟩
   ·omega
   ·simp only[aZ,a7,go_sem,simprocAttr]
    repeat' refine aa ?_ ?_
    all_goals first|exact bX|skip
   ·exact .cons rfl (.k5) .nil
   ·simp
 ·repeat first|with_reducible refine gg ?_|simp only[go_sem,simprocAttr]
  have:k=l.length:=by omega
  subst this
  rw[List.take_length] at hs
  subst hs
  refine⟨[_],rfl,.o (x:=_) (by simp only[go_sem,simprocAttr];rfl) (by rfl) (by rfl) (by rfl) (by decide) (Nat.le_refl _) (Nat.le_refl _) (λi j _ hj=>aX i j hj) (λi j _ hj=>by rcases cD hj with rfl|rfl|rfl|rfl|rfl<;>rfl) rfl .nil⟩
theorem ks(x:In)(f:In)(g:FuncId)(c1 c2:List AV)(vv:AV)(D:Bool)(hd:bj Try.prog g (c1++[aI x,aI f]++c2) [.v (.b D)])(hpu:(c1.all (AV.pu 2)&&c2.all (AV.pu 2))=true):
  bj Try.prog 78 [aI x,.fp 2 (λj=>[AV.f g c1 c2,vv][j]?.getD .u) 0,.fp 5 (λj=>[AV.n .i64 f.1,AV.n .i64 f.2.1,AV.n .i64 f.2.2.1,AV.n .i64 f.2.2.2.1,AV.n .u32 f.2.2.2.2][j]?.getD .u) 0] [.v (.b D)]:=by
 refine ae aH BU ⟨by simp,by decide⟩ ?_
 simp only[aV,aI]
 repeat first|with_reducible refine gg ?_|simp only[go_sem,simprocAttr]
 refine ah [] (fargs:=c1++[aI x,aI f]++c2) ?_ hd (by simp only[bD,aJ,List.length_nil];decide) ?_
 ·refine gG.same ?_
  simp only[List.all_append,Bool.and_eq_true] at hpu ⊢
  exact⟨⟨bH hpu.1,rfl⟩,bH hpu.2⟩
 repeat first|with_reducible refine gg ?_|simp only[go_sem,simprocAttr]
 exact ag rfl rfl
theorem fe(l:List (In))(cs:List In)(g:FuncId)(c1 c2:List AV)(vv:AV)(D:In->In->Bool)(hd:∀x ∈ cs,∀f,bj Try.prog g (c1++[aI x,aI f]++c2) [.v (.b (D x f))])(hpu:(c1.all (AV.pu 2)&&c2.all (AV.pu 2))=true)(hvv:vv.cell=true)
  (hl:l.length<1000000) (hcs:cs.length<1000000):
  bj Try.prog 67 [.fs 5 l.length (cC l),.agg [.f g c1 c2,vv],.fs 5 cs.length (cC cs)]
   [.o 91 5 (l.filter λf=> !cs.any λx=>D x f).length 0 (cC (l.filter λf=> !cs.any λx=>D x f))]:=by
 refine ae aH Cg ⟨by simp,by decide⟩ ?_
 have hfn:(AV.f g c1 c2).cell=true:=by
  simp only[AV.cell,AV.pu,AV.one,Bool.and_true];exact hpu
 have hvo:vv.one=true:=by simp only[AV.cell,Bool.and_eq_true] at hvv;exact hvv.2
 have hvp:vv.pu 3=true:=by simp only[AV.cell,Bool.and_eq_true] at hvv;exact hvv.1
 have hfp:(AV.f g c1 c2).pu 3=true:=hpu
 generalize hp:(λf:In=> !cs.any λx=>D x f)=p
 simp only[aV]
 repeat first|with_reducible refine gg ?_|simp only[hvo,go_sem,simprocAttr]
 refine GA.wk (Wk.nil 7 5 91 (by simp only[go_sem,simprocAttr]) (by decide) (by simp only[bD,aJ,List.length_nil];decide)) ?_
 simp only[cA]
 refine GA.loop (I:=λmm e H=>∃(k:Nat) (xs:List (In)),mm=l.length-k/\k<=l.length/\xs=(l.take k).filter p/\e=aL [(2,.fs 5 cs.length (cC cs)),(4,.p 0 0),(10,.fs 5 l.length (cC l)),(11,.n .i64 l.length),(12,.n .i64 k),(7,.os 1 xs.length)]/\H=aq [ax 91 5 xs.length 0 (cC xs),jY 0 99 [.f g c1 c2,vv]]) (Wk.mk [1,0] [] ?_ ?_ ?_) ⟨0,[],rfl,by omega,rfl,rfl,rfl⟩ ?_
 ·simp only[aZ,a7,go_sem,simprocAttr]
  repeat' refine aa ?_ ?_
  all_goals first|exact bX|skip
 ·refine .cons rfl (.r1) (.cons rfl (.lstz (x:=_) (by simp only[go_sem,simprocAttr];rfl) (by rfl) (by rfl) (by rfl) (by rfl) (by simp) (by simp) (λi hi=>by simp only[iK,List.length_cons,List.length_nil,Nat.reduceAdd,Nat.reduceLT]) (by simp only[List.all_cons,List.all_nil,hfp,hvp,Bool.and_self])) .nil)
 ·simp
 rintro mm e H ⟨k,xs,rfl,hk,hs,rfl,rfl⟩
 repeat first|with_reducible refine gg ?_|simp only[go_sem,simprocAttr]
 refine⟨λh=>?_,λh=>?_⟩
 ·have hk':k<l.length:=by omega
  have h0:(0:Int)<=(k:Int):=by omega
  repeat first|with_reducible refine gg ?_|simp only[h0,h,ki,ny,ou,ot,oo,go_sem,simprocAttr]
  have hlt:xs.length<=l.length:=by rw[hs];exact Nat.le_trans (List.length_filter_le _ _) (by rw[List.length_take];exact Nat.min_le_right _ _)
  refine ah [0,2] (fargs:=[.fs 5 cs.length (cC cs),.f 78 [] [.fp 2 (λj=>[AV.f g c1 c2,vv][j]?.getD .u) 0,.fp 5 (λj=>[AV.n .i64 (l.getD k (0,0,0,0,0)).1,AV.n .i64 (l.getD k (0,0,0,0,0)).2.1,AV.n .i64 (l.getD k (0,0,0,0,0)).2.2.1,AV.n .i64 (l.getD k (0,0,0,0,0)).2.2.2.1,AV.n .u32 (l.getD k (0,0,0,0,0)).2.2.2.2][j]?.getD .u) 0]])
   ?_
   (dk cs 78 [] _ (λx=>D x (l.getD k (0,0,0,0,0))) (λx hx=>ks x (l.getD k (0,0,0,0,0)) g c1 c2 vv (D x (l.getD k (0,0,0,0,0))) (hd x hx _) hpu) hcs rfl) (by simp only[go_sem,simprocAttr]) ?_
  ·refine .cons (.rfl rfl) (.cons (.fn .nil (.cons ?_ (.cons ?_ .nil))) .nil)
   ·exact Cv.box (l:=[AV.f g c1 c2,vv]) (b:=0) rfl (x:=_) (by simp only[go_sem,simprocAttr];rfl) (by rfl) (by simp) (λj hj=>by simp only[cF,List.length_cons,List.length_nil,Nat.reduceAdd,Nat.reduceLT]) (by simp only[List.all_cons,List.all_nil,hfn,hvv,Bool.and_self])
   ·refine Cv.box (l:=[AV.n .i64 (l.getD k (0,0,0,0,0)).1,AV.n .i64 (l.getD k (0,0,0,0,0)).2.1,AV.n .i64 (l.getD k (0,0,0,0,0)).2.2.1,AV.n .i64 (l.getD k (0,0,0,0,0)).2.2.2.1,AV.n .u32 (l.getD k (0,0,0,0,0)).2.2.2.2]) (b:=2) rfl (x:=_) (by simp only[go_sem,simprocAttr];rfl) (by rfl) (by simp) (λj hj=>?_) rfl
    have hj2:=cD (by simpa using hj)
    rcases hj2 with rfl|rfl|rfl|rfl|rfl<;>simp only[go_sem,simprocAttr]
  have hpk:(!cs.any λx=>D x (l.getD k (0,0,0,0,0)))=p (l.getD k (0,0,0,0,0)):=by rw[<-hp]
  have htk:(l.take (k+1)).filter p=xs++(if p (l.getD k (0,0,0,0,0))=true then[l.getD k (0,0,0,0,0)] else[]):=by
   rw[ey (d:=(0,0,0,0,0)) hk',List.filter_append,<-hs]
   simp only[List.filter_cons,List.filter_nil]
  have hlim:(xs.length+1)*5<1099511627776/\(xs.length+1)*40<=140737488355328/\xs.length+1<=9223372036854775807:=by omega
  repeat first|with_reducible refine gg ?_|simp only[hpk,go_sem,simprocAttr]
  refine⟨λh1=>?_,λh1=>?_⟩
  ·rw[if_pos h1] at htk
   repeat first|with_reducible refine gg ?_|simp only[hlim.1,hlim.2.1,hlim.2.2,decide_true,go_sem,simprocAttr]
   refine⟨_,_,_,?_,Wk.mk [4,0] [] ?_ ?_ ?_,k+1,xs++[l.getD k (0,0,0,0,0)],rfl,by omega,htk.symm,rfl,rfl⟩
   ·omega
   ·simp only[aZ,a7,go_sem,simprocAttr]
    repeat' refine aa ?_ ?_
    all_goals first|exact bX|skip
   ·refine .cons rfl (.rows (x:=_) (by simp only[go_sem,simprocAttr];rfl) (by rfl) (by rfl) (by rfl) ?_ (Nat.le_refl _) (by decide) ?_ (λi j _ hj=>by rcases cD hj with rfl|rfl|rfl|rfl|rfl<;>rfl)) (.cons rfl (.lstz (x:=_) (by simp only[go_sem,simprocAttr];rfl) (by rfl) (by rfl) (by rfl) (by rfl) ?_ (by simp) ?_ (by simp only[List.all_cons,List.all_nil,hfp,hvp,Bool.and_self])) .nil)
    ·simp only[go_sem,simprocAttr];omega
    ·simp only[go_sem,simprocAttr]
     exact dg rfl (by omega) (λi j hi _=>by unfold cC;rw[aP hi]) (λj hj=>by
      have hj2:=cD hj
      unfold cC
      rw[aQ]
      rcases hj2 with rfl|rfl|rfl|rfl|rfl<;>rfl)
    ·simp[hO,dw,eh]
    ·intro i hi
     exact cF _ _ _ i (by simp)
   ·simp
  ·rw[if_neg (by rw[h1];simp),List.append_nil] at htk
   repeat first|with_reducible refine gg ?_|simp only[go_sem,simprocAttr]
   refine⟨_,_,_,?_,Wk.mk [1,0] [] ?_ ?_ ?_,k+1,xs,rfl,by omega,htk.symm,rfl,rfl⟩
   ·omega
   ·simp only[aZ,a7,go_sem,simprocAttr]
    repeat' refine aa ?_ ?_
    all_goals first|exact bX|skip
   ·refine .cons rfl (.k5) (.cons rfl (.lstz (x:=_) (by simp only[go_sem,simprocAttr];rfl) (by rfl) (by rfl) (by rfl) (by rfl) ?_ (by simp) ?_ (by simp only[List.all_cons,List.all_nil,hfp,hvp,Bool.and_self])) .nil)
    ·simp[hO,dw,eh]
    ·intro i hi
     exact cF _ _ _ i (by simp)
   ·simp
 ·repeat first|with_reducible refine gg ?_|simp only[go_sem,simprocAttr]
  have:k=l.length:=by omega
  subst this
  rw[List.take_length] at hs
  subst hs
  refine⟨[_],rfl,.o (x:=_) (by simp only[go_sem,simprocAttr];rfl) (by rfl) (by rfl) (by rfl) (by decide) (Nat.le_refl _) (Nat.le_refl _) (λi j _ hj=>aX i j hj) (λi j _ hj=>by rcases cD hj with rfl|rfl|rfl|rfl|rfl<;>rfl) rfl .nil⟩
theorem fC(l:List In)(i j:Nat)(hj:j<5):(cC l i j).cell=true:=by
 have h5:j=0\/j=1\/j=2\/j=3\/j=4:=by omega
 rcases h5 with rfl|rfl|rfl|rfl|rfl<;>first|rfl|omega
def tP(st:List (List In))(i _j:Nat):AV:= .fs 5 (st.reverse.getD i []).length (cC (st.reverse.getD i []))
theorem ir(st:List (List In))(t:List In)(i j:Nat)(hi:i<st.length):tP (t::st) i j=tP st i j:=by
 unfold tP;rw[List.reverse_cons,aP (by simpa using hi)]
theorem jz(st:List (List In))(t:List In)(j:Nat):tP (t::st) st.length j= .fs 5 t.length (cC t):=by
 unfold tP;rw[List.reverse_cons]
 have:=aQ (l:=st.reverse) (x:=t) (d:=[])
 rw[List.length_reverse] at this
 rw[this]
theorem pe{n0:Nat}{pf:In->Prop}(D:In->In->Bool)(V:In->List In->In×Bool×List In)(g v:FuncId)(cs:List In)(fs0:List In)(pt:List Int)(fin:nq In)
  (hD:∀x,opOk x->∀f,bj Try.prog g ([]++[aI x,aI f]++[]) [.v (.b (D x f))])
  (hV:∀x ∈ cs,∀fs:List In,fs.length<1000000->(∀f ∈ fs,pf f)->bj Try.prog v [aI x,.fs 5 fs.length (cC fs)] [.v (aI (V x fs).1),.v (.b (V x fs).2.1),.v (.fs 5 (V x fs).2.2.length (cC (V x fs).2.2))])
  (hV1:∀x ∈ cs,∀fs:List In,(∀f ∈ fs,pf f)->(V x fs).2.2.length<=1/\∀f ∈ (V x fs).2.2,pf f)
  (hV2:∀x ∈ cs,∀fs:List In,(∀f ∈ fs,pf f)->opOk (V x fs).1)
  (hcs:cs.length<400000) (hok:∀x ∈ cs,opOk x) (hn0:fs0.length<=n0) (hn1:n0<400000) (hpf:∀f ∈ fs0,pf f)
  (hpt:dP cs=some pt) (hptl:pt.length=cs.length) (hgo:bI D (dR) V cs pt cs 0 ⟨[],fs0,[]⟩=some fin):
  bj Try.prog 47 [.fs 5 cs.length (cC cs),.fs 5 fs0.length (cC fs0),.agg [.f g [] [],.f v [] []]] [.o 38 5 fin.out.length 0 (cC fin.out)]:=by
 have hpa:=gy cs (by omega) pt hpt
 refine ae aH C6 ⟨by simp,by decide⟩ ?_
 simp only[aV]
 have hfg:(AV.f g [] []).pu 3=true:=rfl
 have hfv:(AV.f v [] []).pu 3=true:=rfl
 repeat first|with_reducible refine gg ?_|simp only[go_sem,simprocAttr]
 refine g1 hpa ?_
 simp only[go_sem,simprocAttr]
 refine GA.wk (Wk.mk (L:=[(0,.fs 5 cs.length (cC cs)),(1,.fs 5 fs0.length (cC fs0)),(5,.p 0 0),(7,.fs 1 pt.length (iC .i64 pt))]) (bl:=[aK 0 99 [.f g [] [],.f v [] []]]) [0] [1] ?_ ?_ ?_) ?_
 ·simp only[aZ,a7,go_sem,simprocAttr]
  repeat' refine aa ?_ ?_
  all_goals first|trivial|exact Wv.same rfl|exact Wv.p rfl|skip
  refine Wv.cv (Cv.own (ty:=3) (z:=0) (by simp) (by simp only[go_sem,simprocAttr]) (λi j _ _=>rfl))
 ·refine .cons rfl (.ls) .nil
 ·simp
 with_reducible refine GA.seq ?_
 with_reducible refine GA.reg ?_
 simp only[go_sem,simprocAttr]
 with_reducible refine GA.seq ?_
 with_reducible refine GA.reg ?_
 simp only[go_sem,simprocAttr]
 refine GA.wk (Wk.nil 8 5 38 (by simp only[go_sem,simprocAttr]) (by decide) (by simp only[go_sem,simprocAttr])) ?_
 refine GA.wk (Wk.nil 9 1 93 (by simp only[go_sem,simprocAttr]) (by decide) (by simp only[go_sem,simprocAttr])) ?_
 simp only[cA]
 repeat first|with_reducible refine gg ?_|simp only[go_sem,simprocAttr]
 refine GA.loop (I:=λmm e H=>∃(k:Nat) (s:nq In),mm=cs.length-k/\k<=cs.length/\qu pf n0 k s/\bI D (dR) V cs pt (cs.drop k) k s=some fin/\
   e=aL [(0,.fs 5 cs.length (cC cs)),(1,.fs 5 s.fs.length (cC s.fs)),(5,.p 0 0),(7,.fs 1 pt.length (iC .i64 pt)),(18,.fs 5 cs.length (cC cs)),(19,.n .i64 cs.length),(20,.n .i64 k),(8,.os 1 s.out.length),(9,.os 2 s.op.length)]/\
   H=aq [ax 93 1 s.op.length 0 (tP s.op),ax 38 5 s.out.length 0 (cC s.out),aK 0 99 [.f g [] [],.f v [] []]]) (Wk.mk [2,1,0] [] ?_ ?_ ?_) ⟨0,⟨[],fs0,[]⟩,rfl,by omega,⟨by simp,by simp,by simp only;omega,hpf,by simp,by simp⟩,hgo,rfl,rfl⟩ ?_
 ·simp only[aZ,a7,go_sem,simprocAttr]
  repeat' refine aa ?_ ?_
  all_goals first|exact bX|skip
 ·refine .cons rfl (.r0) (.cons rfl (.r0) (.cons rfl (.ls) .nil))
 ·simp
 rintro mm e H ⟨k,⟨out,fs,op⟩,rfl,hk,hinv,hs,rfl,rfl⟩
 have⟨hi1,hi2,hi3,hi4,hi5,hi6⟩:=hinv
 simp only at hi1 hi2 hi3 hi4 hi5 hi6
 repeat first|with_reducible refine gg ?_|simp only[go_sem,simprocAttr]
 refine⟨λh=>?_,λh=>?_⟩
 ·have hkn:k<cs.length:=by omega
  have h0:(0:Int)<=(k:Int):=by omega
  have hk1:k+1<=cs.length:=hkn
  have hm:cs.getD k ej ∈ cs:=by rw[List.getD_eq_getElem?_getD,List.getElem?_eq_getElem hkn];exact List.getElem_mem _
  rw[bq (d:=ej) hkn,bI] at hs
  obtain⟨s2,hst,hs⟩:=Option.bind_eq_some_iff.1 hs
  have hcc0:cC cs k 0= .n .i64 (cs.getD k ej).1:=ki cs k
  have hcc1:cC cs k 1= .n .i64 (cs.getD k ej).2.1:=ny cs k
  have hcc2:cC cs k 2= .n .i64 (cs.getD k ej).2.2.1:=ou cs k
  have hcc3:cC cs k 3= .n .i64 (cs.getD k ej).2.2.2.1:=ot cs k
  have hcc4:cC cs k 4= .n .u32 (cs.getD k ej).2.2.2.2:=oo cs k
  generalize cs.getD k ej=x at hst hcc0 hcc1 hcc2 hcc3 hcc4 hm
  have hcv:=hV x hm fs (by omega) hi4
  have hv1:=hV1 x hm
  have hv2:=hV2 x hm fs hi4
  have key:=fh hinv hv1 hst
  have hv1:=hv1 fs hi4
  unfold cu at hst
  simp only at hst
  generalize V x fs=r at hst hcv hv1 hv2
  obtain⟨y,rem,more⟩:=r
  obtain⟨opc,to,a,b,arg⟩:=x
  obtain⟨yopc,yto,ya,yb,yarg⟩:=y
  simp only[aI] at hst hcv hv1 hv2 hcc0 hcc1 hcc2 hcc3 hcc4
  repeat first|with_reducible refine gg ?_|simp only[h0,h,hcc0,hcc1,hcc2,hcc3,hcc4,go_sem,simprocAttr]
  refine g2 hcv ?_
  repeat first|with_reducible refine gg ?_|simp only[go_sem,simprocAttr]
  have ht:rem=false\/rem=true:=by cases rem<;>simp
  refine⟨λhr=>?_,λhr=>?_⟩
  ·rw[hr,if_neg (by simp)] at hst
   cases hst
   repeat first|with_reducible refine gg ?_|simp only[go_sem,simprocAttr]
   refine⟨_,_,_,?_,Wk.mk [2,1,0] [] ?_ ?_ ?_,k+1,_,rfl,by omega,key,hs,rfl,rfl⟩
   ·omega
   ·simp only[aZ,a7,go_sem,simprocAttr]
    repeat' refine aa ?_ ?_
    all_goals first|exact bX|skip
   ·refine .cons rfl (.k1) (.cons rfl (.k5) (.cons rfl (.ls) .nil))
   ·simp
  rw[hr,if_pos rfl] at hst
  obtain⟨⟨fs',op'⟩,hsw,rfl⟩:=Option.map_eq_some_iff.1 hst
  simp only at key hs
  have hinv2:=fg hinv hsw
  obtain⟨hj1,hj2,hj3,hj4,hj5⟩:=hinv2
  simp only at hj1 hj2 hj3 hj4 hj5
  (try simp only[go_sem,simprocAttr])
  iterate 4 (with_reducible refine GA.go aH rfl ?_;try simp only[go_sem,simprocAttr])
  have hy5:∀j,j<5->[AV.n .i64 yopc,AV.n .i64 yto,AV.n .i64 ya,AV.n .i64 yb,AV.n .u32 yarg][j]?.getD .u=cC [(yopc,yto,ya,yb,yarg)] 0 j:=λj hj=>by rcases cD hj with rfl|rfl|rfl|rfl|rfl<;>rfl
  refine GA.wk (Wk.mk (L:=[(0,.fs 5 cs.length (cC cs)),(1,.fs 5 fs.length (cC fs)),(5,.p 0 0),(7,.fs 1 pt.length (iC .i64 pt)),(18,.fs 5 cs.length (cC cs)),(19,.n .i64 cs.length),(20,.n .i64 k),(8,.os 1 out.length),(9,.os 2 op.length),(10,.n .i64 k),(11,.p 3 0),(12,.p 4 0),(14,.fs 5 more.length (cC more)),(15,.n .i64 ((op.length:Int)-1))])
   (bl:=[aK 0 38 [.n .i64 yopc,.n .i64 yto,.n .i64 ya,.n .i64 yb,.n .u32 yarg],aK 0 38 [.n .i64 opc,.n .i64 to,.n .i64 a,.n .i64 b,.n .u32 arg],ax 93 1 op.length 0 (tP op),ax 38 5 out.length 0 (cC out),aK 0 99 [.f g [] [],.f v [] []]]) [4,3,2,1,0] [] ?_ ?_ ?_) ?_
  ·simp only[aZ,a7,go_sem,simprocAttr]
   repeat' refine aa ?_ ?_
   all_goals first|exact bX|skip
  ·refine .cons rfl (.lsti (x:=_) (by simp only[go_sem,simprocAttr]<;>rfl) (by rfl) (by rfl) (by rfl) (by rfl) (by rfl) (by rfl) (by simp) (λi hi=>?_) (by rfl)) (.cons rfl (.lsti (x:=_) (by simp only[go_sem,simprocAttr]<;>rfl) (by rfl) (by rfl) (by rfl) (by rfl) (by rfl) (by rfl) (by simp) (λi hi=>?_) (by rfl)) (.cons rfl (.k1) (.cons rfl (.k5) (.cons rfl (.ls) .nil))))
   ·rcases cD hi with rfl|rfl|rfl|rfl|rfl<;>simp only[go_sem,simprocAttr]
   ·rcases cD hi with rfl|rfl|rfl|rfl|rfl<;>simp only[go_sem,simprocAttr]
  ·simp
  refine GA.cutQ (aL [(0,.fs 5 cs.length (cC cs)),(1,.fs 5 fs'.length (cC fs')),(5,.p 0 0),(7,.fs 1 pt.length (iC .i64 pt)),(18,.fs 5 cs.length (cC cs)),(19,.n .i64 cs.length),(20,.n .i64 k),(8,.os 1 out.length),(9,.os 2 op'.length),(12,.p 3 0),(14,.fs 5 more.length (cC more))])
   (aq [aK 0 38 [.n .i64 yopc,.n .i64 yto,.n .i64 ya,.n .i64 yb,.n .u32 yarg],ax 93 1 op'.length 0 (tP op'),ax 38 5 out.length 0 (cC out),aK 0 99 [.f g [] [],.f v [] []]]) ?_ ?_
  rotate_left
  ·intro e' H' hw
   refine GA.wk hw ?_
   have hwo:=fe fs' [(yopc,yto,ya,yb,yarg)] g [] [] (.f v [] []) D (λz hz f=>by
    rw[List.mem_singleton.1 hz];exact hD _ hv2 f) rfl rfl (by omega) (by simp)
   have hwl:=dc D fs' [(yopc,yto,ya,yb,yarg)]
   change bj _ _ _ [.o 91 5 (fT D fs' [(yopc,yto,ya,yb,yarg)]).length 0 (cC (fT D fs' [(yopc,yto,ya,yb,yarg)]))] at hwo
   generalize fT D fs' [(yopc,yto,ya,yb,yarg)]=wfs at hwo hwl key hs
   have hlim:(wfs.length+more.length)*5<1099511627776/\(wfs.length+more.length)*40<=140737488355328/\wfs.length+more.length<=9223372036854775807:=by omega
   have hlio:(out.length+1)*5<1099511627776/\(out.length+1)*40<=140737488355328/\out.length+1<=9223372036854775807:=by omega
   repeat first|with_reducible refine gg ?_|simp only[hlim.1,hlim.2.1,hlim.2.2,hlio.1,hlio.2.1,hlio.2.2,decide_true,go_sem,simprocAttr]
   refine ah [4] (fargs:=[.fs 5 fs'.length (cC fs'),.agg [.f g [] [],.f v [] []],.fs 5 [(yopc,yto,ya,yb,yarg)].length (cC [(yopc,yto,ya,yb,yarg)])]) ?_ hwo (by simp only[go_sem,simprocAttr]) ?_
   ·refine .cons (.rfl (by rfl)) (.cons (.rfl (by rfl)) (.cons ?_ .nil))
    refine Cv.sl (x:=_) (by simp) (by simp only[go_sem,simprocAttr]<;>rfl) (by simp) (by simp) (by simp) (λi j hi hj=>?_) (λi j hi hj=>by rcases cD hj with rfl|rfl|rfl|rfl|rfl<;>rfl)
    obtain rfl:i=0:=by simpa using hi
    rw[<-hy5 j hj]
    rcases cD hj with rfl|rfl|rfl|rfl|rfl<;>simp only[go_sem,simprocAttr]
   repeat first|with_reducible refine gg ?_|simp only[hlim.1,hlim.2.1,hlim.2.2,hlio.1,hlio.2.1,hlio.2.2,decide_true,go_sem,simprocAttr]
   refine⟨_,_,_,?_,Wk.mk [2,8,0] [6] ?_ ?_ ?_,k+1,_,rfl,by omega,key,hs,rfl,rfl⟩
   ·omega
   ·simp only[aZ,a7,go_sem,simprocAttr]
    repeat' refine aa ?_ ?_
    all_goals first|exact bX|skip
    refine Wv.cv (Cv.os (x:=_) (by simp) (by simp only[go_sem,simprocAttr]<;>rfl) (by simp only[go_sem,simprocAttr]<;>omega) (λi j hi hj=>?_) (λi j hi hj=>fC _ _ _ hj))
    rw[fJ hj hi (by omega),aX i j hj]
    unfold cC
    by_cases hw:wfs.length<=i
    ·rw[if_pos hw]
     simp only[List.getD_eq_getElem?_getD,List.getElem?_append_right hw]
    ·rw[if_neg hw]
     simp only[List.getD_eq_getElem?_getD,List.getElem?_append_left (Nat.lt_of_not_le hw)]
   ·rw[show(out++[(yopc,yto,ya,yb,yarg)]).length=out.length+1 from by simp]
    refine .cons rfl (.k1) (.cons rfl (.snoc (by simp only[go_sem,simprocAttr]<;>rfl) (by simp) (by rfl) rfl (by decide) (by omega) (λi j hi _=>by unfold cC;rw[aP hi]) (λj hj=>by
     unfold cC
     rw[aQ]
     exact(hy5 j hj).symm) (λi j _ hj=>by rcases cD hj with rfl|rfl|rfl|rfl|rfl<;>rfl)) (.cons rfl (.ls) .nil))
   ·simp
  unfold eF at hsw
  repeat first|with_reducible refine gg ?_|simp only[go_sem,simprocAttr]
  refine⟨λh1=>?_,λh1=>?_⟩
  ·rw[if_pos h1] at hsw
   injection hsw with hsw
   injection hsw with e1 e2
   subst e1 e2
   have hlo:op.length+1<1099511627776/\(op.length+1)*24<=140737488355328/\op.length+1<=9223372036854775807:=by omega
   repeat first|with_reducible refine gg ?_|simp only[hlo.1,hlo.2.1,hlo.2.2,decide_true,go_sem,simprocAttr]
   refine Wk.mk [4,6,1,0] [] ?_ ?_ ?_
   ·simp only[aZ,a7,go_sem,simprocAttr]
    repeat' refine aa ?_ ?_
    all_goals first|exact bX|skip
   ·refine .cons rfl (.ls) (.cons rfl (.snoc (by simp only[go_sem,simprocAttr]<;>rfl) (by simp) (by rfl) rfl (by decide) (by omega) (λi j hi _=>ir _ _ _ _ hi) (λj hj=>by
     cases Nat.lt_one_iff.1 hj
     exact jz _ _ _) (λi j _ _=>rfl)) (.cons rfl (.k5) (.cons rfl (.ls) .nil)))
   ·simp
  rw[if_neg h1] at hsw
  repeat first|with_reducible refine gg ?_|simp only[go_sem,simprocAttr]
  refine⟨λh2=>?_,λh2=>?_⟩
  ·rw[if_pos h2] at hsw
   cases op with
   |nil=>cases hsw
   |cons t r=>
   simp only at hsw
   injection hsw with hsw
   injection hsw with e1 e2
   subst e1 e2
   have hrl:r.length<=k:=by simp only[List.length_cons] at hi2;omega
   have hsub:((r.length+1:Nat):Int)-1=(r.length:Int):=by omega
   have hz0:(0:Int)<=(r.length:Int):=by omega
   have hz1:(r.length:Int)<((r.length+1:Nat):Int):=by omega
   have hz2:r.length<r.length+1:=by omega
   have hg:(ax 93 1 (r.length+1) 0 (tP (t::r))).get r.length= .fs 5 t.length (cC t):=by
    rw[bM];exact jz _ _ _
   repeat first|with_reducible refine gg ?_|simp only[hsub,hz0,hz1,hz2,hg,Nat.le_refl,go_sem,simprocAttr]
   refine Wk.mk [4,2,1,0] [] ?_ ?_ ?_
   ·simp only[aZ,a7,go_sem,simprocAttr]
    repeat' refine aa ?_ ?_
    all_goals first|exact bX|skip
   ·refine .cons rfl (.ls) (.cons rfl (.put (n:=r.length+1) (q:=r.length) (by simp only[go_sem,simprocAttr]<;>rfl) (by simp) rfl hz2 rfl (by decide) (by omega) (λi j h hj=>?_) (λi j h hj=>rfl)) (.cons rfl (.k5) (.cons rfl (.ls) .nil)))
    cases Nat.lt_one_iff.1 hj
    by_cases e:i=r.length
    ·rw[if_pos e,e];exact(jz _ _ _).symm
    ·rw[if_neg e,ir _ _ _ _ (by omega),ir _ _ _ _ (by omega)]
   ·simp
  rw[if_neg h2] at hsw
  have hkp:k<pt.length:=by omega
  have hkpi:(k:Int)<(pt.length:Int):=by omega
  repeat first|with_reducible refine gg ?_|simp only[go_sem,simprocAttr]
  refine⟨λh3=>?_,λh3=>?_⟩
  ·rw[if_pos h3] at hsw
   split at hsw
   rotate_left
   ·cases hsw
   rename_i hrg
   obtain⟨q,hq⟩:∃q:Nat,pt.getD k 0=(q:Int):=⟨(pt.getD k 0).toNat,by omega⟩
   rw[hq] at hrg hsw
   rw[Int.toNat_natCast] at hsw
   have hql:q-k=((cs.take q).drop k).length:=by rw[List.length_drop,List.length_take];omega
   have hwo:=fe fs ((cs.take q).drop k) g [] [] (.f v [] []) D (λz hz f=>hD z (hok z (List.mem_of_mem_take (List.mem_of_mem_drop hz))) f) rfl rfl (by omega) (by rw[<-hql];omega)
   have hwl:=dc D fs ((cs.take q).drop k)
   change bj _ _ _ [.o 91 5 (fT D fs ((cs.take q).drop k)).length 0 (cC (fT D fs ((cs.take q).drop k)))] at hwo
   generalize fT D fs ((cs.take q).drop k)=wfs at hwo hwl hsw
   injection hsw with hsw
   injection hsw with e1 e2
   subst e1 e2
   have hpk:iC .i64 pt k 0= .n .i64 (q:Int):=by unfold iC;rw[hq]
   have hq0:(0:Int)<=(q:Int):=by omega
   have hq1:(k:Int)<=(q:Int):=hrg.1
   have hq2:(q:Int)<=(cs.length:Int):=hrg.2
   repeat first|with_reducible refine gg ?_|simp only[h0,hkpi,hpk,hq0,hq1,hq2,go_sem,simprocAttr]
   rw[hql]
   refine ah [] (fargs:=[.fs 5 fs.length (cC fs),.agg [.f g [] [],.f v [] []],.fs 5 ((cs.take q).drop k).length (cC ((cs.take q).drop k))]) ?_ hwo (by simp only[go_sem,simprocAttr]) ?_
   ·refine .cons (.rfl (by rfl)) (.cons (.rfl (by rfl)) (.cons (.fs (λi j hi hj=>?_)) .nil))
    unfold cC
    rw[List.getD_eq_getElem?_getD,List.getD_eq_getElem?_getD,List.getElem?_drop,List.getElem?_take_of_lt (by omega)]
   repeat first|with_reducible refine gg ?_|simp only[go_sem,simprocAttr]
   refine Wk.mk [4,2,1,0] [5] ?_ ?_ ?_
   ·simp only[aZ,a7,go_sem,simprocAttr]
    repeat' refine aa ?_ ?_
    all_goals first|exact bX|skip
    exact Wv.cv (Cv.own (ty:=91) (z:=0) (by simp) (by simp only[go_sem,simprocAttr]) (λi j _ hj=>fC _ _ _ hj))
   ·refine .cons rfl (.ls) (.cons rfl (.k1) (.cons rfl (.k5) (.cons rfl (.ls) .nil)))
   ·simp
  rw[if_neg h3] at hsw
  by_cases h4:opc=31
  ·rw[if_pos h4] at hsw
   subst h4
   split at hsw
   rotate_left
   ·cases hsw
   rename_i hrg
   obtain⟨q,hq⟩:∃q:Nat,pt.getD k 0=(q:Int):=⟨(pt.getD k 0).toNat,by omega⟩
   rw[hq] at hrg hsw
   rw[Int.toNat_natCast] at hsw
   have hpk:iC .i64 pt k 0= .n .i64 (q:Int):=by unfold iC;rw[hq]
   have hq0:(0:Int)<=(q:Int):=by omega
   have hq1:(q:Int)<=(k:Int):=hrg.2
   have hq2:(q:Int)<(cs.length:Int):=by omega
   have hq3:(k:Int)<=(cs.length:Int):=by omega
   have hcq:cC cs q 0= .n .i64 (cs.getD q ej).1:=ki cs q
   repeat first|with_reducible refine gg ?_|simp only[h0,hkpi,hpk,hq0,hq1,hq2,hcq,decide_true,go_sem,simprocAttr]
   refine⟨λh5=>?_,λh5=>?_⟩
   ·rw[if_pos h5] at hsw
    have hql:k-q=((cs.take k).drop q).length:=by rw[List.length_drop,List.length_take];omega
    have hwo:=fe fs ((cs.take k).drop q) g [] [] (.f v [] []) D (λz hz f=>hD z (hok z (List.mem_of_mem_take (List.mem_of_mem_drop hz))) f) rfl rfl (by omega) (by rw[<-hql];omega)
    have hwl:=dc D fs ((cs.take k).drop q)
    change bj _ _ _ [.o 91 5 (fT D fs ((cs.take k).drop q)).length 0 (cC (fT D fs ((cs.take k).drop q)))] at hwo
    generalize fT D fs ((cs.take k).drop q)=wfs at hwo hwl hsw
    injection hsw with hsw
    injection hsw with e1 e2
    subst e1 e2
    repeat first|with_reducible refine gg ?_|simp only[h0,hkpi,hpk,hq0,hq1,hq2,hq3,go_sem,simprocAttr]
    rw[hql]
    refine ah [] (fargs:=[.fs 5 fs.length (cC fs),.agg [.f g [] [],.f v [] []],.fs 5 ((cs.take k).drop q).length (cC ((cs.take k).drop q))]) ?_ hwo (by simp only[go_sem,simprocAttr]) ?_
    ·refine .cons (.rfl (by rfl)) (.cons (.rfl (by rfl)) (.cons (.fs (λi j hi hj=>?_)) .nil))
     unfold cC
     rw[List.getD_eq_getElem?_getD,List.getD_eq_getElem?_getD,List.getElem?_drop,List.getElem?_take_of_lt (by omega)]
    repeat first|with_reducible refine gg ?_|simp only[go_sem,simprocAttr]
    refine Wk.mk [4,2,1,0] [5] ?_ ?_ ?_
    ·simp only[aZ,a7,go_sem,simprocAttr]
     repeat' refine aa ?_ ?_
     all_goals first|exact bX|skip
     exact Wv.cv (Cv.own (ty:=91) (z:=0) (by simp) (by simp only[go_sem,simprocAttr]) (λi j _ hj=>fC _ _ _ hj))
    ·refine .cons rfl (.ls) (.cons rfl (.k1) (.cons rfl (.k5) (.cons rfl (.ls) .nil)))
    ·simp
   ·rw[if_neg h5] at hsw
    cases op with
    |nil=>cases hsw
    |cons t r=>
    simp only at hsw
    have hrl:r.length<=k:=by simp only[List.length_cons] at hi2;omega
    have htl:=hi5 t (List.mem_cons_self ..)
    have hbo:=qh fs t (by omega) (by omega)
    have hbl:=jF (dR) fs t
    change bj _ _ _ [.o 91 5 (qj (dR) fs t).length 0 (cC (qj (dR) fs t))] at hbo
    generalize qj (dR) fs t=bfs at hbo hbl hsw
    injection hsw with hsw
    injection hsw with e1 e2
    subst e1 e2
    have hsub:((r.length+1:Nat):Int)-1=(r.length:Int):=by omega
    have hz0:(0:Int)<=(r.length:Int):=by omega
    have hz1:(r.length:Int)<((r.length+1:Nat):Int):=by omega
    have hz3:(r.length:Int)<=((r.length+1:Nat):Int):=by omega
    have hz2:r.length<r.length+1:=by omega
    have hg:(ax 93 1 (r.length+1) 0 (tP (t::r))).get r.length= .fs 5 t.length (cC t):=by
     rw[bM];exact jz _ _ _
    repeat first|with_reducible refine gg ?_|simp only[hsub,hz0,hz1,hz2,hz3,hg,Int.le_refl,go_sem,simprocAttr]
    refine g2 hbo ?_
    repeat first|with_reducible refine gg ?_|simp only[go_sem,simprocAttr]
    refine Wk.mk [4,2,1,0] [5] ?_ ?_ ?_
    ·simp only[aZ,a7,go_sem,simprocAttr]
     repeat' refine aa ?_ ?_
     all_goals first|exact bX|skip
     exact Wv.cv (Cv.own (ty:=91) (z:=0) (by simp) (by simp only[go_sem,simprocAttr]) (λi j _ hj=>fC _ _ _ hj))
    ·refine .cons rfl (.ls) (.cons rfl (.pop (n:=r.length+1) (by simp only[go_sem,simprocAttr]<;>rfl) rfl (by decide) (by omega) (λi j hi _=>ir _ _ _ _ hi) (λi j _ hj=>rfl)) (.cons rfl (.k5) (.cons rfl (.ls) .nil)))
    ·simp
  rw[if_neg h4] at hsw
  injection hsw with hsw
  injection hsw with e1 e2
  subst e1 e2
  repeat first|with_reducible refine gg ?_|simp only[h4,decide_false,go_sem,simprocAttr]
  refine Wk.mk [4,2,1,0] [] ?_ ?_ ?_
  ·simp only[aZ,a7,go_sem,simprocAttr]
   repeat' refine aa ?_ ?_
   all_goals first|exact bX|skip
  ·refine .cons rfl (.ls) (.cons rfl (.k1) (.cons rfl (.k5) (.cons rfl (.ls) .nil)))
  ·simp
 ·have hkn:k=cs.length:=by omega
  subst hkn
  rw[List.drop_length,bI] at hs
  cases hs
  repeat first|with_reducible refine gg ?_|simp only[go_sem,simprocAttr]
  refine⟨[_],rfl,.o (x:=_) (by simp only[go_sem,simprocAttr];rfl) (by rfl) (by rfl) (by rfl) (by decide) (Nat.le_refl _) (Nat.le_refl _) (λi j _ hj=>aX i j hj) (λi j _ hj=>bt i hj) rfl .nil⟩
def sC(l:List (Int×Int))(i j:Nat):AV:=if j=0 then .n .i64 (l.getD i (0,0)).1 else .n .i64 (l.getD i (0,0)).2
theorem Jh(l:List (Int×Int))(i:Nat):sC l i 0= .n .i64 (l.getD i (0,0)).1:=rfl
theorem Jg(l:List (Int×Int))(i:Nat):sC l i 1= .n .i64 (l.getD i (0,0)).2:=rfl
def sV(f:Int×Int):AV:= .agg [.n .i64 f.1,.n .i64 f.2]
theorem nW(l:List (Int×Int))(f:Int×Int)(hl:l.length<1000000):bj Try.prog 102 [.fs 2 l.length (sC l),sV f] [.v (.n .i64 (dy (λg=>decide (f.1=g.1)&&decide (f.2=g.2)) l 0))]:=by
 refine ae aH Em ⟨by simp,by decide⟩ ?_
 simp only[aV,sV]
 repeat first|with_reducible refine gg ?_|simp only[go_sem,simprocAttr]
 refine GA.loop (I:=λm e H=>∃k:Nat,m=l.length-k/\k<=l.length/\dy (λg=>decide (f.1=g.1)&&decide (f.2=g.2)) l 0=dy (λg=>decide (f.1=g.1)&&decide (f.2=g.2)) (l.drop k) k/\e=aL [(0,.fs 2 l.length (sC l)),(3,.p 0 0),(6,.fs 2 l.length (sC l)),(7,.n .i64 l.length),(8,.n .i64 k)]/\H=aq [aK 0 82 [.n .i64 f.1,.n .i64 f.2]]) (Wk.mk [0] [] ?_ ?_ ?_) ⟨0,rfl,by omega,rfl,rfl,rfl⟩ ?_
 ·simp only[aZ,a7,go_sem,simprocAttr]
  repeat' refine aa ?_ ?_
  all_goals first|exact bX|skip
 ·exact .cons rfl (.ls) .nil
 ·simp
 rintro m e H ⟨k,rfl,hk,hs,rfl,rfl⟩
 repeat first|with_reducible refine gg ?_|simp only[go_sem,simprocAttr]
 refine⟨λh=>?_,λh=>?_⟩
 ·have hk':k<l.length:=by omega
  have h0:(0:Int)<=(k:Int):=by omega
  rw[bq (d:=(0,0)) hk',dy] at hs
  repeat first|with_reducible refine gg ?_|simp only[h0,h,Jh,Jg,mg,jw,f9,l6,SH.row,go_sem,simprocAttr]
  refine⟨λh1=>?_,λh1=>?_⟩
  ·repeat first|with_reducible refine gg ?_|simp only[go_sem,simprocAttr]
   rw[if_pos (by simpa using h1)] at hs
   exact ag (by rw[hs]) rfl
  ·repeat first|with_reducible refine gg ?_|simp only[go_sem,simprocAttr]
   rw[if_neg (by rw[h1];simp)] at hs
   refine⟨_,_,_,?_,Wk.mk [0] [] ?_ ?_ ?_,k+1,rfl,by omega,hs,rfl,rfl⟩
   ·omega
   ·simp only[aZ,a7,go_sem,simprocAttr]
    repeat' refine aa ?_ ?_
    all_goals first|exact bX|skip
   ·exact .cons rfl (.lst (by first|(simp only[go_sem,simprocAttr];done)|(simp only[go_sem,simprocAttr];rfl)|rfl) rfl (by simp) rfl) .nil
   ·simp
 ·repeat first|with_reducible refine gg ?_|simp only[go_sem,simprocAttr]
  have:k=l.length:=by omega
  subst this
  rw[List.drop_length,dy] at hs
  exact ag (by rw[hs]) rfl
theorem kH(l:List (Int×Int))(f:Int×Int)(hl:l.length<1000000):bj Try.prog 77 [.fs 2 l.length (sC l),sV f] [.v (.b (l.any λg=>decide (f.1=g.1)&&decide (f.2=g.2)))]:=by
 refine ae aH Eu ⟨by simp,by decide⟩ ?_
 simp only[aV,sV]
 repeat first|with_reducible refine gg ?_|simp only[go_sem,simprocAttr]
 refine g2 (nW l f hl) ?_
 repeat first|with_reducible refine gg ?_|simp only[go_sem,simprocAttr]
 exact ag (by rw[<-dj _ l 0]) rfl
theorem qi(l m:List (Int×Int))(hl:l.length<1000000)(hm:m.length<1000000):bj Try.prog 66 [.fs 2 l.length (sC l),.fs 2 m.length (sC m)]
  [.o 82 2 (l.filter λf=>m.any λg=>decide (f.1=g.1)&&decide (f.2=g.2)).length 0 (sC (l.filter λf=>m.any λg=>decide (f.1=g.1)&&decide (f.2=g.2)))]:=by
 refine ae aH EG ⟨by simp,by decide⟩ ?_
 generalize hp:(λf:Int×Int=>m.any λg=>decide (f.1=g.1)&&decide (f.2=g.2))=p
 simp only[aV]
 repeat first|with_reducible refine gg ?_|simp only[go_sem,simprocAttr]
 refine GA.wk (Wk.nil 5 2 82 (by simp only[go_sem,simprocAttr]) (by decide) (by simp only[go_sem,simprocAttr])) ?_
 simp only[cA]
 refine GA.loop (I:=λmm e H=>∃(k:Nat) (xs:List (Int×Int)),mm=l.length-k/\k<=l.length/\xs=(l.take k).filter p/\e=aL [(1,.fs 2 m.length (sC m)),(8,.fs 2 l.length (sC l)),(9,.n .i64 l.length),(10,.n .i64 k),(5,.os 0 xs.length)]/\H=aq [ax 82 2 xs.length 0 (sC xs)]) (Wk.mk [0] [] ?_ ?_ ?_) ⟨0,[],rfl,by omega,rfl,rfl,rfl⟩ ?_
 ·simp only[aZ,a7,go_sem,simprocAttr]
  repeat' refine aa ?_ ?_
  all_goals first|exact bX|skip
 ·exact .cons rfl (.r1) .nil
 ·simp
 rintro mm e H ⟨k,xs,rfl,hk,hs,rfl,rfl⟩
 repeat first|with_reducible refine gg ?_|simp only[go_sem,simprocAttr]
 refine⟨λh=>?_,λh=>?_⟩
 ·have hk':k<l.length:=by omega
  have h0:(0:Int)<=(k:Int):=by omega
  repeat first|with_reducible refine gg ?_|simp only[h0,h,Jh,Jg,go_sem,simprocAttr]
  have hlt:xs.length<=l.length:=by rw[hs];exact Nat.le_trans (List.length_filter_le _ _) (by rw[List.length_take];exact Nat.min_le_right _ _)
  refine g2 (kH m (l.getD k (0,0)) hm) ?_
  have hpk:(m.any λg=>decide ((l.getD k (0,0)).1=g.1)&&decide ((l.getD k (0,0)).2=g.2))=p (l.getD k (0,0)):=by rw[<-hp]
  rw[hpk]
  have htk:(l.take (k+1)).filter p=xs++(if p (l.getD k (0,0))=true then[l.getD k (0,0)] else[]):=by
   rw[ey (d:=(0,0)) hk',List.filter_append,<-hs]
   simp only[List.filter_cons,List.filter_nil]
  have hlim:(xs.length+1)*2<1099511627776/\(xs.length+1)*16<=140737488355328/\xs.length+1<=9223372036854775807:=by omega
  repeat first|with_reducible refine gg ?_|simp only[go_sem,simprocAttr]
  refine⟨λh1=>?_,λh1=>?_⟩
  ·rw[if_pos h1] at htk
   repeat first|with_reducible refine gg ?_|simp only[hlim.1,hlim.2.1,hlim.2.2,decide_true,go_sem,simprocAttr]
   refine⟨_,_,_,?_,Wk.mk [3] [] ?_ ?_ ?_,k+1,xs++[l.getD k (0,0)],rfl,by omega,htk.symm,rfl,rfl⟩
   ·omega
   ·simp only[aZ,a7,go_sem,simprocAttr]
    repeat' refine aa ?_ ?_
    all_goals first|exact bX|skip
   ·refine .cons rfl (.rows (x:=_) (by simp only[go_sem,simprocAttr];rfl) (by rfl) (by rfl) (by rfl) ?_ (Nat.le_refl _) (by decide) ?_ (λi j _ hj=>by unfold sC;split<;>rfl)) .nil
    ·simp only[go_sem,simprocAttr];omega
    ·simp only[go_sem,simprocAttr]
     exact dg rfl (by omega) (λi j hi _=>by unfold sC;rw[aP hi]) (λj hj=>by
      have hj2:j=0\/j=1:=by omega
      unfold sC
      rw[aQ]
      rcases hj2 with rfl|rfl<;>rfl)
   ·simp
  ·rw[if_neg (by rw[h1];simp),List.append_nil] at htk
   repeat first|with_reducible refine gg ?_|simp only[go_sem,simprocAttr]
   refine⟨_,_,_,?_,Wk.mk [0] [] ?_ ?_ ?_,k+1,xs,rfl,by omega,htk.symm,rfl,rfl⟩
   ·omega
   ·simp only[aZ,a7,go_sem,simprocAttr]
    repeat' refine aa ?_ ?_
    all_goals first|exact bX|skip
   ·exact .cons rfl (.k2 (λi j _ hj=>by unfold sC;split<;>rfl)) .nil
   ·simp
 ·repeat first|with_reducible refine gg ?_|simp only[go_sem,simprocAttr]
  have:k=l.length:=by omega
  subst this
  rw[List.take_length] at hs
  subst hs
  refine⟨[_],rfl,.o (x:=_) (by simp only[go_sem,simprocAttr];rfl) (by rfl) (by rfl) (by rfl) (by decide) (Nat.le_refl _) (Nat.le_refl _) (λi j _ hj=>aX i j hj) (λi j _ _=>by unfold sC;split<;>rfl) rfl .nil⟩
theorem kt(x:In)(f:Int×Int)(g:FuncId)(c1 c2:List AV)(vv:AV)(D:Bool)(hd:bj Try.prog g (c1++[aI x,sV f]++c2) [.v (.b D)])(hpu:(c1.all (AV.pu 2)&&c2.all (AV.pu 2))=true):
  bj Try.prog 76 [aI x,.fp 2 (λj=>[AV.f g c1 c2,vv][j]?.getD .u) 0,.fp 2 (λj=>[AV.n .i64 f.1,AV.n .i64 f.2][j]?.getD .u) 0] [.v (.b D)]:=by
 refine ae aH Ex ⟨by simp,by decide⟩ ?_
 simp only[aV,aI]
 repeat first|with_reducible refine gg ?_|simp only[go_sem,simprocAttr]
 refine ah [] (fargs:=c1++[aI x,sV f]++c2) ?_ hd (by simp only[bD,aJ,List.length_nil];decide) ?_
 ·refine gG.same ?_
  simp only[List.all_append,Bool.and_eq_true] at hpu ⊢
  exact⟨⟨bH hpu.1,rfl⟩,bH hpu.2⟩
 repeat first|with_reducible refine gg ?_|simp only[go_sem,simprocAttr]
 exact ag rfl rfl
theorem ff(l:List (Int×Int))(cs:List In)(g:FuncId)(c1 c2:List AV)(vv:AV)(D:In->Int×Int->Bool)(hd:∀x ∈ cs,∀f,bj Try.prog g (c1++[aI x,sV f]++c2) [.v (.b (D x f))])(hpu:(c1.all (AV.pu 2)&&c2.all (AV.pu 2))=true)(hvv:vv.cell=true)
  (hl:l.length<1000000) (hcs:cs.length<1000000):
  bj Try.prog 65 [.fs 2 l.length (sC l),.agg [.f g c1 c2,vv],.fs 5 cs.length (cC cs)]
   [.o 82 2 (l.filter λf=> !cs.any λx=>D x f).length 0 (sC (l.filter λf=> !cs.any λx=>D x f))]:=by
 refine ae aH EV ⟨by simp,by decide⟩ ?_
 have hfn:(AV.f g c1 c2).cell=true:=by
  simp only[AV.cell,AV.pu,AV.one,Bool.and_true];exact hpu
 have hvo:vv.one=true:=by simp only[AV.cell,Bool.and_eq_true] at hvv;exact hvv.2
 have hvp:vv.pu 3=true:=by simp only[AV.cell,Bool.and_eq_true] at hvv;exact hvv.1
 have hfp:(AV.f g c1 c2).pu 3=true:=hpu
 generalize hp:(λf:Int×Int=> !cs.any λx=>D x f)=p
 simp only[aV]
 repeat first|with_reducible refine gg ?_|simp only[hvo,go_sem,simprocAttr]
 refine GA.wk (Wk.nil 7 2 82 (by simp only[go_sem,simprocAttr]) (by decide) (by simp only[bD,aJ,List.length_nil];decide)) ?_
 simp only[cA]
 refine GA.loop (I:=λmm e H=>∃(k:Nat) (xs:List (Int×Int)),mm=l.length-k/\k<=l.length/\xs=(l.take k).filter p/\e=aL [(2,.fs 5 cs.length (cC cs)),(4,.p 0 0),(10,.fs 2 l.length (sC l)),(11,.n .i64 l.length),(12,.n .i64 k),(7,.os 1 xs.length)]/\H=aq [ax 82 2 xs.length 0 (sC xs),jY 0 88 [.f g c1 c2,vv]]) (Wk.mk [1,0] [] ?_ ?_ ?_) ⟨0,[],rfl,by omega,rfl,rfl,rfl⟩ ?_
 ·simp only[aZ,a7,go_sem,simprocAttr]
  repeat' refine aa ?_ ?_
  all_goals first|exact bX|skip
 ·refine .cons rfl (.r1) (.cons rfl (.lstz (x:=_) (by simp only[go_sem,simprocAttr];rfl) (by rfl) (by rfl) (by rfl) (by rfl) (by simp) (by simp) (λi hi=>by simp only[iK,List.length_cons,List.length_nil,Nat.reduceAdd,Nat.reduceLT]) (by simp only[List.all_cons,List.all_nil,hfp,hvp,Bool.and_self])) .nil)
 ·simp
 rintro mm e H ⟨k,xs,rfl,hk,hs,rfl,rfl⟩
 repeat first|with_reducible refine gg ?_|simp only[go_sem,simprocAttr]
 refine⟨λh=>?_,λh=>?_⟩
 ·have hk':k<l.length:=by omega
  have h0:(0:Int)<=(k:Int):=by omega
  repeat first|with_reducible refine gg ?_|simp only[h0,h,Jh,Jg,go_sem,simprocAttr]
  have hlt:xs.length<=l.length:=by rw[hs];exact Nat.le_trans (List.length_filter_le _ _) (by rw[List.length_take];exact Nat.min_le_right _ _)
  refine ah [0,2] (fargs:=[.fs 5 cs.length (cC cs),.f 76 [] [.fp 2 (λj=>[AV.f g c1 c2,vv][j]?.getD .u) 0,.fp 2 (λj=>[AV.n .i64 (l.getD k (0,0)).1,AV.n .i64 (l.getD k (0,0)).2][j]?.getD .u) 0]])
   ?_
   (dk cs 76 [] _ (λx=>D x (l.getD k (0,0))) (λx hx=>kt x (l.getD k (0,0)) g c1 c2 vv (D x (l.getD k (0,0))) (hd x hx _) hpu) hcs rfl) (by simp only[go_sem,simprocAttr]) ?_
  ·refine .cons (.rfl rfl) (.cons (.fn .nil (.cons ?_ (.cons ?_ .nil))) .nil)
   ·exact Cv.box (l:=[AV.f g c1 c2,vv]) (b:=0) rfl (x:=_) (by simp only[go_sem,simprocAttr];rfl) (by rfl) (by simp) (λj hj=>by simp only[cF,List.length_cons,List.length_nil,Nat.reduceAdd,Nat.reduceLT]) (by simp only[List.all_cons,List.all_nil,hfn,hvv,Bool.and_self])
   ·refine Cv.box (l:=[AV.n .i64 (l.getD k (0,0)).1,AV.n .i64 (l.getD k (0,0)).2]) (b:=2) rfl (x:=_) (by simp only[go_sem,simprocAttr];rfl) (by rfl) (by simp) (λj hj=>?_) rfl
    have hj2:j=0\/j=1:=by simp at hj;omega
    rcases hj2 with rfl|rfl<;>simp only[go_sem,simprocAttr]
  have hpk:(!cs.any λx=>D x (l.getD k (0,0)))=p (l.getD k (0,0)):=by rw[<-hp]
  have htk:(l.take (k+1)).filter p=xs++(if p (l.getD k (0,0))=true then[l.getD k (0,0)] else[]):=by
   rw[ey (d:=(0,0)) hk',List.filter_append,<-hs]
   simp only[List.filter_cons,List.filter_nil]
  have hlim:(xs.length+1)*2<1099511627776/\(xs.length+1)*16<=140737488355328/\xs.length+1<=9223372036854775807:=by omega
  repeat first|with_reducible refine gg ?_|simp only[hpk,go_sem,simprocAttr]
  refine⟨λh1=>?_,λh1=>?_⟩
  ·rw[if_pos h1] at htk
   repeat first|with_reducible refine gg ?_|simp only[hlim.1,hlim.2.1,hlim.2.2,decide_true,go_sem,simprocAttr]
   refine⟨_,_,_,?_,Wk.mk [4,0] [] ?_ ?_ ?_,k+1,xs++[l.getD k (0,0)],rfl,by omega,htk.symm,rfl,rfl⟩
   ·omega
   ·simp only[aZ,a7,go_sem,simprocAttr]
    repeat' refine aa ?_ ?_
    all_goals first|exact bX|skip
   ·refine .cons rfl (.rows (x:=_) (by simp only[go_sem,simprocAttr];rfl) (by rfl) (by rfl) (by rfl) ?_ (Nat.le_refl _) (by decide) ?_ (λi j _ hj=>by unfold sC;split<;>rfl)) (.cons rfl (.lstz (x:=_) (by simp only[go_sem,simprocAttr];rfl) (by rfl) (by rfl) (by rfl) (by rfl) ?_ (by simp) ?_ (by simp only[List.all_cons,List.all_nil,hfp,hvp,Bool.and_self])) .nil)
    ·simp only[go_sem,simprocAttr];omega
    ·simp only[go_sem,simprocAttr]
     exact dg rfl (by omega) (λi j hi _=>by unfold sC;rw[aP hi]) (λj hj=>by
      have hj2:j=0\/j=1:=by omega
      unfold sC
      rw[aQ]
      rcases hj2 with rfl|rfl<;>rfl)
    ·simp[hO,dw,eh]
    ·intro i hi
     exact cF _ _ _ i (by simp)
   ·simp
  ·rw[if_neg (by rw[h1];simp),List.append_nil] at htk
   repeat first|with_reducible refine gg ?_|simp only[go_sem,simprocAttr]
   refine⟨_,_,_,?_,Wk.mk [1,0] [] ?_ ?_ ?_,k+1,xs,rfl,by omega,htk.symm,rfl,rfl⟩
   ·omega
   ·simp only[aZ,a7,go_sem,simprocAttr]
    repeat' refine aa ?_ ?_
    all_goals first|exact bX|skip
   ·refine .cons rfl (.k2 (λi j _ hj=>by unfold sC;split<;>rfl)) (.cons rfl (.lstz (x:=_) (by simp only[go_sem,simprocAttr];rfl) (by rfl) (by rfl) (by rfl) (by rfl) ?_ (by simp) ?_ (by simp only[List.all_cons,List.all_nil,hfp,hvp,Bool.and_self])) .nil)
    ·simp[hO,dw,eh]
    ·intro i hi
     exact cF _ _ _ i (by simp)
   ·simp
 ·repeat first|with_reducible refine gg ?_|simp only[go_sem,simprocAttr]
  have:k=l.length:=by omega
  subst this
  rw[List.take_length] at hs
  subst hs
  refine⟨[_],rfl,.o (x:=_) (by simp only[go_sem,simprocAttr];rfl) (by rfl) (by rfl) (by rfl) (by decide) (Nat.le_refl _) (Nat.le_refl _) (λi j _ hj=>aX i j hj) (λi j _ _=>by unfold sC;split<;>rfl) rfl .nil⟩
theorem fD(l:List (Int×Int))(i j:Nat)(hj:j<2):(sC l i j).cell=true:=by
 have h5:j=0\/j=1\/j=2\/j=3\/j=4:=by omega
 rcases h5 with rfl|rfl|rfl|rfl|rfl<;>first|rfl|omega
def tQ(st:List (List (Int×Int)))(i _j:Nat):AV:= .fs 2 (st.reverse.getD i []).length (sC (st.reverse.getD i []))
theorem iu(st:List (List (Int×Int)))(t:List (Int×Int))(i j:Nat)(hi:i<st.length):tQ (t::st) i j=tQ st i j:=by
 unfold tQ;rw[List.reverse_cons,aP (by simpa using hi)]
theorem jA(st:List (List (Int×Int)))(t:List (Int×Int))(j:Nat):tQ (t::st) st.length j= .fs 2 t.length (sC t):=by
 unfold tQ;rw[List.reverse_cons]
 have:=aQ (l:=st.reverse) (x:=t) (d:=[])
 rw[List.length_reverse] at this
 rw[this]
theorem pg{n0:Nat}{pf:(Int×Int)->Prop}(D:In->(Int×Int)->Bool)(V:In->List (Int×Int)->In×Bool×List (Int×Int))(g v:FuncId)(cs:List In)(fs0:List (Int×Int))(pt:List Int)(fin:nq (Int×Int))
  (hD:∀x,opOk x->∀f,bj Try.prog g ([]++[aI x,sV f]++[]) [.v (.b (D x f))])
  (hV:∀x ∈ cs,∀fs:List (Int×Int),fs.length<1000000->(∀f ∈ fs,pf f)->bj Try.prog v [aI x,.fs 2 fs.length (sC fs)] [.v (aI (V x fs).1),.v (.b (V x fs).2.1),.v (.fs 2 (V x fs).2.2.length (sC (V x fs).2.2))])
  (hV1:∀x ∈ cs,∀fs:List (Int×Int),(∀f ∈ fs,pf f)->(V x fs).2.2.length<=1/\∀f ∈ (V x fs).2.2,pf f)
  (hV2:∀x ∈ cs,∀fs:List (Int×Int),(∀f ∈ fs,pf f)->opOk (V x fs).1)
  (hcs:cs.length<400000) (hok:∀x ∈ cs,opOk x) (hn0:fs0.length<=n0) (hn1:n0<400000) (hpf:∀f ∈ fs0,pf f)
  (hpt:dP cs=some pt) (hptl:pt.length=cs.length) (hgo:bI D (λf g=>decide (f.1=g.1)&&decide (f.2=g.2)) V cs pt cs 0 ⟨[],fs0,[]⟩=some fin):
  bj Try.prog 43 [.fs 5 cs.length (cC cs),.fs 2 fs0.length (sC fs0),.agg [.f g [] [],.f v [] []]] [.o 38 5 fin.out.length 0 (cC fin.out)]:=by
 have hpa:=gy cs (by omega) pt hpt
 refine ae aH Fm ⟨by simp,by decide⟩ ?_
 simp only[aV]
 have hfg:(AV.f g [] []).pu 3=true:=rfl
 have hfv:(AV.f v [] []).pu 3=true:=rfl
 repeat first|with_reducible refine gg ?_|simp only[go_sem,simprocAttr]
 refine g1 hpa ?_
 simp only[go_sem,simprocAttr]
 refine GA.wk (Wk.mk (L:=[(0,.fs 5 cs.length (cC cs)),(1,.fs 2 fs0.length (sC fs0)),(5,.p 0 0),(7,.fs 1 pt.length (iC .i64 pt))]) (bl:=[aK 0 88 [.f g [] [],.f v [] []]]) [0] [1] ?_ ?_ ?_) ?_
 ·simp only[aZ,a7,go_sem,simprocAttr]
  repeat' refine aa ?_ ?_
  all_goals first|trivial|exact Wv.same rfl|exact Wv.p rfl|skip
  refine Wv.cv (Cv.own (ty:=3) (z:=0) (by simp) (by simp only[go_sem,simprocAttr]) (λi j _ _=>rfl))
 ·refine .cons rfl (.ls) .nil
 ·simp
 with_reducible refine GA.seq ?_
 with_reducible refine GA.reg ?_
 simp only[go_sem,simprocAttr]
 with_reducible refine GA.seq ?_
 with_reducible refine GA.reg ?_
 simp only[go_sem,simprocAttr]
 refine GA.wk (Wk.nil 8 5 38 (by simp only[go_sem,simprocAttr]) (by decide) (by simp only[go_sem,simprocAttr])) ?_
 refine GA.wk (Wk.nil 9 1 84 (by simp only[go_sem,simprocAttr]) (by decide) (by simp only[go_sem,simprocAttr])) ?_
 simp only[cA]
 repeat first|with_reducible refine gg ?_|simp only[go_sem,simprocAttr]
 refine GA.loop (I:=λmm e H=>∃(k:Nat) (s:nq (Int×Int)),mm=cs.length-k/\k<=cs.length/\qu pf n0 k s/\bI D (λf g=>decide (f.1=g.1)&&decide (f.2=g.2)) V cs pt (cs.drop k) k s=some fin/\
   e=aL [(0,.fs 5 cs.length (cC cs)),(1,.fs 2 s.fs.length (sC s.fs)),(5,.p 0 0),(7,.fs 1 pt.length (iC .i64 pt)),(18,.fs 5 cs.length (cC cs)),(19,.n .i64 cs.length),(20,.n .i64 k),(8,.os 1 s.out.length),(9,.os 2 s.op.length)]/\
   H=aq [ax 84 1 s.op.length 0 (tQ s.op),ax 38 5 s.out.length 0 (cC s.out),aK 0 88 [.f g [] [],.f v [] []]]) (Wk.mk [2,1,0] [] ?_ ?_ ?_) ⟨0,⟨[],fs0,[]⟩,rfl,by omega,⟨by simp,by simp,by simp only;omega,hpf,by simp,by simp⟩,hgo,rfl,rfl⟩ ?_
 ·simp only[aZ,a7,go_sem,simprocAttr]
  repeat' refine aa ?_ ?_
  all_goals first|exact bX|skip
 ·refine .cons rfl (.r0) (.cons rfl (.r0) (.cons rfl (.ls) .nil))
 ·simp
 rintro mm e H ⟨k,⟨out,fs,op⟩,rfl,hk,hinv,hs,rfl,rfl⟩
 have⟨hi1,hi2,hi3,hi4,hi5,hi6⟩:=hinv
 simp only at hi1 hi2 hi3 hi4 hi5 hi6
 repeat first|with_reducible refine gg ?_|simp only[go_sem,simprocAttr]
 refine⟨λh=>?_,λh=>?_⟩
 ·have hkn:k<cs.length:=by omega
  have h0:(0:Int)<=(k:Int):=by omega
  have hk1:k+1<=cs.length:=hkn
  have hm:cs.getD k ej ∈ cs:=by rw[List.getD_eq_getElem?_getD,List.getElem?_eq_getElem hkn];exact List.getElem_mem _
  rw[bq (d:=ej) hkn,bI] at hs
  obtain⟨s2,hst,hs⟩:=Option.bind_eq_some_iff.1 hs
  have hcc0:cC cs k 0= .n .i64 (cs.getD k ej).1:=ki cs k
  have hcc1:cC cs k 1= .n .i64 (cs.getD k ej).2.1:=ny cs k
  have hcc2:cC cs k 2= .n .i64 (cs.getD k ej).2.2.1:=ou cs k
  have hcc3:cC cs k 3= .n .i64 (cs.getD k ej).2.2.2.1:=ot cs k
  have hcc4:cC cs k 4= .n .u32 (cs.getD k ej).2.2.2.2:=oo cs k
  generalize cs.getD k ej=x at hst hcc0 hcc1 hcc2 hcc3 hcc4 hm
  have hcv:=hV x hm fs (by omega) hi4
  have hv1:=hV1 x hm
  have hv2:=hV2 x hm fs hi4
  have key:=fh hinv hv1 hst
  have hv1:=hv1 fs hi4
  unfold cu at hst
  simp only at hst
  generalize V x fs=r at hst hcv hv1 hv2
  obtain⟨y,rem,more⟩:=r
  obtain⟨opc,to,a,b,arg⟩:=x
  obtain⟨yopc,yto,ya,yb,yarg⟩:=y
  simp only[aI] at hst hcv hv1 hv2 hcc0 hcc1 hcc2 hcc3 hcc4
  repeat first|with_reducible refine gg ?_|simp only[h0,h,hcc0,hcc1,hcc2,hcc3,hcc4,go_sem,simprocAttr]
  refine g2 hcv ?_
  repeat first|with_reducible refine gg ?_|simp only[go_sem,simprocAttr]
  have ht:rem=false\/rem=true:=by cases rem<;>simp
  refine⟨λhr=>?_,λhr=>?_⟩
  ·rw[hr,if_neg (by simp)] at hst
   cases hst
   repeat first|with_reducible refine gg ?_|simp only[go_sem,simprocAttr]
   refine⟨_,_,_,?_,Wk.mk [2,1,0] [] ?_ ?_ ?_,k+1,_,rfl,by omega,key,hs,rfl,rfl⟩
   ·omega
   ·simp only[aZ,a7,go_sem,simprocAttr]
    repeat' refine aa ?_ ?_
    all_goals first|exact bX|skip
   ·refine .cons rfl (.k1) (.cons rfl (.k5) (.cons rfl (.ls) .nil))
   ·simp
  rw[hr,if_pos rfl] at hst
  obtain⟨⟨fs',op'⟩,hsw,rfl⟩:=Option.map_eq_some_iff.1 hst
  simp only at key hs
  have hinv2:=fg hinv hsw
  obtain⟨hj1,hj2,hj3,hj4,hj5⟩:=hinv2
  simp only at hj1 hj2 hj3 hj4 hj5
  (try simp only[go_sem,simprocAttr])
  iterate 4 (with_reducible refine GA.go aH rfl ?_;try simp only[go_sem,simprocAttr])
  have hy5:∀j,j<5->[AV.n .i64 yopc,AV.n .i64 yto,AV.n .i64 ya,AV.n .i64 yb,AV.n .u32 yarg][j]?.getD .u=cC [(yopc,yto,ya,yb,yarg)] 0 j:=λj hj=>by rcases cD hj with rfl|rfl|rfl|rfl|rfl<;>rfl
  refine GA.wk (Wk.mk (L:=[(0,.fs 5 cs.length (cC cs)),(1,.fs 2 fs.length (sC fs)),(5,.p 0 0),(7,.fs 1 pt.length (iC .i64 pt)),(18,.fs 5 cs.length (cC cs)),(19,.n .i64 cs.length),(20,.n .i64 k),(8,.os 1 out.length),(9,.os 2 op.length),(10,.n .i64 k),(11,.p 3 0),(12,.p 4 0),(14,.fs 2 more.length (sC more)),(15,.n .i64 ((op.length:Int)-1))])
   (bl:=[aK 0 38 [.n .i64 yopc,.n .i64 yto,.n .i64 ya,.n .i64 yb,.n .u32 yarg],aK 0 38 [.n .i64 opc,.n .i64 to,.n .i64 a,.n .i64 b,.n .u32 arg],ax 84 1 op.length 0 (tQ op),ax 38 5 out.length 0 (cC out),aK 0 88 [.f g [] [],.f v [] []]]) [4,3,2,1,0] [] ?_ ?_ ?_) ?_
  ·simp only[aZ,a7,go_sem,simprocAttr]
   repeat' refine aa ?_ ?_
   all_goals first|exact bX|skip
  ·refine .cons rfl (.lsti (x:=_) (by simp only[go_sem,simprocAttr]<;>rfl) (by rfl) (by rfl) (by rfl) (by rfl) (by rfl) (by rfl) (by simp) (λi hi=>?_) (by rfl)) (.cons rfl (.lsti (x:=_) (by simp only[go_sem,simprocAttr]<;>rfl) (by rfl) (by rfl) (by rfl) (by rfl) (by rfl) (by rfl) (by simp) (λi hi=>?_) (by rfl)) (.cons rfl (.k1) (.cons rfl (.k5) (.cons rfl (.ls) .nil))))
   ·rcases cD hi with rfl|rfl|rfl|rfl|rfl<;>simp only[go_sem,simprocAttr]
   ·rcases cD hi with rfl|rfl|rfl|rfl|rfl<;>simp only[go_sem,simprocAttr]
  ·simp
  refine GA.cutQ (aL [(0,.fs 5 cs.length (cC cs)),(1,.fs 2 fs'.length (sC fs')),(5,.p 0 0),(7,.fs 1 pt.length (iC .i64 pt)),(18,.fs 5 cs.length (cC cs)),(19,.n .i64 cs.length),(20,.n .i64 k),(8,.os 1 out.length),(9,.os 2 op'.length),(12,.p 3 0),(14,.fs 2 more.length (sC more))])
   (aq [aK 0 38 [.n .i64 yopc,.n .i64 yto,.n .i64 ya,.n .i64 yb,.n .u32 yarg],ax 84 1 op'.length 0 (tQ op'),ax 38 5 out.length 0 (cC out),aK 0 88 [.f g [] [],.f v [] []]]) ?_ ?_
  rotate_left
  ·intro e' H' hw
   refine GA.wk hw ?_
   have hwo:=ff fs' [(yopc,yto,ya,yb,yarg)] g [] [] (.f v [] []) D (λz hz f=>by
    rw[List.mem_singleton.1 hz];exact hD _ hv2 f) rfl rfl (by omega) (by simp)
   have hwl:=dc D fs' [(yopc,yto,ya,yb,yarg)]
   change bj _ _ _ [.o 82 2 (fT D fs' [(yopc,yto,ya,yb,yarg)]).length 0 (sC (fT D fs' [(yopc,yto,ya,yb,yarg)]))] at hwo
   generalize fT D fs' [(yopc,yto,ya,yb,yarg)]=wfs at hwo hwl key hs
   have hlim:(wfs.length+more.length)*2<1099511627776/\(wfs.length+more.length)*16<=140737488355328/\wfs.length+more.length<=9223372036854775807:=by omega
   have hlio:(out.length+1)*5<1099511627776/\(out.length+1)*40<=140737488355328/\out.length+1<=9223372036854775807:=by omega
   repeat first|with_reducible refine gg ?_|simp only[hlim.1,hlim.2.1,hlim.2.2,hlio.1,hlio.2.1,hlio.2.2,decide_true,go_sem,simprocAttr]
   refine ah [4] (fargs:=[.fs 2 fs'.length (sC fs'),.agg [.f g [] [],.f v [] []],.fs 5 [(yopc,yto,ya,yb,yarg)].length (cC [(yopc,yto,ya,yb,yarg)])]) ?_ hwo (by simp only[go_sem,simprocAttr]) ?_
   ·refine .cons (.rfl (by rfl)) (.cons (.rfl (by rfl)) (.cons ?_ .nil))
    refine Cv.sl (x:=_) (by simp) (by simp only[go_sem,simprocAttr]<;>rfl) (by simp) (by simp) (by simp) (λi j hi hj=>?_) (λi j hi hj=>by rcases cD hj with rfl|rfl|rfl|rfl|rfl<;>rfl)
    obtain rfl:i=0:=by simpa using hi
    rw[<-hy5 j hj]
    rcases cD hj with rfl|rfl|rfl|rfl|rfl<;>simp only[go_sem,simprocAttr]
   repeat first|with_reducible refine gg ?_|simp only[hlim.1,hlim.2.1,hlim.2.2,hlio.1,hlio.2.1,hlio.2.2,decide_true,go_sem,simprocAttr]
   refine⟨_,_,_,?_,Wk.mk [2,8,0] [6] ?_ ?_ ?_,k+1,_,rfl,by omega,key,hs,rfl,rfl⟩
   ·omega
   ·simp only[aZ,a7,go_sem,simprocAttr]
    repeat' refine aa ?_ ?_
    all_goals first|exact bX|skip
    refine Wv.cv (Cv.os (x:=_) (by simp) (by simp only[go_sem,simprocAttr]<;>rfl) (by simp only[go_sem,simprocAttr]<;>omega) (λi j hi hj=>?_) (λi j hi hj=>fD _ _ _ hj))
    rw[fJ hj hi (by omega),aX i j hj]
    unfold sC
    by_cases hw:wfs.length<=i
    ·rw[if_pos hw]
     simp only[List.getD_eq_getElem?_getD,List.getElem?_append_right hw]
    ·rw[if_neg hw]
     simp only[List.getD_eq_getElem?_getD,List.getElem?_append_left (Nat.lt_of_not_le hw)]
   ·rw[show(out++[(yopc,yto,ya,yb,yarg)]).length=out.length+1 from by simp]
    refine .cons rfl (.k1) (.cons rfl (.snoc (by simp only[go_sem,simprocAttr]<;>rfl) (by simp) (by rfl) rfl (by decide) (by omega) (λi j hi _=>by unfold cC;rw[aP hi]) (λj hj=>by
     unfold cC
     rw[aQ]
     exact(hy5 j hj).symm) (λi j _ hj=>by rcases cD hj with rfl|rfl|rfl|rfl|rfl<;>rfl)) (.cons rfl (.ls) .nil))
   ·simp
  unfold eF at hsw
  repeat first|with_reducible refine gg ?_|simp only[go_sem,simprocAttr]
  refine⟨λh1=>?_,λh1=>?_⟩
  ·rw[if_pos h1] at hsw
   injection hsw with hsw
   injection hsw with e1 e2
   subst e1 e2
   have hlo:op.length+1<1099511627776/\(op.length+1)*24<=140737488355328/\op.length+1<=9223372036854775807:=by omega
   repeat first|with_reducible refine gg ?_|simp only[hlo.1,hlo.2.1,hlo.2.2,decide_true,go_sem,simprocAttr]
   refine Wk.mk [4,6,1,0] [] ?_ ?_ ?_
   ·simp only[aZ,a7,go_sem,simprocAttr]
    repeat' refine aa ?_ ?_
    all_goals first|exact bX|skip
   ·refine .cons rfl (.ls) (.cons rfl (.snoc (by simp only[go_sem,simprocAttr]<;>rfl) (by simp) (by rfl) rfl (by decide) (by omega) (λi j hi _=>iu _ _ _ _ hi) (λj hj=>by
     cases Nat.lt_one_iff.1 hj
     exact jA _ _ _) (λi j _ _=>rfl)) (.cons rfl (.k5) (.cons rfl (.ls) .nil)))
   ·simp
  rw[if_neg h1] at hsw
  repeat first|with_reducible refine gg ?_|simp only[go_sem,simprocAttr]
  refine⟨λh2=>?_,λh2=>?_⟩
  ·rw[if_pos h2] at hsw
   cases op with
   |nil=>cases hsw
   |cons t r=>
   simp only at hsw
   injection hsw with hsw
   injection hsw with e1 e2
   subst e1 e2
   have hrl:r.length<=k:=by simp only[List.length_cons] at hi2;omega
   have hsub:((r.length+1:Nat):Int)-1=(r.length:Int):=by omega
   have hz0:(0:Int)<=(r.length:Int):=by omega
   have hz1:(r.length:Int)<((r.length+1:Nat):Int):=by omega
   have hz2:r.length<r.length+1:=by omega
   have hg:(ax 84 1 (r.length+1) 0 (tQ (t::r))).get r.length= .fs 2 t.length (sC t):=by
    rw[bM];exact jA _ _ _
   repeat first|with_reducible refine gg ?_|simp only[hsub,hz0,hz1,hz2,hg,Nat.le_refl,go_sem,simprocAttr]
   refine Wk.mk [4,2,1,0] [] ?_ ?_ ?_
   ·simp only[aZ,a7,go_sem,simprocAttr]
    repeat' refine aa ?_ ?_
    all_goals first|exact bX|skip
   ·refine .cons rfl (.ls) (.cons rfl (.put (n:=r.length+1) (q:=r.length) (by simp only[go_sem,simprocAttr]<;>rfl) (by simp) rfl hz2 rfl (by decide) (by omega) (λi j h hj=>?_) (λi j h hj=>rfl)) (.cons rfl (.k5) (.cons rfl (.ls) .nil)))
    cases Nat.lt_one_iff.1 hj
    by_cases e:i=r.length
    ·rw[if_pos e,e];exact(jA _ _ _).symm
    ·rw[if_neg e,iu _ _ _ _ (by omega),iu _ _ _ _ (by omega)]
   ·simp
  rw[if_neg h2] at hsw
  have hkp:k<pt.length:=by omega
  have hkpi:(k:Int)<(pt.length:Int):=by omega
  repeat first|with_reducible refine gg ?_|simp only[go_sem,simprocAttr]
  refine⟨λh3=>?_,λh3=>?_⟩
  ·rw[if_pos h3] at hsw
   split at hsw
   rotate_left
   ·cases hsw
   rename_i hrg
   obtain⟨q,hq⟩:∃q:Nat,pt.getD k 0=(q:Int):=⟨(pt.getD k 0).toNat,by omega⟩
   rw[hq] at hrg hsw
   rw[Int.toNat_natCast] at hsw
   have hql:q-k=((cs.take q).drop k).length:=by rw[List.length_drop,List.length_take];omega
   have hwo:=ff fs ((cs.take q).drop k) g [] [] (.f v [] []) D (λz hz f=>hD z (hok z (List.mem_of_mem_take (List.mem_of_mem_drop hz))) f) rfl rfl (by omega) (by rw[<-hql];omega)
   have hwl:=dc D fs ((cs.take q).drop k)
   change bj _ _ _ [.o 82 2 (fT D fs ((cs.take q).drop k)).length 0 (sC (fT D fs ((cs.take q).drop k)))] at hwo
   generalize fT D fs ((cs.take q).drop k)=wfs at hwo hwl hsw
   injection hsw with hsw
   injection hsw with e1 e2
   subst e1 e2
   have hpk:iC .i64 pt k 0= .n .i64 (q:Int):=by unfold iC;rw[hq]
   have hq0:(0:Int)<=(q:Int):=by omega
   have hq1:(k:Int)<=(q:Int):=hrg.1
   have hq2:(q:Int)<=(cs.length:Int):=hrg.2
   repeat first|with_reducible refine gg ?_|simp only[h0,hkpi,hpk,hq0,hq1,hq2,go_sem,simprocAttr]
   rw[hql]
   refine ah [] (fargs:=[.fs 2 fs.length (sC fs),.agg [.f g [] [],.f v [] []],.fs 5 ((cs.take q).drop k).length (cC ((cs.take q).drop k))]) ?_ hwo (by simp only[go_sem,simprocAttr]) ?_
   ·refine .cons (.rfl (by rfl)) (.cons (.rfl (by rfl)) (.cons (.fs (λi j hi hj=>?_)) .nil))
    unfold cC
    rw[List.getD_eq_getElem?_getD,List.getD_eq_getElem?_getD,List.getElem?_drop,List.getElem?_take_of_lt (by omega)]
   repeat first|with_reducible refine gg ?_|simp only[go_sem,simprocAttr]
   refine Wk.mk [4,2,1,0] [5] ?_ ?_ ?_
   ·simp only[aZ,a7,go_sem,simprocAttr]
    repeat' refine aa ?_ ?_
    all_goals first|exact bX|skip
    exact Wv.cv (Cv.own (ty:=82) (z:=0) (by simp) (by simp only[go_sem,simprocAttr]) (λi j _ hj=>fD _ _ _ hj))
   ·refine .cons rfl (.ls) (.cons rfl (.k1) (.cons rfl (.k5) (.cons rfl (.ls) .nil)))
   ·simp
  rw[if_neg h3] at hsw
  by_cases h4:opc=31
  ·rw[if_pos h4] at hsw
   subst h4
   split at hsw
   rotate_left
   ·cases hsw
   rename_i hrg
   obtain⟨q,hq⟩:∃q:Nat,pt.getD k 0=(q:Int):=⟨(pt.getD k 0).toNat,by omega⟩
   rw[hq] at hrg hsw
   rw[Int.toNat_natCast] at hsw
   have hpk:iC .i64 pt k 0= .n .i64 (q:Int):=by unfold iC;rw[hq]
   have hq0:(0:Int)<=(q:Int):=by omega
   have hq1:(q:Int)<=(k:Int):=hrg.2
   have hq2:(q:Int)<(cs.length:Int):=by omega
   have hq3:(k:Int)<=(cs.length:Int):=by omega
   have hcq:cC cs q 0= .n .i64 (cs.getD q ej).1:=ki cs q
   repeat first|with_reducible refine gg ?_|simp only[h0,hkpi,hpk,hq0,hq1,hq2,hcq,decide_true,go_sem,simprocAttr]
   refine⟨λh5=>?_,λh5=>?_⟩
   ·rw[if_pos h5] at hsw
    have hql:k-q=((cs.take k).drop q).length:=by rw[List.length_drop,List.length_take];omega
    have hwo:=ff fs ((cs.take k).drop q) g [] [] (.f v [] []) D (λz hz f=>hD z (hok z (List.mem_of_mem_take (List.mem_of_mem_drop hz))) f) rfl rfl (by omega) (by rw[<-hql];omega)
    have hwl:=dc D fs ((cs.take k).drop q)
    change bj _ _ _ [.o 82 2 (fT D fs ((cs.take k).drop q)).length 0 (sC (fT D fs ((cs.take k).drop q)))] at hwo
    generalize fT D fs ((cs.take k).drop q)=wfs at hwo hwl hsw
    injection hsw with hsw
    injection hsw with e1 e2
    subst e1 e2
    repeat first|with_reducible refine gg ?_|simp only[h0,hkpi,hpk,hq0,hq1,hq2,hq3,go_sem,simprocAttr]
    rw[hql]
    refine ah [] (fargs:=[.fs 2 fs.length (sC fs),.agg [.f g [] [],.f v [] []],.fs 5 ((cs.take k).drop q).length (cC ((cs.take k).drop q))]) ?_ hwo (by simp only[go_sem,simprocAttr]) ?_
    ·refine .cons (.rfl (by rfl)) (.cons (.rfl (by rfl)) (.cons (.fs (λi j hi hj=>?_)) .nil))
     unfold cC
     rw[List.getD_eq_getElem?_getD,List.getD_eq_getElem?_getD,List.getElem?_drop,List.getElem?_take_of_lt (by omega)]
    repeat first|with_reducible refine gg ?_|simp only[go_sem,simprocAttr]
    refine Wk.mk [4,2,1,0] [5] ?_ ?_ ?_
    ·simp only[aZ,a7,go_sem,simprocAttr]
     repeat' refine aa ?_ ?_
     all_goals first|exact bX|skip
     exact Wv.cv (Cv.own (ty:=82) (z:=0) (by simp) (by simp only[go_sem,simprocAttr]) (λi j _ hj=>fD _ _ _ hj))
    ·refine .cons rfl (.ls) (.cons rfl (.k1) (.cons rfl (.k5) (.cons rfl (.ls) .nil)))
    ·simp
   ·rw[if_neg h5] at hsw
    cases op with
    |nil=>cases hsw
    |cons t r=>
    simp only at hsw
    have hrl:r.length<=k:=by simp only[List.length_cons] at hi2;omega
    have htl:=hi5 t (List.mem_cons_self ..)
    have hbo:=qi fs t (by omega) (by omega)
    have hbl:=jF (λf g=>decide (f.1=g.1)&&decide (f.2=g.2)) fs t
    change bj _ _ _ [.o 82 2 (qj (λf g=>decide (f.1=g.1)&&decide (f.2=g.2)) fs t).length 0 (sC (qj (λf g=>decide (f.1=g.1)&&decide (f.2=g.2)) fs t))] at hbo
    generalize qj (λf g=>decide (f.1=g.1)&&decide (f.2=g.2)) fs t=bfs at hbo hbl hsw
    injection hsw with hsw
    injection hsw with e1 e2
    subst e1 e2
    have hsub:((r.length+1:Nat):Int)-1=(r.length:Int):=by omega
    have hz0:(0:Int)<=(r.length:Int):=by omega
    have hz1:(r.length:Int)<((r.length+1:Nat):Int):=by omega
    have hz3:(r.length:Int)<=((r.length+1:Nat):Int):=by omega
    have hz2:r.length<r.length+1:=by omega
    have hg:(ax 84 1 (r.length+1) 0 (tQ (t::r))).get r.length= .fs 2 t.length (sC t):=by
     rw[bM];exact jA _ _ _
    repeat first|with_reducible refine gg ?_|simp only[hsub,hz0,hz1,hz2,hz3,hg,Int.le_refl,go_sem,simprocAttr]
    refine g2 hbo ?_
    repeat first|with_reducible refine gg ?_|simp only[go_sem,simprocAttr]
    refine Wk.mk [4,2,1,0] [5] ?_ ?_ ?_
    ·simp only[aZ,a7,go_sem,simprocAttr]
     repeat' refine aa ?_ ?_
     all_goals first|exact bX|skip
     exact Wv.cv (Cv.own (ty:=82) (z:=0) (by simp) (by simp only[go_sem,simprocAttr]) (λi j _ hj=>fD _ _ _ hj))
    ·refine .cons rfl (.ls) (.cons rfl (.pop (n:=r.length+1) (by simp only[go_sem,simprocAttr]<;>rfl) rfl (by decide) (by omega) (λi j hi _=>iu _ _ _ _ hi) (λi j _ hj=>rfl)) (.cons rfl (.k5) (.cons rfl (.ls) .nil)))
    ·simp
  rw[if_neg h4] at hsw
  injection hsw with hsw
  injection hsw with e1 e2
  subst e1 e2
  repeat first|with_reducible refine gg ?_|simp only[h4,decide_false,go_sem,simprocAttr]
  refine Wk.mk [4,2,1,0] [] ?_ ?_ ?_
  ·simp only[aZ,a7,go_sem,simprocAttr]
   repeat' refine aa ?_ ?_
   all_goals first|exact bX|skip
  ·refine .cons rfl (.ls) (.cons rfl (.k1) (.cons rfl (.k5) (.cons rfl (.ls) .nil)))
  ·simp
 ·have hkn:k=cs.length:=by omega
  subst hkn
  rw[List.drop_length,bI] at hs
  cases hs
  repeat first|with_reducible refine gg ?_|simp only[go_sem,simprocAttr]
  refine⟨[_],rfl,.o (x:=_) (by simp only[go_sem,simprocAttr];rfl) (by rfl) (by rfl) (by rfl) (by decide) (Nat.le_refl _) (Nat.le_refl _) (λi j _ hj=>aX i j hj) (λi j _ hj=>bt i hj) rfl .nil⟩
def dN:List (Int×Int)->Int->Int
 |[],r=>r
 |f::l,r=>if f.1=r then f.2 else dN l r
theorem jK(l:List (Int×Int))(r:Int)(hl:l.length<1000000):bj Try.prog 46 [.fs 2 l.length (sC l),.n .i64 r] [.v (.n .i64 (dN l r))]:=by
 refine ae aH Kr ⟨by simp,by decide⟩ ?_
 simp only[aV]
 repeat first|with_reducible refine gg ?_|simp only[go_sem,simprocAttr]
 refine GA.loop (I:=λmm e H=>∃k:Nat,mm=l.length-k/\k<=l.length/\dN l r=dN (l.drop k) r/\e=aL [(1,.n .i64 r),(7,.fs 2 l.length (sC l)),(8,.n .i64 l.length),(9,.n .i64 k)]/\H=aq []) (Wk.mk [] [] ?_ ?_ ?_) ⟨0,rfl,by omega,rfl,rfl,rfl⟩ ?_
 ·simp only[aZ,a7,go_sem,simprocAttr]
  repeat' refine aa ?_ ?_
  all_goals first|exact bX|skip
 ·trivial
 ·simp
 rintro mm e H ⟨k,rfl,hk,hs,rfl,rfl⟩
 repeat first|with_reducible refine gg ?_|simp only[go_sem,simprocAttr]
 refine⟨λh=>?_,λh=>?_⟩
 ·have hk':k<l.length:=by omega
  have h0:(0:Int)<=(k:Int):=by omega
  rw[bq (d:=(0,0)) hk',dN] at hs
  repeat first|with_reducible refine gg ?_|simp only[h0,h,Jh,Jg,go_sem,simprocAttr]
  refine⟨λh1=>?_,λh1=>?_⟩
  ·rw[if_pos h1] at hs
   repeat first|with_reducible refine gg ?_|simp only[go_sem,simprocAttr]
   exact ag (by rw[hs]) rfl
  ·rw[if_neg h1] at hs
   repeat first|with_reducible refine gg ?_|simp only[go_sem,simprocAttr]
   refine⟨_,_,_,?_,Wk.mk [] [] ?_ ?_ ?_,k+1,rfl,by omega,hs,rfl,rfl⟩
   ·omega
   ·simp only[aZ,a7,go_sem,simprocAttr]
    repeat' refine aa ?_ ?_
    all_goals first|exact bX|skip
   ·trivial
   ·simp
 ·have:k=l.length:=by omega
  rw[this,List.drop_length,dN] at hs
  repeat first|with_reducible refine gg ?_|simp only[go_sem,simprocAttr]
  exact ag (by rw[hs]) rfl
def m0(x:In)(f:Int×Int):Bool:=decide (b8 x.1 x.2.1=f.1)||decide (b8 x.1 x.2.1=f.2)
theorem m7(x:In)(f:Int×Int)(h:opOk x):bj Try.prog 44 [aI x,sV f] [.v (.b (m0 x f))]:=by
 obtain⟨op,to,a,b,arg⟩:=x
 refine ae aH Fa ⟨by simp,by decide⟩ ?_
 simp only[aV,sV,aI,m0]
 repeat first|with_reducible refine gg ?_|simp only[go_sem,simprocAttr]
 refine g1 (fP op to a b arg h) ?_
 by_cases h1:b8 op to=f.1
 ·repeat first|with_reducible refine gg ?_|simp only[h1,decide_true,go_sem,simprocAttr]
  exact ag (by simp) rfl
 ·repeat first|with_reducible refine gg ?_|simp only[h1,decide_false,go_sem,simprocAttr]
  exact ag (by simp) rfl
theorem eP{P:Program}{f:FuncId}{args:List AV}{a b:AV}{esz:Nat}{row:Nat->Nat->AV}(h:bj P f args [.v a,.v b,.v .sl0]):bj P f args [.v a,.v b,.v (.fs esz 0 row)]:=by
 refine⟨h.1,λφ w args' hφ ha=>(h.2 φ w args' hφ ha).mono λe w' hq=>?_⟩
 cases e with
 |panicked c=>exact hq.elim
 |outgrown=>exact hq.elim
 |returned u=>
  obtain⟨v,Hc,σ',⟨l,rfl,hr⟩,hv,hHc,hbel,hfz⟩:=hq
  match l,hr with
  |[x,y,z],hr=>
   obtain⟨⟨rfl,h1⟩,⟨rfl,h2⟩,⟨rfl,h3⟩,_⟩:=hr
   obtain⟨us,hus,hback⟩:=eN hv
   refine⟨_,Hc,σ',⟨[x,y,.fs esz 0 row],rfl,⟨rfl,h1⟩,⟨rfl,h2⟩,⟨rfl,rfl⟩,trivial⟩,hback rfl ⟨hus.1,λi v hi=>?_⟩,hHc,hbel,hfz⟩
   match i with
   |0=>exact hus.2 0 v hi
   |1=>exact hus.2 1 v hi
   |2=>
    have h0:=hus.2 2 .sl0 rfl
    simp only[List.getElem?_cons_succ,List.getElem?_cons_zero,Option.some.injEq] at hi
    subst hi
    generalize us.getD 2 undef=u2 at h0
    cases h0
    exact .fs0 _ _ _ _
   |i+3=>simp at hi
def gm(op to a b arg:Int):In×Bool×List (Int×Int):=
 if op=36 then(if a=to then((op,to,a,b,arg),false,[]) else((op,to,a,b,arg),true,[(to,a)])) else((op,to,a,b,arg),true,[])
def ep(x:In)(fs:List (Int×Int)):In×Bool×List (Int×Int):=gm x.1 x.2.1 (dN fs x.2.2.1) (dN fs x.2.2.2.1) x.2.2.2.2
theorem m6(x:In)(fs:List (Int×Int))(hl:fs.length<1000000):bj Try.prog 45 [aI x,.fs 2 fs.length (sC fs)] [.v (aI (ep x fs).1),.v (.b (ep x fs).2.1),.v (.fs 2 (ep x fs).2.2.length (sC (ep x fs).2.2))]:=by
 obtain⟨op,to,a,b,arg⟩:=x
 have hsa:=jK fs a hl
 have hsb:=jK fs b hl
 show bj _ _ _ [.v (aI (gm op to (dN fs a) (dN fs b) arg).1),.v (.b (gm op to (dN fs a) (dN fs b) arg).2.1),.v (.fs 2 (gm op to (dN fs a) (dN fs b) arg).2.2.length (sC (gm op to (dN fs a) (dN fs b) arg).2.2))]
 generalize dN fs a=a' at hsa ⊢
 generalize dN fs b=b' at hsb ⊢
 unfold gm
 by_cases h1:op=36
 ·subst h1
  rw[if_pos rfl]
  by_cases h2:a'=to
  ·rw[if_pos h2]
   subst h2
   refine eP ?_
   refine ae aH qG ⟨by simp,by decide⟩ ?_
   simp only[aV,aI]
   repeat first|with_reducible refine gg ?_|simp only[go_sem,simprocAttr]
   refine g2 hsa ?_
   repeat first|with_reducible refine gg ?_|simp only[go_sem,simprocAttr]
   first
    |refine aa (by first|decide|simp) ?_
    |skip
   refine g2 hsb ?_
   repeat first|with_reducible refine gg ?_|simp only[decide_true,go_sem,simprocAttr]
   exact bn (.v rfl rfl (.v rfl rfl (.v rfl rfl .nil)))
  ·rw[if_neg h2]
   refine ae aH qG ⟨by simp,by decide⟩ ?_
   simp only[aV,aI]
   repeat first|with_reducible refine gg ?_|simp only[go_sem,simprocAttr]
   refine g2 hsa ?_
   repeat first|with_reducible refine gg ?_|simp only[go_sem,simprocAttr]
   first
    |refine aa (by first|decide|simp) ?_
    |skip
   refine g2 hsb ?_
   repeat first|with_reducible refine gg ?_|simp only[decide_true,h2,decide_false,go_sem,simprocAttr]
   refine GA.cut' (aL [(4,.p 0 0),(5,.b true),(6,.fs 2 1 (sC [(to,a')]))]) (aq [aK 0 38 [.n .i64 36,.n .i64 to,.n .i64 a',.n .i64 b',.n .u32 arg]]) ?_ ?_
   ·refine GA.frkm aH 1 (by simp only[ee,go_sem,simprocAttr]) ?_
    simp only[go_sem,simprocAttr]
    repeat' refine aa ?_ ?_
    all_goals first
     |decide
     |(refine Wk.mk [1] [2] ?_ ?_ ?_
       ·simp only[aZ,go_sem,simprocAttr]
        repeat' refine aa ?_ ?_
        ·exact Wv.p rfl
        ·exact Wv.same rfl
        ·refine Wv.cv (Cv.sl (x:=_) (by simp) (by simp only[go_sem,simprocAttr];rfl) (by simp only[go_sem,simprocAttr];first|done|decide) (by decide) (by simp only[go_sem,simprocAttr];first|done|decide) (λi j hi hj=>?_) (λi j _ _=>by unfold sC;split<;>rfl))
         obtain rfl:i=0:=by omega
         have hj2:j=0\/j=1:=by omega
         rcases hj2 with rfl|rfl<;>simp only[go_sem,simprocAttr]<;>rfl
       ·refine .cons rfl (.lsti (x:=_) (by simp only[go_sem,simprocAttr];rfl) (by rfl) (by rfl) (by rfl) (by rfl) (by rfl) (by rfl) (by simp) (λi hi=>?_) rfl) .nil
        rcases cD hi with rfl|rfl|rfl|rfl|rfl<;>simp only[go_sem,simprocAttr]
       ·simp)
   ·repeat first|with_reducible refine gg ?_|simp only[go_sem,simprocAttr]
    exact bn (.v rfl rfl (.v rfl rfl (.v rfl rfl .nil)))
 ·rw[if_neg h1]
  refine eP ?_
  refine ae aH qG ⟨by simp,by decide⟩ ?_
  simp only[aV,aI]
  repeat first|with_reducible refine gg ?_|simp only[go_sem,simprocAttr]
  refine g2 hsa ?_
  repeat first|with_reducible refine gg ?_|simp only[go_sem,simprocAttr]
  first
   |refine aa (by first|decide|simp) ?_
   |skip
  refine g2 hsb ?_
  repeat first|with_reducible refine gg ?_|simp only[h1,decide_false,go_sem,simprocAttr]
  exact bn (.v rfl rfl (.v rfl rfl (.v rfl rfl .nil)))
theorem pb(x:In)(fs:List (Int×Int))(hx:opOk x):((ep x fs).2.2.length<=1/\∀f ∈ (ep x fs).2.2,True)/\opOk (ep x fs).1:=by
 refine⟨⟨?_,λ_ _=>trivial⟩,?_⟩
 ·unfold ep gm
  split
  ·split<;>simp
  ·simp
 ·unfold ep gm
  split
  ·split<;>exact hx
  ·exact hx
theorem od{na:Nat}{ra:Nat->Nat->AV}{regs par:Int}{cs:List In}{pt:List Int}{fin:nq (Int×Int)}(hcs:cs.length<400000)(hok:∀x ∈ cs,opOk x)(hpt:dP cs=some pt)(hptl:pt.length=cs.length)
  (hgo:bI m0 (λf g=>decide (f.1=g.1)&&decide (f.2=g.2)) ep cs pt cs 0 ⟨[],[],[]⟩=some fin):
  bj Try.prog 26 [af na ra regs par cs] [.o 38 5 fin.out.length 0 (cC fin.out)]:=by
 have hw:=pg (n0:=0) (pf:=λ_=>True) m0 ep 44 45 cs [] pt fin (λx hx f=>m7 x f hx) (λx hx fs hl _=>m6 x fs hl) (λx hx fs _=>(pb x fs (hok x hx)).1) (λx hx fs _=>(pb x fs (hok x hx)).2) hcs hok (by simp) (by decide) (by simp) hpt hptl hgo
 refine ae aH Fq ⟨by simp,by decide⟩ ?_
 simp only[aV,af]
 repeat first|with_reducible refine gg ?_|simp only[go_sem,simprocAttr]
 refine ah [] (fargs:=[.fs 5 cs.length (cC cs),.fs 2 ([]:List (Int×Int)).length (sC []),.agg [.f 44 [] [],.f 45 [] []]]) (.cons (.rfl (by rfl)) (.cons (.sl0 _ _) (.cons (.rfl (by rfl)) .nil))) hw (by simp only[go_sem,simprocAttr]) ?_
 repeat first|with_reducible refine gg ?_|simp only[go_sem,simprocAttr]
 refine⟨[_],rfl,.o (x:=_) (by simp only[go_sem,simprocAttr];rfl) (by rfl) (by rfl) (by rfl) (by decide) (Nat.le_refl _) (Nat.le_refl _) (λi j _ hj=>aX i j hj) (λi j _ hj=>bt i hj) rfl .nil⟩
theorem j3(l:List In)(g:FuncId)(c1 c2:List AV)(p:In->Bool)(hp:∀f ∈ l,bj Try.prog g (c1++[aI f]++c2) [.v (.b (p f))])(hl:l.length<1000000)(hpu:(c1.all (AV.pu 2)&&c2.all (AV.pu 2))=true):
  bj Try.prog 50 [.fs 5 l.length (cC l),.f g c1 c2] [.v (.n .i64 (dy p l 0))]:=by
 refine ae aH Cy ⟨by simp,by decide⟩ ?_
 simp only[aV]
 repeat first|with_reducible refine gg ?_|simp only[go_sem,simprocAttr]
 refine GA.loop (I:=λm e H=>∃k:Nat,m=l.length-k/\k<=l.length/\dy p l 0=dy p (l.drop k) k/\e=aL [(0,.fs 5 l.length (cC l)),(1,.f g c1 c2),(6,.fs 5 l.length (cC l)),(7,.n .i64 l.length),(8,.n .i64 k)]/\H=aq []) (Wk.mk [] [] ?_ ?_ ?_) ⟨0,rfl,by omega,rfl,rfl,rfl⟩ ?_
 ·simp only[aZ,a7,go_sem,simprocAttr]
  repeat' refine aa ?_ ?_
  all_goals first|exact bX|skip
  all_goals exact Wv.same hpu
 ·trivial
 ·decide
 rintro m e H ⟨k,rfl,hk,hs,rfl,rfl⟩
 repeat first|with_reducible refine gg ?_|simp only[go_sem,simprocAttr]
 refine⟨λh=>?_,λh=>?_⟩
 ·have hk':k<l.length:=by omega
  have h0:(0:Int)<=(k:Int):=by omega
  rw[bq (d:=(0,0,0,0,0)) hk',dy] at hs
  have hm:l.getD k (0,0,0,0,0) ∈ l:=by rw[List.getD_eq_getElem?_getD,List.getElem?_eq_getElem hk'];exact List.getElem_mem _
  repeat first|with_reducible refine gg ?_|simp only[h0,h,ki,ny,ou,ot,oo,go_sem,simprocAttr]
  refine ah [] (fargs:=c1++[aI (l.getD k (0,0,0,0,0))]++c2) ?_ (hp _ hm) (by decide) ?_
  ·refine gG.same ?_
   simp only[List.all_append,Bool.and_eq_true] at hpu ⊢
   exact⟨⟨bH hpu.1,rfl⟩,bH hpu.2⟩
  repeat first|with_reducible refine gg ?_|simp only[go_sem,simprocAttr]
  refine⟨λh1=>?_,λh1=>?_⟩
  ·repeat first|with_reducible refine gg ?_|simp only[go_sem,simprocAttr]
   rw[if_pos h1] at hs
   exact ag (by rw[hs]) rfl
  ·repeat first|with_reducible refine gg ?_|simp only[go_sem,simprocAttr]
   rw[if_neg (by rw[h1];simp)] at hs
   refine⟨_,_,_,?_,Wk.mk [] [] ?_ ?_ ?_,k+1,rfl,by omega,hs,rfl,rfl⟩
   ·omega
   ·simp only[aZ,a7,go_sem,simprocAttr]
    repeat' refine aa ?_ ?_
    all_goals first|exact bX|skip
    all_goals exact Wv.same hpu
   ·trivial
   ·decide
 ·repeat first|with_reducible refine gg ?_|simp only[go_sem,simprocAttr]
  have:k=l.length:=by omega
  subst this
  rw[List.drop_length,dy] at hs
  exact ag (by rw[hs]) rfl
def fF(op:Int):Bool:=ce op||decide (op=3)||decide (op=32)||decide (op=33)
theorem gj(op:Int):bj Try.prog 40 [.n .i64 op] [.v (.b (fF op))]:=by
 refine ae aH CE ⟨by simp,by decide⟩ ?_
 simp only[aV]
 repeat first|with_reducible refine gg ?_|simp only[go_sem,simprocAttr]
 refine g1 (dp op) ?_
 unfold fF
 cases ha:ce op
 ·by_cases h3:op=3
  ·repeat first|with_reducible refine gg ?_|simp only[h3,decide_true,go_sem,simprocAttr]
   exact ag rfl rfl
  ·by_cases h32:op=32
   ·have h3':¬(32:Int)=3:=by decide
    repeat first|with_reducible refine gg ?_|simp only[h32,h3',decide_true,decide_false,go_sem,simprocAttr]
    exact ag rfl rfl
   ·repeat first|with_reducible refine gg ?_|simp only[h3,h32,decide_false,go_sem,simprocAttr]
    exact ag (by simp) rfl
 ·repeat first|with_reducible refine gg ?_|simp only[go_sem,simprocAttr]
  exact ag rfl rfl
def iU(f x:In):Bool:=dR f (x.1,f.2.1,x.2.2.1,x.2.2.2.1,x.2.2.2.2)
theorem lU(f x:In):bj Try.prog 52 [aI f,aI x] [.v (.b (iU f x))]:=by
 obtain⟨op,to,a,b,arg⟩:=x
 refine ae aH Cm ⟨by simp,by decide⟩ ?_
 simp only[aV,aI]
 repeat first|with_reducible refine gg ?_|simp only[mg,jw,f9,l6,SH.row,go_sem,simprocAttr]
 refine ag ?_ rfl
 unfold iU
 rw[jE]
 simp
theorem mw(f x:In)(row:Nat->AV)(hrow:∀j,j<5->row j=rD x j):bj Try.prog 51 [aI f,.fp 5 row 0] [.v (.b (iU f x))]:=by
 have hc:=lU f x
 obtain⟨op,to,a,b,arg⟩:=x
 refine ae aH Cp ⟨by simp,by decide⟩ ?_
 have h0:row 0= .n .i64 op:=hrow 0 (by decide)
 have h1:row 1= .n .i64 to:=hrow 1 (by decide)
 have h2:row 2= .n .i64 a:=hrow 2 (by decide)
 have h3:row 3= .n .i64 b:=hrow 3 (by decide)
 have h4:row 4= .n .u32 arg:=hrow 4 (by decide)
 simp only[aV,aI] at hc ⊢
 repeat first|with_reducible refine gg ?_|simp only[h0,h1,h2,h3,h4,go_sem,simprocAttr]
 refine g2 hc ?_
 repeat first|with_reducible refine gg ?_|simp only[go_sem,simprocAttr]
 exact ag rfl rfl
def mZ(x f:In):Bool:=
 (decide (0<=b8 x.1 x.2.1)&&(decide (b8 x.1 x.2.1=f.2.1)||decide (b8 x.1 x.2.1=f.2.2.1)||decide (b8 x.1 x.2.1=f.2.2.2.1)))||(decide (x.1=4)&&decide (f.1=3)&&decide (x.2.2.2.2=f.2.2.2.2))
theorem nG(x f:In)(h:opOk x):bj Try.prog 48 [aI x,aI f] [.v (.b (mZ x f))]:=by
 obtain⟨op,to,a,b,arg⟩:=x
 obtain⟨fop,fto,fa,fb,farg⟩:=f
 have hw:=fP op to a b arg h
 unfold mZ
 simp only
 generalize b8 op to=w at hw ⊢
 refine ae aH CU ⟨by simp,by decide⟩ ?_
 simp only[aV,aI]
 repeat first|with_reducible refine gg ?_|simp only[go_sem,simprocAttr]
 refine g1 hw ?_
 cases d0:decide (0<=w)<;>cases d1:decide (w=fto)<;>cases d2:decide (w=fa)<;>cases d3:decide (w=fb)<;>cases d4:decide (op=4)<;>cases d5:decide (fop=3)
 all_goals
  repeat first|with_reducible refine gg ?_|simp only[d0,d1,d2,d3,d4,d5,go_sem,simprocAttr]
  first
   |exact ag (by simp only[Bool.and_true,Bool.true_and,Bool.false_and,Bool.and_false,Bool.or_true,Bool.true_or,Bool.false_or,Bool.or_false]) rfl
   |exact ag rfl rfl
def ef(x:In)(fs:List In):In×Bool×List In:=
 if fF x.1=true then
  (if 0<=dy (λf=>iU f x) fs 0 then
   (if(fs.getD (dy (λf=>iU f x) fs 0).toNat (0,0,0,0,0)).2.1=x.2.1 then(x,false,[]) else((36,x.2.1,(fs.getD (dy (λf=>iU f x) fs 0).toNat (0,0,0,0,0)).2.1,-1,0),true,[]))
  else if x.2.1=x.2.2.1\/x.2.1=x.2.2.2.1 then(x,true,[]) else(x,true,[x]))
 else(x,true,[])
theorem nF(x:In)(fs:List In)(hl:fs.length<1000000):bj Try.prog 49 [aI x,.fs 5 fs.length (cC fs)] [.v (aI (ef x fs).1),.v (.b (ef x fs).2.1),.v (.fs 5 (ef x fs).2.2.length (cC (ef x fs).2.2))]:=by
 have hif:=λrow (hrow:∀j,j<5->row j=rD x j)=>j3 fs 51 [] [.fp 5 row 0] (λf=>iU f x) (λf _=>mw f x row hrow) hl rfl
 unfold ef
 have hx:=gj x.1
 generalize hq:dy (λf=>iU f x) fs 0=q at hif ⊢
 have hqr:=nY (λf=>iU f x) fs 0
 rw[hq] at hqr
 obtain⟨op,to,a,b,arg⟩:=x
 simp only at hx ⊢
 cases he:fF op
 ·rw[he] at hx
  rw[if_neg (by simp)]
  refine eP ?_
  refine ae aH mj ⟨by simp,by decide⟩ ?_
  simp only[aV,aI]
  repeat first|with_reducible refine gg ?_|simp only[go_sem,simprocAttr]
  refine g1 hx ?_
  repeat first|with_reducible refine gg ?_|simp only[go_sem,simprocAttr]
  exact bn (.v rfl rfl (.v rfl rfl (.v rfl rfl .nil)))
 ·rw[he] at hx
  rw[if_pos rfl]
  by_cases h0:0<=q
  ·rw[if_pos h0]
   obtain⟨p,rfl⟩:∃p:Nat,q=(p:Int):=⟨q.toNat,by omega⟩
   have hp1:(p:Int)<(fs.length:Int):=by omega
   rw[Int.toNat_natCast]
   have hc1:=ny fs p
   generalize (fs.getD p (0,0,0,0,0)).2.1=ft at hc1 ⊢
   by_cases h1:ft=to
   ·rw[if_pos h1]
    subst h1
    refine eP ?_
    refine ae aH mj ⟨by simp,by decide⟩ ?_
    simp only[aV,aI]
    repeat first|with_reducible refine gg ?_|simp only[go_sem,simprocAttr]
    refine g1 hx ?_
    repeat first|with_reducible refine gg ?_|simp only[go_sem,simprocAttr]
    refine eS [0] (fargs:=[.fs 5 fs.length (cC fs),.f 51 [] [.fp 5 (λj=>[AV.n .i64 op,AV.n .i64 ft,AV.n .i64 a,AV.n .i64 b,AV.n .u32 arg][j]?.getD .u) 0]]) ?_ (hif _ (λj hj=>by rcases cD hj with rfl|rfl|rfl|rfl|rfl<;>rfl)) (by simp only[go_sem,simprocAttr]) (λr hr=>by rw[List.mem_singleton.1 hr];rfl) ?_
    ·refine .cons (.rfl rfl) (.cons (.fn .nil (.cons ?_ .nil)) .nil)
     refine Cv.box (l:=[AV.n .i64 op,AV.n .i64 ft,AV.n .i64 a,AV.n .i64 b,AV.n .u32 arg]) (b:=0) rfl (x:=_) (by simp only[go_sem,simprocAttr];rfl) (by rfl) (by simp) (λj hj=>?_) rfl
     rcases cD (by simpa using hj) with rfl|rfl|rfl|rfl|rfl<;>simp only[go_sem,simprocAttr]
    repeat first|with_reducible refine gg ?_|simp only[h0,hp1,hc1,decide_true,go_sem,simprocAttr]
    exact bn (.v rfl rfl (.v rfl rfl (.v rfl rfl .nil)))
   ·rw[if_neg h1]
    refine eP ?_
    refine ae aH mj ⟨by simp,by decide⟩ ?_
    simp only[aV,aI]
    repeat first|with_reducible refine gg ?_|simp only[go_sem,simprocAttr]
    refine g1 hx ?_
    repeat first|with_reducible refine gg ?_|simp only[go_sem,simprocAttr]
    refine eS [0] (fargs:=[.fs 5 fs.length (cC fs),.f 51 [] [.fp 5 (λj=>[AV.n .i64 op,AV.n .i64 to,AV.n .i64 a,AV.n .i64 b,AV.n .u32 arg][j]?.getD .u) 0]]) ?_ (hif _ (λj hj=>by rcases cD hj with rfl|rfl|rfl|rfl|rfl<;>rfl)) (by simp only[go_sem,simprocAttr]) (λr hr=>by rw[List.mem_singleton.1 hr];rfl) ?_
    ·refine .cons (.rfl rfl) (.cons (.fn .nil (.cons ?_ .nil)) .nil)
     refine Cv.box (l:=[AV.n .i64 op,AV.n .i64 to,AV.n .i64 a,AV.n .i64 b,AV.n .u32 arg]) (b:=0) rfl (x:=_) (by simp only[go_sem,simprocAttr];rfl) (by rfl) (by simp) (λj hj=>?_) rfl
     rcases cD (by simpa using hj) with rfl|rfl|rfl|rfl|rfl<;>simp only[go_sem,simprocAttr]
    repeat first|with_reducible refine gg ?_|simp only[h0,hp1,hc1,h1,decide_true,decide_false,go_sem,simprocAttr]
    exact bn (.v rfl rfl (.v rfl rfl (.v rfl rfl .nil)))
  ·rw[if_neg h0]
   by_cases h2:to=a\/to=b
   ·rw[if_pos h2]
    refine eP ?_
    refine ae aH mj ⟨by simp,by decide⟩ ?_
    simp only[aV,aI]
    repeat first|with_reducible refine gg ?_|simp only[go_sem,simprocAttr]
    refine g1 hx ?_
    repeat first|with_reducible refine gg ?_|simp only[go_sem,simprocAttr]
    refine eS [0] (fargs:=[.fs 5 fs.length (cC fs),.f 51 [] [.fp 5 (λj=>[AV.n .i64 op,AV.n .i64 to,AV.n .i64 a,AV.n .i64 b,AV.n .u32 arg][j]?.getD .u) 0]]) ?_ (hif _ (λj hj=>by rcases cD hj with rfl|rfl|rfl|rfl|rfl<;>rfl)) (by simp only[go_sem,simprocAttr]) (λr hr=>by rw[List.mem_singleton.1 hr];rfl) ?_
    ·refine .cons (.rfl rfl) (.cons (.fn .nil (.cons ?_ .nil)) .nil)
     refine Cv.box (l:=[AV.n .i64 op,AV.n .i64 to,AV.n .i64 a,AV.n .i64 b,AV.n .u32 arg]) (b:=0) rfl (x:=_) (by simp only[go_sem,simprocAttr];rfl) (by rfl) (by simp) (λj hj=>?_) rfl
     rcases cD (by simpa using hj) with rfl|rfl|rfl|rfl|rfl<;>simp only[go_sem,simprocAttr]
    cases d1:decide (to=a)<;>cases d2:decide (to=b)
    all_goals try (exact absurd h2 (by simp at d1 d2;omega))
    all_goals
     repeat first|with_reducible refine gg ?_|simp only[h0,decide_false,d1,d2,go_sem,simprocAttr]
     exact bn (.v rfl rfl (.v rfl rfl (.v rfl rfl .nil)))
   ·rw[if_neg h2]
    have d1:decide (to=a)=false:=by simp;omega
    have d2:decide (to=b)=false:=by simp;omega
    refine ae aH mj ⟨by simp,by decide⟩ ?_
    simp only[aV,aI]
    repeat first|with_reducible refine gg ?_|simp only[go_sem,simprocAttr]
    refine g1 hx ?_
    repeat first|with_reducible refine gg ?_|simp only[go_sem,simprocAttr]
    refine eS [0] (fargs:=[.fs 5 fs.length (cC fs),.f 51 [] [.fp 5 (λj=>[AV.n .i64 op,AV.n .i64 to,AV.n .i64 a,AV.n .i64 b,AV.n .u32 arg][j]?.getD .u) 0]]) ?_ (hif _ (λj hj=>by rcases cD hj with rfl|rfl|rfl|rfl|rfl<;>rfl)) (by simp only[go_sem,simprocAttr]) (λr hr=>by rw[List.mem_singleton.1 hr];rfl) ?_
    ·refine .cons (.rfl rfl) (.cons (.fn .nil (.cons ?_ .nil)) .nil)
     refine Cv.box (l:=[AV.n .i64 op,AV.n .i64 to,AV.n .i64 a,AV.n .i64 b,AV.n .u32 arg]) (b:=0) rfl (x:=_) (by simp only[go_sem,simprocAttr];rfl) (by rfl) (by simp) (λj hj=>?_) rfl
     rcases cD (by simpa using hj) with rfl|rfl|rfl|rfl|rfl<;>simp only[go_sem,simprocAttr]
    repeat first|with_reducible refine gg ?_|simp only[h0,decide_false,d1,d2,go_sem,simprocAttr]
    refine GA.cut' (aL [(4,.p 0 0),(5,.b true),(6,.fs 5 1 (cC [(op,to,a,b,arg)]))]) (aq [aK 0 38 [.n .i64 op,.n .i64 to,.n .i64 a,.n .i64 b,.n .u32 arg]]) ?_ ?_
    ·refine GA.frkm aH 1 (by simp only[ee,go_sem,simprocAttr]) ?_
     simp only[go_sem,simprocAttr]
     repeat' refine aa ?_ ?_
     all_goals first
      |decide
      |(refine Wk.mk [1] [2] ?_ ?_ ?_
        ·simp only[aZ,go_sem,simprocAttr]
         repeat' refine aa ?_ ?_
         ·exact Wv.p rfl
         ·exact Wv.same rfl
         ·refine Wv.cv (Cv.sl (x:=_) (by simp) (by simp only[go_sem,simprocAttr];rfl) (by simp only[go_sem,simprocAttr];first|done|decide) (by decide) (by simp only[go_sem,simprocAttr];first|done|decide) (λi j hi hj=>?_) (λi j _ hj=>bt i hj))
          obtain rfl:i=0:=by omega
          rcases cD hj with rfl|rfl|rfl|rfl|rfl<;>simp only[go_sem,simprocAttr]<;>rfl
        ·refine .cons rfl (.lsti (x:=_) (by simp only[go_sem,simprocAttr];rfl) (by rfl) (by rfl) (by rfl) (by rfl) (by rfl) (by rfl) (by simp) (λi hi=>?_) rfl) .nil
         rcases cD hi with rfl|rfl|rfl|rfl|rfl<;>simp only[go_sem,simprocAttr]
        ·simp)
    ·repeat first|with_reducible refine gg ?_|simp only[go_sem,simprocAttr]
     exact bn (.v rfl rfl (.v rfl rfl (.v rfl rfl .nil)))
theorem oK(x:In)(fs:List In)(hx:opOk x):((ef x fs).2.2.length<=1/\∀f ∈ (ef x fs).2.2,True)/\opOk (ef x fs).1:=by
 refine⟨⟨?_,λ_ _=>trivial⟩,?_⟩
 ·unfold ef
  split
  ·split
   ·split<;>simp
   ·split<;>simp
  ·simp
 ·unfold ef
  split
  ·split
   ·split
    ·exact hx
    ·exact⟨by simp,by simp⟩
   ·split<;>exact hx
  ·exact hx
theorem pk{na:Nat}{ra:Nat->Nat->AV}{regs par:Int}{cs:List In}{pt:List Int}{fin:nq In}(hcs:cs.length<400000)(hok:∀x ∈ cs,opOk x)(hpt:dP cs=some pt)(hptl:pt.length=cs.length)
  (hgo:bI mZ dR ef cs pt cs 0 ⟨[],[],[]⟩=some fin):
  bj Try.prog 27 [af na ra regs par cs] [.o 38 5 fin.out.length 0 (cC fin.out)]:=by
 have hw:=pe (n0:=0) (pf:=λ_=>True) mZ ef 48 49 cs [] pt fin (λx hx f=>nG x f hx) (λx hx fs hl _=>nF x fs hl) (λx hx fs _=>(oK x fs (hok x hx)).1) (λx hx fs _=>(oK x fs (hok x hx)).2) hcs hok (by simp) (by decide) (by simp) hpt hptl hgo
 refine ae aH C9 ⟨by simp,by decide⟩ ?_
 simp only[aV,af]
 repeat first|with_reducible refine gg ?_|simp only[go_sem,simprocAttr]
 refine ah [] (fargs:=[.fs 5 cs.length (cC cs),.fs 5 ([]:List In).length (cC []),.agg [.f 48 [] [],.f 49 [] []]]) (.cons (.rfl (by rfl)) (.cons (.sl0 _ _) (.cons (.rfl (by rfl)) .nil))) hw (by simp only[go_sem,simprocAttr]) ?_
 repeat first|with_reducible refine gg ?_|simp only[go_sem,simprocAttr]
 refine⟨[_],rfl,.o (x:=_) (by simp only[go_sem,simprocAttr];rfl) (by rfl) (by rfl) (by rfl) (by decide) (Nat.le_refl _) (Nat.le_refl _) (λi j _ hj=>aX i j hj) (λi j _ hj=>bt i hj) rfl .nil⟩
theorem fE(l:List (Int×Int))(i j:Nat)(hj:j<2):(kC l i j).cell=true:=by
 have h5:j=0\/j=1\/j=2\/j=3\/j=4:=by omega
 rcases h5 with rfl|rfl|rfl|rfl|rfl<;>first|rfl|omega
def tR(st:List (List (Int×Int)))(i _j:Nat):AV:= .fs 2 (st.reverse.getD i []).length (kC (st.reverse.getD i []))
theorem iv(st:List (List (Int×Int)))(t:List (Int×Int))(i j:Nat)(hi:i<st.length):tR (t::st) i j=tR st i j:=by
 unfold tR;rw[List.reverse_cons,aP (by simpa using hi)]
theorem jB(st:List (List (Int×Int)))(t:List (Int×Int))(j:Nat):tR (t::st) st.length j= .fs 2 t.length (kC t):=by
 unfold tR;rw[List.reverse_cons]
 have:=aQ (l:=st.reverse) (x:=t) (d:=[])
 rw[List.length_reverse] at this
 rw[this]
theorem ph{n0:Nat}{pf:(Int×Int)->Prop}(D:In->(Int×Int)->Bool)(V:In->List (Int×Int)->In×Bool×List (Int×Int))(g v:FuncId)(cs:List In)(fs0:List (Int×Int))(pt:List Int)(fin:nq (Int×Int))
  (hD:∀x,opOk x->∀f,bj Try.prog g ([]++[aI x,kV f]++[]) [.v (.b (D x f))])
  (hV:∀x ∈ cs,∀fs:List (Int×Int),fs.length<1000000->(∀f ∈ fs,pf f)->bj Try.prog v [aI x,.fs 2 fs.length (kC fs)] [.v (aI (V x fs).1),.v (.b (V x fs).2.1),.v (.fs 2 (V x fs).2.2.length (kC (V x fs).2.2))])
  (hV1:∀x ∈ cs,∀fs:List (Int×Int),(∀f ∈ fs,pf f)->(V x fs).2.2.length<=1/\∀f ∈ (V x fs).2.2,pf f)
  (hV2:∀x ∈ cs,∀fs:List (Int×Int),(∀f ∈ fs,pf f)->opOk (V x fs).1)
  (hcs:cs.length<400000) (hok:∀x ∈ cs,opOk x) (hn0:fs0.length<=n0) (hn1:n0<400000) (hpf:∀f ∈ fs0,pf f)
  (hpt:dP cs=some pt) (hptl:pt.length=cs.length) (hgo:bI D (λf g=>decide (f.1=g.1)&&decide (f.2=g.2)) V cs pt cs 0 ⟨[],fs0,[]⟩=some fin):
  bj Try.prog 34 [.fs 5 cs.length (cC cs),.fs 2 fs0.length (kC fs0),.agg [.f g [] [],.f v [] []]] [.o 38 5 fin.out.length 0 (cC fin.out)]:=by
 have hpa:=gy cs (by omega) pt hpt
 refine ae aH GP ⟨by simp,by decide⟩ ?_
 simp only[aV]
 have hfg:(AV.f g [] []).pu 3=true:=rfl
 have hfv:(AV.f v [] []).pu 3=true:=rfl
 repeat first|with_reducible refine gg ?_|simp only[go_sem,simprocAttr]
 refine g1 hpa ?_
 simp only[go_sem,simprocAttr]
 refine GA.wk (Wk.mk (L:=[(0,.fs 5 cs.length (cC cs)),(1,.fs 2 fs0.length (kC fs0)),(5,.p 0 0),(7,.fs 1 pt.length (iC .i64 pt))]) (bl:=[aK 0 75 [.f g [] [],.f v [] []]]) [0] [1] ?_ ?_ ?_) ?_
 ·simp only[aZ,a7,go_sem,simprocAttr]
  repeat' refine aa ?_ ?_
  all_goals first|trivial|exact Wv.same rfl|exact Wv.p rfl|skip
  refine Wv.cv (Cv.own (ty:=3) (z:=0) (by simp) (by simp only[go_sem,simprocAttr]) (λi j _ _=>rfl))
 ·refine .cons rfl (.ls) .nil
 ·simp
 with_reducible refine GA.seq ?_
 with_reducible refine GA.reg ?_
 simp only[go_sem,simprocAttr]
 with_reducible refine GA.seq ?_
 with_reducible refine GA.reg ?_
 simp only[go_sem,simprocAttr]
 refine GA.wk (Wk.nil 8 5 38 (by simp only[go_sem,simprocAttr]) (by decide) (by simp only[go_sem,simprocAttr])) ?_
 refine GA.wk (Wk.nil 9 1 66 (by simp only[go_sem,simprocAttr]) (by decide) (by simp only[go_sem,simprocAttr])) ?_
 simp only[cA]
 repeat first|with_reducible refine gg ?_|simp only[go_sem,simprocAttr]
 refine GA.loop (I:=λmm e H=>∃(k:Nat) (s:nq (Int×Int)),mm=cs.length-k/\k<=cs.length/\qu pf n0 k s/\bI D (λf g=>decide (f.1=g.1)&&decide (f.2=g.2)) V cs pt (cs.drop k) k s=some fin/\
   e=aL [(0,.fs 5 cs.length (cC cs)),(1,.fs 2 s.fs.length (kC s.fs)),(5,.p 0 0),(7,.fs 1 pt.length (iC .i64 pt)),(18,.fs 5 cs.length (cC cs)),(19,.n .i64 cs.length),(20,.n .i64 k),(8,.os 1 s.out.length),(9,.os 2 s.op.length)]/\
   H=aq [ax 66 1 s.op.length 0 (tR s.op),ax 38 5 s.out.length 0 (cC s.out),aK 0 75 [.f g [] [],.f v [] []]]) (Wk.mk [2,1,0] [] ?_ ?_ ?_) ⟨0,⟨[],fs0,[]⟩,rfl,by omega,⟨by simp,by simp,by simp only;omega,hpf,by simp,by simp⟩,hgo,rfl,rfl⟩ ?_
 ·simp only[aZ,a7,go_sem,simprocAttr]
  repeat' refine aa ?_ ?_
  all_goals first|exact bX|skip
 ·refine .cons rfl (.r0) (.cons rfl (.r0) (.cons rfl (.ls) .nil))
 ·simp
 rintro mm e H ⟨k,⟨out,fs,op⟩,rfl,hk,hinv,hs,rfl,rfl⟩
 have⟨hi1,hi2,hi3,hi4,hi5,hi6⟩:=hinv
 simp only at hi1 hi2 hi3 hi4 hi5 hi6
 repeat first|with_reducible refine gg ?_|simp only[go_sem,simprocAttr]
 refine⟨λh=>?_,λh=>?_⟩
 ·have hkn:k<cs.length:=by omega
  have h0:(0:Int)<=(k:Int):=by omega
  have hk1:k+1<=cs.length:=hkn
  have hm:cs.getD k ej ∈ cs:=by rw[List.getD_eq_getElem?_getD,List.getElem?_eq_getElem hkn];exact List.getElem_mem _
  rw[bq (d:=ej) hkn,bI] at hs
  obtain⟨s2,hst,hs⟩:=Option.bind_eq_some_iff.1 hs
  have hcc0:cC cs k 0= .n .i64 (cs.getD k ej).1:=ki cs k
  have hcc1:cC cs k 1= .n .i64 (cs.getD k ej).2.1:=ny cs k
  have hcc2:cC cs k 2= .n .i64 (cs.getD k ej).2.2.1:=ou cs k
  have hcc3:cC cs k 3= .n .i64 (cs.getD k ej).2.2.2.1:=ot cs k
  have hcc4:cC cs k 4= .n .u32 (cs.getD k ej).2.2.2.2:=oo cs k
  generalize cs.getD k ej=x at hst hcc0 hcc1 hcc2 hcc3 hcc4 hm
  have hcv:=hV x hm fs (by omega) hi4
  have hv1:=hV1 x hm
  have hv2:=hV2 x hm fs hi4
  have key:=fh hinv hv1 hst
  have hv1:=hv1 fs hi4
  unfold cu at hst
  simp only at hst
  generalize V x fs=r at hst hcv hv1 hv2
  obtain⟨y,rem,more⟩:=r
  obtain⟨opc,to,a,b,arg⟩:=x
  obtain⟨yopc,yto,ya,yb,yarg⟩:=y
  simp only[aI] at hst hcv hv1 hv2 hcc0 hcc1 hcc2 hcc3 hcc4
  repeat first|with_reducible refine gg ?_|simp only[h0,h,hcc0,hcc1,hcc2,hcc3,hcc4,go_sem,simprocAttr]
  refine g2 hcv ?_
  repeat first|with_reducible refine gg ?_|simp only[go_sem,simprocAttr]
  have ht:rem=false\/rem=true:=by cases rem<;>simp
  refine⟨λhr=>?_,λhr=>?_⟩
  ·rw[hr,if_neg (by simp)] at hst
   cases hst
   repeat first|with_reducible refine gg ?_|simp only[go_sem,simprocAttr]
   refine⟨_,_,_,?_,Wk.mk [2,1,0] [] ?_ ?_ ?_,k+1,_,rfl,by omega,key,hs,rfl,rfl⟩
   ·omega
   ·simp only[aZ,a7,go_sem,simprocAttr]
    repeat' refine aa ?_ ?_
    all_goals first|exact bX|skip
   ·refine .cons rfl (.k1) (.cons rfl (.k5) (.cons rfl (.ls) .nil))
   ·simp
  rw[hr,if_pos rfl] at hst
  obtain⟨⟨fs',op'⟩,hsw,rfl⟩:=Option.map_eq_some_iff.1 hst
  simp only at key hs
  have hinv2:=fg hinv hsw
  obtain⟨hj1,hj2,hj3,hj4,hj5⟩:=hinv2
  simp only at hj1 hj2 hj3 hj4 hj5
  (try simp only[go_sem,simprocAttr])
  iterate 4 (with_reducible refine GA.go aH rfl ?_;try simp only[go_sem,simprocAttr])
  have hy5:∀j,j<5->[AV.n .i64 yopc,AV.n .i64 yto,AV.n .i64 ya,AV.n .i64 yb,AV.n .u32 yarg][j]?.getD .u=cC [(yopc,yto,ya,yb,yarg)] 0 j:=λj hj=>by rcases cD hj with rfl|rfl|rfl|rfl|rfl<;>rfl
  refine GA.wk (Wk.mk (L:=[(0,.fs 5 cs.length (cC cs)),(1,.fs 2 fs.length (kC fs)),(5,.p 0 0),(7,.fs 1 pt.length (iC .i64 pt)),(18,.fs 5 cs.length (cC cs)),(19,.n .i64 cs.length),(20,.n .i64 k),(8,.os 1 out.length),(9,.os 2 op.length),(10,.n .i64 k),(11,.p 3 0),(12,.p 4 0),(14,.fs 2 more.length (kC more)),(15,.n .i64 ((op.length:Int)-1))])
   (bl:=[aK 0 38 [.n .i64 yopc,.n .i64 yto,.n .i64 ya,.n .i64 yb,.n .u32 yarg],aK 0 38 [.n .i64 opc,.n .i64 to,.n .i64 a,.n .i64 b,.n .u32 arg],ax 66 1 op.length 0 (tR op),ax 38 5 out.length 0 (cC out),aK 0 75 [.f g [] [],.f v [] []]]) [4,3,2,1,0] [] ?_ ?_ ?_) ?_
  ·simp only[aZ,a7,go_sem,simprocAttr]
   repeat' refine aa ?_ ?_
   all_goals first|exact bX|skip
  ·refine .cons rfl (.lsti (x:=_) (by simp only[go_sem,simprocAttr]<;>rfl) (by rfl) (by rfl) (by rfl) (by rfl) (by rfl) (by rfl) (by simp) (λi hi=>?_) (by rfl)) (.cons rfl (.lsti (x:=_) (by simp only[go_sem,simprocAttr]<;>rfl) (by rfl) (by rfl) (by rfl) (by rfl) (by rfl) (by rfl) (by simp) (λi hi=>?_) (by rfl)) (.cons rfl (.k1) (.cons rfl (.k5) (.cons rfl (.ls) .nil))))
   ·rcases cD hi with rfl|rfl|rfl|rfl|rfl<;>simp only[go_sem,simprocAttr]
   ·rcases cD hi with rfl|rfl|rfl|rfl|rfl<;>simp only[go_sem,simprocAttr]
  ·simp
  refine GA.cutQ (aL [(0,.fs 5 cs.length (cC cs)),(1,.fs 2 fs'.length (kC fs')),(5,.p 0 0),(7,.fs 1 pt.length (iC .i64 pt)),(18,.fs 5 cs.length (cC cs)),(19,.n .i64 cs.length),(20,.n .i64 k),(8,.os 1 out.length),(9,.os 2 op'.length),(12,.p 3 0),(14,.fs 2 more.length (kC more))])
   (aq [aK 0 38 [.n .i64 yopc,.n .i64 yto,.n .i64 ya,.n .i64 yb,.n .u32 yarg],ax 66 1 op'.length 0 (tR op'),ax 38 5 out.length 0 (cC out),aK 0 75 [.f g [] [],.f v [] []]]) ?_ ?_
  rotate_left
  ·intro e' H' hw
   refine GA.wk hw ?_
   have hwo:=fU fs' [(yopc,yto,ya,yb,yarg)] g [] [] (.f v [] []) D (λz hz f=>by
    rw[List.mem_singleton.1 hz];exact hD _ hv2 f) rfl rfl (by omega) (by simp)
   have hwl:=dc D fs' [(yopc,yto,ya,yb,yarg)]
   change bj _ _ _ [.o 68 2 (fT D fs' [(yopc,yto,ya,yb,yarg)]).length 0 (kC (fT D fs' [(yopc,yto,ya,yb,yarg)]))] at hwo
   generalize fT D fs' [(yopc,yto,ya,yb,yarg)]=wfs at hwo hwl key hs
   have hlim:(wfs.length+more.length)*2<1099511627776/\(wfs.length+more.length)*16<=140737488355328/\wfs.length+more.length<=9223372036854775807:=by omega
   have hlio:(out.length+1)*5<1099511627776/\(out.length+1)*40<=140737488355328/\out.length+1<=9223372036854775807:=by omega
   repeat first|with_reducible refine gg ?_|simp only[hlim.1,hlim.2.1,hlim.2.2,hlio.1,hlio.2.1,hlio.2.2,decide_true,go_sem,simprocAttr]
   refine ah [4] (fargs:=[.fs 2 fs'.length (kC fs'),.agg [.f g [] [],.f v [] []],.fs 5 [(yopc,yto,ya,yb,yarg)].length (cC [(yopc,yto,ya,yb,yarg)])]) ?_ hwo (by simp only[go_sem,simprocAttr]) ?_
   ·refine .cons (.rfl (by rfl)) (.cons (.rfl (by rfl)) (.cons ?_ .nil))
    refine Cv.sl (x:=_) (by simp) (by simp only[go_sem,simprocAttr]<;>rfl) (by simp) (by simp) (by simp) (λi j hi hj=>?_) (λi j hi hj=>by rcases cD hj with rfl|rfl|rfl|rfl|rfl<;>rfl)
    obtain rfl:i=0:=by simpa using hi
    rw[<-hy5 j hj]
    rcases cD hj with rfl|rfl|rfl|rfl|rfl<;>simp only[go_sem,simprocAttr]
   repeat first|with_reducible refine gg ?_|simp only[hlim.1,hlim.2.1,hlim.2.2,hlio.1,hlio.2.1,hlio.2.2,decide_true,go_sem,simprocAttr]
   refine⟨_,_,_,?_,Wk.mk [2,8,0] [6] ?_ ?_ ?_,k+1,_,rfl,by omega,key,hs,rfl,rfl⟩
   ·omega
   ·simp only[aZ,a7,go_sem,simprocAttr]
    repeat' refine aa ?_ ?_
    all_goals first|exact bX|skip
    refine Wv.cv (Cv.os (x:=_) (by simp) (by simp only[go_sem,simprocAttr]<;>rfl) (by simp only[go_sem,simprocAttr]<;>omega) (λi j hi hj=>?_) (λi j hi hj=>fE _ _ _ hj))
    rw[fJ hj hi (by omega),aX i j hj]
    unfold kC
    by_cases hw:wfs.length<=i
    ·rw[if_pos hw]
     simp only[List.getD_eq_getElem?_getD,List.getElem?_append_right hw]
    ·rw[if_neg hw]
     simp only[List.getD_eq_getElem?_getD,List.getElem?_append_left (Nat.lt_of_not_le hw)]
   ·rw[show(out++[(yopc,yto,ya,yb,yarg)]).length=out.length+1 from by simp]
    refine .cons rfl (.k1) (.cons rfl (.snoc (by simp only[go_sem,simprocAttr]<;>rfl) (by simp) (by rfl) rfl (by decide) (by omega) (λi j hi _=>by unfold cC;rw[aP hi]) (λj hj=>by
     unfold cC
     rw[aQ]
     exact(hy5 j hj).symm) (λi j _ hj=>by rcases cD hj with rfl|rfl|rfl|rfl|rfl<;>rfl)) (.cons rfl (.ls) .nil))
   ·simp
  unfold eF at hsw
  repeat first|with_reducible refine gg ?_|simp only[go_sem,simprocAttr]
  refine⟨λh1=>?_,λh1=>?_⟩
  ·rw[if_pos h1] at hsw
   injection hsw with hsw
   injection hsw with e1 e2
   subst e1 e2
   have hlo:op.length+1<1099511627776/\(op.length+1)*24<=140737488355328/\op.length+1<=9223372036854775807:=by omega
   repeat first|with_reducible refine gg ?_|simp only[hlo.1,hlo.2.1,hlo.2.2,decide_true,go_sem,simprocAttr]
   refine Wk.mk [4,6,1,0] [] ?_ ?_ ?_
   ·simp only[aZ,a7,go_sem,simprocAttr]
    repeat' refine aa ?_ ?_
    all_goals first|exact bX|skip
   ·refine .cons rfl (.ls) (.cons rfl (.snoc (by simp only[go_sem,simprocAttr]<;>rfl) (by simp) (by rfl) rfl (by decide) (by omega) (λi j hi _=>iv _ _ _ _ hi) (λj hj=>by
     cases Nat.lt_one_iff.1 hj
     exact jB _ _ _) (λi j _ _=>rfl)) (.cons rfl (.k5) (.cons rfl (.ls) .nil)))
   ·simp
  rw[if_neg h1] at hsw
  repeat first|with_reducible refine gg ?_|simp only[go_sem,simprocAttr]
  refine⟨λh2=>?_,λh2=>?_⟩
  ·rw[if_pos h2] at hsw
   cases op with
   |nil=>cases hsw
   |cons t r=>
   simp only at hsw
   injection hsw with hsw
   injection hsw with e1 e2
   subst e1 e2
   have hrl:r.length<=k:=by simp only[List.length_cons] at hi2;omega
   have hsub:((r.length+1:Nat):Int)-1=(r.length:Int):=by omega
   have hz0:(0:Int)<=(r.length:Int):=by omega
   have hz1:(r.length:Int)<((r.length+1:Nat):Int):=by omega
   have hz2:r.length<r.length+1:=by omega
   have hg:(ax 66 1 (r.length+1) 0 (tR (t::r))).get r.length= .fs 2 t.length (kC t):=by
    rw[bM];exact jB _ _ _
   repeat first|with_reducible refine gg ?_|simp only[hsub,hz0,hz1,hz2,hg,Nat.le_refl,go_sem,simprocAttr]
   refine Wk.mk [4,2,1,0] [] ?_ ?_ ?_
   ·simp only[aZ,a7,go_sem,simprocAttr]
    repeat' refine aa ?_ ?_
    all_goals first|exact bX|skip
   ·refine .cons rfl (.ls) (.cons rfl (.put (n:=r.length+1) (q:=r.length) (by simp only[go_sem,simprocAttr]<;>rfl) (by simp) rfl hz2 rfl (by decide) (by omega) (λi j h hj=>?_) (λi j h hj=>rfl)) (.cons rfl (.k5) (.cons rfl (.ls) .nil)))
    cases Nat.lt_one_iff.1 hj
    by_cases e:i=r.length
    ·rw[if_pos e,e];exact(jB _ _ _).symm
    ·rw[if_neg e,iv _ _ _ _ (by omega),iv _ _ _ _ (by omega)]
   ·simp
  rw[if_neg h2] at hsw
  have hkp:k<pt.length:=by omega
  have hkpi:(k:Int)<(pt.length:Int):=by omega
  repeat first|with_reducible refine gg ?_|simp only[go_sem,simprocAttr]
  refine⟨λh3=>?_,λh3=>?_⟩
  ·rw[if_pos h3] at hsw
   split at hsw
   rotate_left
   ·cases hsw
   rename_i hrg
   obtain⟨q,hq⟩:∃q:Nat,pt.getD k 0=(q:Int):=⟨(pt.getD k 0).toNat,by omega⟩
   rw[hq] at hrg hsw
   rw[Int.toNat_natCast] at hsw
   have hql:q-k=((cs.take q).drop k).length:=by rw[List.length_drop,List.length_take];omega
   have hwo:=fU fs ((cs.take q).drop k) g [] [] (.f v [] []) D (λz hz f=>hD z (hok z (List.mem_of_mem_take (List.mem_of_mem_drop hz))) f) rfl rfl (by omega) (by rw[<-hql];omega)
   have hwl:=dc D fs ((cs.take q).drop k)
   change bj _ _ _ [.o 68 2 (fT D fs ((cs.take q).drop k)).length 0 (kC (fT D fs ((cs.take q).drop k)))] at hwo
   generalize fT D fs ((cs.take q).drop k)=wfs at hwo hwl hsw
   injection hsw with hsw
   injection hsw with e1 e2
   subst e1 e2
   have hpk:iC .i64 pt k 0= .n .i64 (q:Int):=by unfold iC;rw[hq]
   have hq0:(0:Int)<=(q:Int):=by omega
   have hq1:(k:Int)<=(q:Int):=hrg.1
   have hq2:(q:Int)<=(cs.length:Int):=hrg.2
   repeat first|with_reducible refine gg ?_|simp only[h0,hkpi,hpk,hq0,hq1,hq2,go_sem,simprocAttr]
   rw[hql]
   refine ah [] (fargs:=[.fs 2 fs.length (kC fs),.agg [.f g [] [],.f v [] []],.fs 5 ((cs.take q).drop k).length (cC ((cs.take q).drop k))]) ?_ hwo (by simp only[go_sem,simprocAttr]) ?_
   ·refine .cons (.rfl (by rfl)) (.cons (.rfl (by rfl)) (.cons (.fs (λi j hi hj=>?_)) .nil))
    unfold cC
    rw[List.getD_eq_getElem?_getD,List.getD_eq_getElem?_getD,List.getElem?_drop,List.getElem?_take_of_lt (by omega)]
   repeat first|with_reducible refine gg ?_|simp only[go_sem,simprocAttr]
   refine Wk.mk [4,2,1,0] [5] ?_ ?_ ?_
   ·simp only[aZ,a7,go_sem,simprocAttr]
    repeat' refine aa ?_ ?_
    all_goals first|exact bX|skip
    exact Wv.cv (Cv.own (ty:=68) (z:=0) (by simp) (by simp only[go_sem,simprocAttr]) (λi j _ hj=>fE _ _ _ hj))
   ·refine .cons rfl (.ls) (.cons rfl (.k1) (.cons rfl (.k5) (.cons rfl (.ls) .nil)))
   ·simp
  rw[if_neg h3] at hsw
  by_cases h4:opc=31
  ·rw[if_pos h4] at hsw
   subst h4
   split at hsw
   rotate_left
   ·cases hsw
   rename_i hrg
   obtain⟨q,hq⟩:∃q:Nat,pt.getD k 0=(q:Int):=⟨(pt.getD k 0).toNat,by omega⟩
   rw[hq] at hrg hsw
   rw[Int.toNat_natCast] at hsw
   have hpk:iC .i64 pt k 0= .n .i64 (q:Int):=by unfold iC;rw[hq]
   have hq0:(0:Int)<=(q:Int):=by omega
   have hq1:(q:Int)<=(k:Int):=hrg.2
   have hq2:(q:Int)<(cs.length:Int):=by omega
   have hq3:(k:Int)<=(cs.length:Int):=by omega
   have hcq:cC cs q 0= .n .i64 (cs.getD q ej).1:=ki cs q
   repeat first|with_reducible refine gg ?_|simp only[h0,hkpi,hpk,hq0,hq1,hq2,hcq,decide_true,go_sem,simprocAttr]
   refine⟨λh5=>?_,λh5=>?_⟩
   ·rw[if_pos h5] at hsw
    have hql:k-q=((cs.take k).drop q).length:=by rw[List.length_drop,List.length_take];omega
    have hwo:=fU fs ((cs.take k).drop q) g [] [] (.f v [] []) D (λz hz f=>hD z (hok z (List.mem_of_mem_take (List.mem_of_mem_drop hz))) f) rfl rfl (by omega) (by rw[<-hql];omega)
    have hwl:=dc D fs ((cs.take k).drop q)
    change bj _ _ _ [.o 68 2 (fT D fs ((cs.take k).drop q)).length 0 (kC (fT D fs ((cs.take k).drop q)))] at hwo
    generalize fT D fs ((cs.take k).drop q)=wfs at hwo hwl hsw
    injection hsw with hsw
    injection hsw with e1 e2
    subst e1 e2
    repeat first|with_reducible refine gg ?_|simp only[h0,hkpi,hpk,hq0,hq1,hq2,hq3,go_sem,simprocAttr]
    rw[hql]
    refine ah [] (fargs:=[.fs 2 fs.length (kC fs),.agg [.f g [] [],.f v [] []],.fs 5 ((cs.take k).drop q).length (cC ((cs.take k).drop q))]) ?_ hwo (by simp only[go_sem,simprocAttr]) ?_
    ·refine .cons (.rfl (by rfl)) (.cons (.rfl (by rfl)) (.cons (.fs (λi j hi hj=>?_)) .nil))
     unfold cC
     rw[List.getD_eq_getElem?_getD,List.getD_eq_getElem?_getD,List.getElem?_drop,List.getElem?_take_of_lt (by omega)]
    repeat first|with_reducible refine gg ?_|simp only[go_sem,simprocAttr]
    refine Wk.mk [4,2,1,0] [5] ?_ ?_ ?_
    ·simp only[aZ,a7,go_sem,simprocAttr]
     repeat' refine aa ?_ ?_
     all_goals first|exact bX|skip
     exact Wv.cv (Cv.own (ty:=68) (z:=0) (by simp) (by simp only[go_sem,simprocAttr]) (λi j _ hj=>fE _ _ _ hj))
    ·refine .cons rfl (.ls) (.cons rfl (.k1) (.cons rfl (.k5) (.cons rfl (.ls) .nil)))
    ·simp
   ·rw[if_neg h5] at hsw
    cases op with
    |nil=>cases hsw
    |cons t r=>
    simp only at hsw
    have hrl:r.length<=k:=by simp only[List.length_cons] at hi2;omega
    have htl:=hi5 t (List.mem_cons_self ..)
    have hbo:=sI fs t (by omega) (by omega)
    have hbl:=jF (λf g=>decide (f.1=g.1)&&decide (f.2=g.2)) fs t
    change bj _ _ _ [.o 68 2 (qj (λf g=>decide (f.1=g.1)&&decide (f.2=g.2)) fs t).length 0 (kC (qj (λf g=>decide (f.1=g.1)&&decide (f.2=g.2)) fs t))] at hbo
    generalize qj (λf g=>decide (f.1=g.1)&&decide (f.2=g.2)) fs t=bfs at hbo hbl hsw
    injection hsw with hsw
    injection hsw with e1 e2
    subst e1 e2
    have hsub:((r.length+1:Nat):Int)-1=(r.length:Int):=by omega
    have hz0:(0:Int)<=(r.length:Int):=by omega
    have hz1:(r.length:Int)<((r.length+1:Nat):Int):=by omega
    have hz3:(r.length:Int)<=((r.length+1:Nat):Int):=by omega
    have hz2:r.length<r.length+1:=by omega
    have hg:(ax 66 1 (r.length+1) 0 (tR (t::r))).get r.length= .fs 2 t.length (kC t):=by
     rw[bM];exact jB _ _ _
    repeat first|with_reducible refine gg ?_|simp only[hsub,hz0,hz1,hz2,hz3,hg,Int.le_refl,go_sem,simprocAttr]
    refine g2 hbo ?_
    repeat first|with_reducible refine gg ?_|simp only[go_sem,simprocAttr]
    refine Wk.mk [4,2,1,0] [5] ?_ ?_ ?_
    ·simp only[aZ,a7,go_sem,simprocAttr]
     repeat' refine aa ?_ ?_
     all_goals first|exact bX|skip
     exact Wv.cv (Cv.own (ty:=68) (z:=0) (by simp) (by simp only[go_sem,simprocAttr]) (λi j _ hj=>fE _ _ _ hj))
    ·refine .cons rfl (.ls) (.cons rfl (.pop (n:=r.length+1) (by simp only[go_sem,simprocAttr]<;>rfl) rfl (by decide) (by omega) (λi j hi _=>iv _ _ _ _ hi) (λi j _ hj=>rfl)) (.cons rfl (.k5) (.cons rfl (.ls) .nil)))
    ·simp
  rw[if_neg h4] at hsw
  injection hsw with hsw
  injection hsw with e1 e2
  subst e1 e2
  repeat first|with_reducible refine gg ?_|simp only[h4,decide_false,go_sem,simprocAttr]
  refine Wk.mk [4,2,1,0] [] ?_ ?_ ?_
  ·simp only[aZ,a7,go_sem,simprocAttr]
   repeat' refine aa ?_ ?_
   all_goals first|exact bX|skip
  ·refine .cons rfl (.ls) (.cons rfl (.k1) (.cons rfl (.k5) (.cons rfl (.ls) .nil)))
  ·simp
 ·have hkn:k=cs.length:=by omega
  subst hkn
  rw[List.drop_length,bI] at hs
  cases hs
  repeat first|with_reducible refine gg ?_|simp only[go_sem,simprocAttr]
  refine⟨[_],rfl,.o (x:=_) (by simp only[go_sem,simprocAttr];rfl) (by rfl) (by rfl) (by rfl) (by decide) (Nat.le_refl _) (Nat.le_refl _) (λi j _ hj=>aX i j hj) (λi j _ hj=>bt i hj) rfl .nil⟩
/-! compactorlaw24.awake-/
abbrev A4:List AO:=
 [o1 0 (.mv (.c (.b false)))]
abbrev A3:List AO:=
 [(o2 15 10 [(ci 0),(ci 0),(.c (.n .i64 (-1))),(.c (.n .i64 (-1))),(.c (.n .u32 2))]),
  (o2 16 10 [(ci 0),(ci 1),(.c (.n .i64 (-1))),(.c (.n .i64 (-1))),(.c (.n .u32 3))]),
  (o2 17 10 [(ci 8),(ci 0),(ci 0),(ci 1),(.c (.n .u32 0))]),
  (o2 18 10 [(ci 34),(.c (.n .i64 (-1))),(ci 0),(.c (.n .i64 (-1))),(.c (.n .u32 0))]),o1 19 (.bs 38 5 4 [.n .i64 0,.n .i64 0,.n .i64 0,.n .i64 0,.n .u32 0,.n .i64 0,.n .i64 0,.n .i64 0,.n .i64 0,.n .u32 0,.n .i64 0,.n .i64 0,.n .i64 0,.n .i64 0,.n .u32 0,.n .i64 0,.n .i64 0,.n .i64 0,.n .i64 0,.n .u32 0] [(0,5,(.t 15)),(5,5,(.t 16)),(10,5,(.t 17)),(15,5,(.t 18))]),
  (o2 20 9 [.t 19]),o1 1 (.al 25 [.sl0,.n .i64 0,.n .i64 0,.sl0]),
  (o3 (.st 4 (.t 1) (.t 20)))]
abbrev A2:List AO:=
 [o1 22 (.ld 4 true (.t 1)),
  (o2 23 11 [.t 22]),
  (mt 21 23),o1 24 (.ext 0 (.t 21)),o1 25 (.ext 1 (.t 21)),o1 2 (.al 25 [.sl0,.n .i64 0,.n .i64 0,.sl0]),
  (o3 (.st 4 (.t 2) (.t 24))),
  (mt 3 25)]
abbrev A1:List AO:=
 [o1 27 (.ld 4 true (.t 2)),
  (o2 28 12 [.t 27]),
  (mt 26 28),o1 29 (.ext 0 (.t 26)),o1 30 (.ext 1 (.t 26)),o1 4 (.al 25 [.sl0,.n .i64 0,.n .i64 0,.sl0]),
  (o3 (.st 4 (.t 4) (.t 29))),
  (mt 5 30)]
abbrev A0:List AO:=
 [(o2 31 10 [(ci 0),(ci 0),(.c (.n .i64 (-1))),(.c (.n .i64 (-1))),(.c (.n .u32 5))]),o1 6 (.al 38 [.n .i64 0,.n .i64 0,.n .i64 0,.n .i64 0,.n .u32 0]),
  (o3 (.st 5 (.t 6) (.t 31)))]
abbrev A6:List (Nat×AO):=
 [(2,(mt 32 3)),
  (2,(mt 33 5)),(2,(o1 34 (.bin .add (.t 32) (.t 33)))),(2,(o1 35 (.bin .neq (.t 34) (ci 0)))),
  (2,(mt 36 35)),
  (2,(o4 38 36 (.fa 3 (.t 1)))),
  (2,(o4 42 36 (.fa 3 (.t 1)))),
  (2,(o4 47 36 (.fa 3 (.t 1)))),
  (1,(o4 37 36 (.ld 4 true (.t 2)))),
  (1,(o4 39 36 (.ld 1 false (.t 38)))),
  (2,(o4 40 36 (.ia 5 (.t 39) (ci 0)))),
  (1,(o4 41 36 (.ld 5 true (.t 40)))),
  (1,(o4 43 36 (.ld 1 false (.t 42)))),
  (2,(o4 44 36 (.ia 5 (.t 43) (ci 1)))),
  (1,(o4 45 36 (.ld 5 true (.t 44)))),
  (1,(o4 46 36 (.ld 5 true (.t 6)))),
  (1,(o4 48 36 (.ld 1 false (.t 47)))),
  (2,(o4 49 36 (.ia 5 (.t 48) (ci 3)))),
  (1,(o4 50 36 (.ld 5 true (.t 49)))),
  (0,(o4 51 36 (.bs 38 5 4 [.n .i64 0,.n .i64 0,.n .i64 0,.n .i64 0,.n .u32 0,.n .i64 0,.n .i64 0,.n .i64 0,.n .i64 0,.n .u32 0,.n .i64 0,.n .i64 0,.n .i64 0,.n .i64 0,.n .u32 0,.n .i64 0,.n .i64 0,.n .i64 0,.n .i64 0,.n .u32 0] [(0,5,(.t 41)),(5,5,(.t 45)),(10,5,(.t 46)),(15,5,(.t 50))]))),(0,⟨some 52,some (36,false),.cl (.c (.f 9 [] [])) [.t 51]⟩),(0,⟨some 53,some (36,false),.cl (.c (.f 13 [] [])) [.t 37,.t 52]⟩),
  (2,(o4 54 36 (.un .not (.t 53)))),(2,(o1 55 (.pick (.t 36) (.c (.b true)) (.t 54)))),
  (2,(mt 56 55)),
  (2,(o4 59 56 (.fa 3 (.t 1)))),
  (1,(o4 57 56 (.ld 4 true (.t 4)))),
  (1,(o4 58 56 (.ld 5 true (.t 6)))),
  (1,(o4 60 56 (.ld 1 false (.t 59)))),
  (2,(o4 61 56 (.ia 5 (.t 60) (ci 3)))),
  (1,(o4 62 56 (.ld 5 true (.t 61)))),
  (0,(o4 63 56 (.bs 38 5 2 [.n .i64 0,.n .i64 0,.n .i64 0,.n .i64 0,.n .u32 0,.n .i64 0,.n .i64 0,.n .i64 0,.n .i64 0,.n .u32 0] [(0,5,(.t 58)),(5,5,(.t 62))]))),(0,⟨some 64,some (56,false),.cl (.c (.f 9 [] [])) [.t 63]⟩),(0,⟨some 65,some (56,false),.cl (.c (.f 13 [] [])) [.t 57,.t 64]⟩),
  (2,(o4 66 56 (.un .not (.t 65)))),(2,(o1 67 (.pick (.t 56) (.c (.b true)) (.t 66))))]
abbrev AZ:List AO:=
 [o1 0 (.mv (.c (.b false)))]
abbrev AY:List AO:=
 [(o2 68 10 [(ci 32),(ci 1),(.c (.n .i64 (-1))),(.c (.n .i64 (-1))),(.c (.n .u32 0))]),
  (o2 69 10 [(ci 36),(ci 2),(ci 1),(.c (.n .i64 (-1))),(.c (.n .u32 0))]),
  (o2 70 10 [(ci 34),(.c (.n .i64 (-1))),(ci 2),(.c (.n .i64 (-1))),(.c (.n .u32 0))]),
  (o2 71 10 [(ci 34),(.c (.n .i64 (-1))),(ci 1),(.c (.n .i64 (-1))),(.c (.n .u32 0))]),o1 72 (.bs 38 5 4 [.n .i64 0,.n .i64 0,.n .i64 0,.n .i64 0,.n .u32 0,.n .i64 0,.n .i64 0,.n .i64 0,.n .i64 0,.n .u32 0,.n .i64 0,.n .i64 0,.n .i64 0,.n .i64 0,.n .u32 0,.n .i64 0,.n .i64 0,.n .i64 0,.n .i64 0,.n .u32 0] [(0,5,(.t 68)),(5,5,(.t 69)),(10,5,(.t 70)),(15,5,(.t 71))]),
  (o2 73 9 [.t 72]),o1 7 (.al 25 [.sl0,.n .i64 0,.n .i64 0,.sl0]),
  (o3 (.st 4 (.t 7) (.t 73)))]
abbrev AW:List AO:=
 [o1 75 (.ld 4 true (.t 7)),
  (o2 76 14 [.t 75]),
  (mt 74 76),o1 77 (.ext 0 (.t 74)),o1 78 (.ext 1 (.t 74)),o1 8 (.al 25 [.sl0,.n .i64 0,.n .i64 0,.sl0]),
  (o3 (.st 4 (.t 8) (.t 77))),
  (mt 3 78)]
abbrev AU:List AO:=
 [o1 80 (.ld 4 true (.t 8)),
  (o2 81 12 [.t 80]),
  (mt 79 81),o1 82 (.ext 0 (.t 79)),o1 83 (.ext 1 (.t 79)),o1 9 (.al 25 [.sl0,.n .i64 0,.n .i64 0,.sl0]),
  (o3 (.st 4 (.t 9) (.t 82))),
  (mt 5 83)]
abbrev vL:List AO:=
 [o1 84 (.fa 3 (.t 7)),o1 85 (.ld 1 false (.t 84)),o1 86 (.ia 5 (.t 85) (ci 3)),o1 87 (.ld 5 true (.t 86)),o1 10 (.al 38 [.n .i64 0,.n .i64 0,.n .i64 0,.n .i64 0,.n .u32 0]),
  (o3 (.st 5 (.t 10) (.t 87)))]
abbrev vO:List (Nat×AO):=
 [(2,(mt 88 3)),
  (2,(mt 89 5)),(2,(o1 90 (.bin .add (.t 88) (.t 89)))),(2,(o1 91 (.bin .neq (.t 90) (ci 0)))),
  (2,(mt 92 91)),
  (2,(o4 94 92 (.fa 3 (.t 7)))),
  (2,(o4 98 92 (.fa 3 (.t 7)))),
  (1,(o4 93 92 (.ld 4 true (.t 8)))),
  (1,(o4 95 92 (.ld 1 false (.t 94)))),
  (2,(o4 96 92 (.ia 5 (.t 95) (ci 0)))),
  (1,(o4 97 92 (.ld 5 true (.t 96)))),
  (1,(o4 99 92 (.ld 1 false (.t 98)))),
  (2,(o4 100 92 (.ia 5 (.t 99) (ci 1)))),
  (1,(o4 101 92 (.ld 5 true (.t 100)))),
  (1,(o4 102 92 (.ld 5 true (.t 10)))),
  (1,(o4 103 92 (.ld 5 true (.t 10)))),
  (0,(o4 104 92 (.bs 38 5 4 [.n .i64 0,.n .i64 0,.n .i64 0,.n .i64 0,.n .u32 0,.n .i64 0,.n .i64 0,.n .i64 0,.n .i64 0,.n .u32 0,.n .i64 0,.n .i64 0,.n .i64 0,.n .i64 0,.n .u32 0,.n .i64 0,.n .i64 0,.n .i64 0,.n .i64 0,.n .u32 0] [(0,5,(.t 97)),(5,5,(.t 101)),(10,5,(.t 102)),(15,5,(.t 103))]))),(0,⟨some 105,some (92,false),.cl (.c (.f 9 [] [])) [.t 104]⟩),(0,⟨some 106,some (92,false),.cl (.c (.f 13 [] [])) [.t 93,.t 105]⟩),
  (2,(o4 107 92 (.un .not (.t 106)))),(2,(o1 108 (.pick (.t 92) (.c (.b true)) (.t 107)))),
  (2,(mt 109 108)),
  (2,(o4 111 109 (.fa 3 (.t 7)))),
  (1,(o4 110 109 (.ld 4 true (.t 9)))),
  (1,(o4 112 109 (.ld 1 false (.t 111)))),
  (2,(o4 113 109 (.ia 5 (.t 112) (ci 0)))),
  (1,(o4 114 109 (.ld 5 true (.t 113)))),
  (1,(o4 115 109 (.ld 5 true (.t 10)))),
  (1,(o4 116 109 (.ld 5 true (.t 10)))),
  (0,(o4 117 109 (.bs 38 5 3 [.n .i64 0,.n .i64 0,.n .i64 0,.n .i64 0,.n .u32 0,.n .i64 0,.n .i64 0,.n .i64 0,.n .i64 0,.n .u32 0,.n .i64 0,.n .i64 0,.n .i64 0,.n .i64 0,.n .u32 0] [(0,5,(.t 114)),(5,5,(.t 115)),(10,5,(.t 116))]))),(0,⟨some 118,some (109,false),.cl (.c (.f 9 [] [])) [.t 117]⟩),(0,⟨some 119,some (109,false),.cl (.c (.f 13 [] [])) [.t 110,.t 118]⟩),
  (2,(o4 120 109 (.un .not (.t 119)))),(2,(o1 121 (.pick (.t 109) (.c (.b true)) (.t 120))))]
abbrev vK:List AO:=
 [o1 0 (.mv (.c (.b false)))]
abbrev vJ:List AO:=
 [(o2 122 10 [(ci 32),(ci 0),(.c (.n .i64 (-1))),(.c (.n .i64 (-1))),(.c (.n .u32 0))]),
  (o2 123 10 [(ci 32),(ci 1),(.c (.n .i64 (-1))),(.c (.n .i64 (-1))),(.c (.n .u32 0))]),
  (o2 124 10 [(ci 8),(ci 2),(ci 0),(ci 1),(.c (.n .u32 0))]),
  (o2 125 10 [(ci 8),(ci 3),(ci 0),(ci 1),(.c (.n .u32 0))]),
  (o2 126 10 [(ci 34),(.c (.n .i64 (-1))),(ci 3),(.c (.n .i64 (-1))),(.c (.n .u32 0))]),o1 127 (.bs 38 5 5 [.n .i64 0,.n .i64 0,.n .i64 0,.n .i64 0,.n .u32 0,.n .i64 0,.n .i64 0,.n .i64 0,.n .i64 0,.n .u32 0,.n .i64 0,.n .i64 0,.n .i64 0,.n .i64 0,.n .u32 0,.n .i64 0,.n .i64 0,.n .i64 0,.n .i64 0,.n .u32 0,.n .i64 0,.n .i64 0,.n .i64 0,.n .i64 0,.n .u32 0] [(0,5,(.t 122)),(5,5,(.t 123)),(10,5,(.t 124)),(15,5,(.t 125)),(20,5,(.t 126))]),
  (o2 128 9 [.t 127]),o1 11 (.al 25 [.sl0,.n .i64 0,.n .i64 0,.sl0]),
  (o3 (.st 4 (.t 11) (.t 128)))]
abbrev vI:List AO:=
 [o1 130 (.ld 4 true (.t 11)),
  (o2 131 15 [.t 130]),
  (mt 129 131),o1 132 (.ext 0 (.t 129)),o1 133 (.ext 1 (.t 129)),o1 12 (.al 25 [.sl0,.n .i64 0,.n .i64 0,.sl0]),
  (o3 (.st 4 (.t 12) (.t 132))),
  (mt 3 133)]
abbrev vH:List AO:=
 [o1 135 (.ld 4 true (.t 11)),
  (o2 136 16 [.t 135]),
  (mt 134 136),o1 137 (.ext 0 (.t 134)),o1 138 (.ext 1 (.t 134)),o1 13 (.al 25 [.sl0,.n .i64 0,.n .i64 0,.sl0]),
  (o3 (.st 4 (.t 13) (.t 137))),
  (mt 5 138)]
abbrev vN:List (Nat×AO):=
 [(2,(o1 139 (.fa 3 (.t 11)))),(1,(o1 140 (.ld 1 false (.t 139)))),(2,(o1 141 (.ia 5 (.t 140) (ci 0)))),(1,(o1 142 (.ld 5 true (.t 141)))),(2,(o1 144 (.fa 3 (.t 11)))),(1,(o1 145 (.ld 1 false (.t 144)))),(2,(o1 146 (.ia 5 (.t 145) (ci 2)))),(1,(o1 147 (.ld 5 true (.t 146)))),(2,(o1 149 (.fa 3 (.t 11)))),(1,(o1 150 (.ld 1 false (.t 149)))),(2,(o1 151 (.ia 5 (.t 150) (ci 4)))),(1,(o1 152 (.ld 5 true (.t 151))))]
abbrev vG:AT:=
 (.alt (o2 143 10 [(ci 36),(ci 1),(ci 0),(.c (.n .i64 (-1))),(.c (.n .u32 0))]) (.alt (o2 148 10 [(ci 36),(ci 3),(ci 2),(.c (.n .i64 (-1))),(.c (.n .u32 0))]) (.alt (o1 153 (.bs 38 5 5 [.n .i64 0,.n .i64 0,.n .i64 0,.n .i64 0,.n .u32 0,.n .i64 0,.n .i64 0,.n .i64 0,.n .i64 0,.n .u32 0,.n .i64 0,.n .i64 0,.n .i64 0,.n .i64 0,.n .u32 0,.n .i64 0,.n .i64 0,.n .i64 0,.n .i64 0,.n .u32 0,.n .i64 0,.n .i64 0,.n .i64 0,.n .i64 0,.n .u32 0] [(0,5,(.t 142)),(5,5,(.t 143)),(10,5,(.t 147)),(15,5,(.t 148)),(20,5,(.t 152))])) (.alt (o2 154 9 [.t 153]) (.alt (o1 14 (.al 25 [.sl0,.n .i64 0,.n .i64 0,.sl0])) (.alt (o3 (.st 4 (.t 14) (.t 154))) .fin .none) .none) (.alt (o1 14 (.al 25 [.sl0,.n .i64 0,.n .i64 0,.sl0])) (.alt (o2 154 9 [.t 153]) (.alt (o3 (.st 4 (.t 14) (.t 154))) .fin .none) .none) .none)) (.alt (o1 14 (.al 25 [.sl0,.n .i64 0,.n .i64 0,.sl0])) (.alt (o1 153 (.bs 38 5 5 [.n .i64 0,.n .i64 0,.n .i64 0,.n .i64 0,.n .u32 0,.n .i64 0,.n .i64 0,.n .i64 0,.n .i64 0,.n .u32 0,.n .i64 0,.n .i64 0,.n .i64 0,.n .i64 0,.n .u32 0,.n .i64 0,.n .i64 0,.n .i64 0,.n .i64 0,.n .u32 0,.n .i64 0,.n .i64 0,.n .i64 0,.n .i64 0,.n .u32 0] [(0,5,(.t 142)),(5,5,(.t 143)),(10,5,(.t 147)),(15,5,(.t 148)),(20,5,(.t 152))])) (.alt (o2 154 9 [.t 153]) (.alt (o3 (.st 4 (.t 14) (.t 154))) .fin .none) .none) .none) .none)) (.alt (o1 14 (.al 25 [.sl0,.n .i64 0,.n .i64 0,.sl0])) (.alt (o2 148 10 [(ci 36),(ci 3),(ci 2),(.c (.n .i64 (-1))),(.c (.n .u32 0))]) (.alt (o1 153 (.bs 38 5 5 [.n .i64 0,.n .i64 0,.n .i64 0,.n .i64 0,.n .u32 0,.n .i64 0,.n .i64 0,.n .i64 0,.n .i64 0,.n .u32 0,.n .i64 0,.n .i64 0,.n .i64 0,.n .i64 0,.n .u32 0,.n .i64 0,.n .i64 0,.n .i64 0,.n .i64 0,.n .u32 0,.n .i64 0,.n .i64 0,.n .i64 0,.n .i64 0,.n .u32 0] [(0,5,(.t 142)),(5,5,(.t 143)),(10,5,(.t 147)),(15,5,(.t 148)),(20,5,(.t 152))])) (.alt (o2 154 9 [.t 153]) (.alt (o3 (.st 4 (.t 14) (.t 154))) .fin .none) .none) .none) .none) .none)) (.alt (o1 14 (.al 25 [.sl0,.n .i64 0,.n .i64 0,.sl0])) (.alt (o2 143 10 [(ci 36),(ci 1),(ci 0),(.c (.n .i64 (-1))),(.c (.n .u32 0))]) (.alt (o2 148 10 [(ci 36),(ci 3),(ci 2),(.c (.n .i64 (-1))),(.c (.n .u32 0))]) (.alt (o1 153 (.bs 38 5 5 [.n .i64 0,.n .i64 0,.n .i64 0,.n .i64 0,.n .u32 0,.n .i64 0,.n .i64 0,.n .i64 0,.n .i64 0,.n .u32 0,.n .i64 0,.n .i64 0,.n .i64 0,.n .i64 0,.n .u32 0,.n .i64 0,.n .i64 0,.n .i64 0,.n .i64 0,.n .u32 0,.n .i64 0,.n .i64 0,.n .i64 0,.n .i64 0,.n .u32 0] [(0,5,(.t 142)),(5,5,(.t 143)),(10,5,(.t 147)),(15,5,(.t 148)),(20,5,(.t 152))])) (.alt (o2 154 9 [.t 153]) (.alt (o3 (.st 4 (.t 14) (.t 154))) .fin .none) .none) .none) .none) .none) .none))
abbrev vM:List (Nat×AO):=
 [(2,(mt 155 3)),
  (2,(mt 156 5)),(2,(o1 157 (.bin .add (.t 155) (.t 156)))),(2,(o1 158 (.bin .eql (.t 157) (ci 0)))),
  (2,(mt 159 158)),
  (1,(o5 160 159 (.ld 4 true (.t 12)))),
  (1,(o5 161 159 (.ld 4 true (.t 14)))),(0,⟨some 162,some (159,true),.cl (.c (.f 13 [] [])) [.t 160,.t 161]⟩),(2,(o1 163 (.pick (.t 159) (.t 162) (.c (.b false))))),
  (2,(mt 164 163)),
  (2,(o5 166 164 (.fa 3 (.t 11)))),
  (1,(o5 165 164 (.ld 4 true (.t 13)))),
  (1,(o5 167 164 (.ld 1 false (.t 166)))),
  (2,(o5 168 164 (.ia 5 (.t 167) (ci 0)))),
  (1,(o5 169 164 (.ld 5 true (.t 168)))),(0,⟨some 170,some (164,true),.cl (.c (.f 10 [] [])) [(ci 8),(ci 2),(ci 0),(ci 0),(.c (.n .u32 0))]⟩),(0,⟨some 171,some (164,true),.cl (.c (.f 10 [] [])) [(ci 34),(.c (.n .i64 (-1))),(ci 2),(.c (.n .i64 (-1))),(.c (.n .u32 0))]⟩),
  (0,(o5 172 164 (.bs 38 5 3 [.n .i64 0,.n .i64 0,.n .i64 0,.n .i64 0,.n .u32 0,.n .i64 0,.n .i64 0,.n .i64 0,.n .i64 0,.n .u32 0,.n .i64 0,.n .i64 0,.n .i64 0,.n .i64 0,.n .u32 0] [(0,5,(.t 169)),(5,5,(.t 170)),(10,5,(.t 171))]))),(0,⟨some 173,some (164,true),.cl (.c (.f 9 [] [])) [.t 172]⟩),(0,⟨some 174,some (164,true),.cl (.c (.f 13 [] [])) [.t 165,.t 173]⟩),(2,(o1 175 (.pick (.t 164) (.t 174) (.c (.b false))))),
  (2,(mt 0 175))]
abbrev JS:AF:=⟨176,(.seq (.reg A4) (.seq (.reg A3) (.seq (.reg A2) (.seq (.reg A1) (.seq (.reg A0) (.seq (.seq (.mix A6) (.cond (.t 67) (.seq (.reg AZ) .ret) .skip)) (.seq (.reg AY) (.seq (.reg AW) (.seq (.reg AU) (.seq (.reg vL) (.seq (.seq (.mix vO) (.cond (.t 121) (.seq (.reg vK) .ret) .skip)) (.seq (.reg vJ) (.seq (.reg vI) (.seq (.reg vH) (.seq (.frk vN vG) (.seq (.mix vM) .ret)))))))))))))))),[.mv (.t 0)]⟩
theorem A5:bk Try.prog (rF Try.prog 5) 5=some JS:=by rw[<-tI];kernel_rfl
end Go.Proofs.Ytidhfimbnjaceaa