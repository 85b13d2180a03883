/- A part of the proof of OptimizerShares: FvA FwV FvB. No condition. -/
import Derived.Test.YtidhfimbnjaceaaGreatGh12
import Derived.Test.YtidhfimbnjaceaaGreatGh34
import Derived.Test.YtidhfimbnjaceaaGreatGh13
set_option linter.unusedSimpArgs false
set_option linter.unusedVariables false
set_option linter.constructorNameAsVariable false
set_option maxRecDepth 100000
set_option maxHeartbeats 4000000
namespace Go.Proofs.YtidhfimbnjaceaaGreat
open Go.RowKit
def dA (f g:In):Bool:=decide (f=g)
theorem i8 (f g:In):dA f g=(decide (f.1=g.1)&&(decide (f.2.1=g.2.1)&&(decide (f.2.2.1=g.2.2.1)&&(decide (f.2.2.2.1=g.2.2.2.1)&&decide (f.2.2.2.2=g.2.2.2.2))))):=by
 obtain⟨a,b,c,d,e⟩:=f
 obtain⟨a',b',c',d',e'⟩:=g
 unfold dA
 rw[Bool.eq_iff_iff]
 simp[Prod.ext_iff]
theorem oP (l:List (In)) (f:In) (hl:l.length<1000000):a7 Tryz.prog 141 [.fs 5 l.length (cC l),aQ f] [.v (.n .i64 (cQ (λg=>dA f g) l 0))]:=by
 refine ah aa E1 ⟨by simp,by decide⟩ ?_
 simp only[aW,aQ]
 repeat (first|(with_reducible refine GA.go aa rfl ?_)|simp only[go_sem,simprocAttr])
 refine GA.loop (I:=λm e H=>∃k:Nat,m=l.length-k/\k<=l.length/\cQ (λg=>dA f g) l 0=cQ (λg=>dA f g) (l.drop k) k/\e=aI [(0,.fs 5 l.length (cC l)),(3,.p 0 0),(6,.fs 5 l.length (cC l)),(7,.n .i64 l.length),(8,.n .i64 k)]/\H=am [ax 0 111 [.n .i64 f.1,.n .i64 f.2.1,.n .i64 f.2.2.1,.n .i64 f.2.2.2.1,.n .u32 f.2.2.2.2]]) (Wk.mk [0] [] ?_ ?_ ?_) ⟨0,rfl,by omega,rfl,rfl,rfl⟩ ?_
 ·simp only[aP,aR,go_sem,simprocAttr]
  repeat' refine ae ?_ ?_
  all_goals first|exact bB|skip
 ·exact .cons rfl (.ls) .nil
 ·simp
 rintro m e H ⟨k,rfl,hk,hs,rfl,rfl⟩
 repeat (first|(with_reducible refine GA.go aa rfl ?_)|simp only[go_sem,simprocAttr])
 refine⟨λh=>?_,λh=>?_⟩
 ·have hk':k<l.length:=by omega
  have h0:(0:Int)<=(k:Int):=by omega
  rw[bJ (d:=(0,0,0,0,0)) hk',cQ] at hs
  repeat (first|(with_reducible refine GA.go aa rfl ?_)|simp only[h0,h,iu,kH,lX,lW,lu,mT,jQ,gw,mL,SH.row,go_sem,simprocAttr])
  refine⟨λh1=>?_,λh1=>?_⟩
  ·repeat (first|(with_reducible refine GA.go aa rfl ?_)|simp only[go_sem,simprocAttr])
   rw[if_pos (by rw[i8];simp only[Bool.and_eq_true,decide_eq_true_eq];exact h1)] at hs
   exact ai (by rw[hs]) rfl
  ·repeat (first|(with_reducible refine GA.go aa rfl ?_)|simp only[go_sem,simprocAttr])
   rw[if_neg (by rw[i8,h1];simp)] at hs
   refine⟨_,_,_,?_,Wk.mk [0] [] ?_ ?_ ?_,k+1,rfl,by omega,hs,rfl,rfl⟩
   ·omega
   ·simp only[aP,aR,go_sem,simprocAttr]
    repeat' refine ae ?_ ?_
    all_goals first|exact bB|skip
   ·exact .cons rfl (.lst (by first|(simp only[go_sem,simprocAttr];done)|(simp only[go_sem,simprocAttr];rfl)|rfl) rfl (by simp) rfl) .nil
   ·simp
 ·repeat (first|(with_reducible refine GA.go aa rfl ?_)|simp only[go_sem,simprocAttr])
  have:k=l.length:=by omega
  subst this
  rw[List.drop_length,cQ] at hs
  exact ai (by rw[hs]) rfl
theorem ln (l:List (In)) (f:In) (hl:l.length<1000000):a7 Tryz.prog 117 [.fs 5 l.length (cC l),aQ f] [.v (.b (l.any λg=>dA f g))]:=by
 refine ah aa E8 ⟨by simp,by decide⟩ ?_
 simp only[aW,aQ]
 repeat (first|(with_reducible refine GA.go aa rfl ?_)|simp only[go_sem,simprocAttr])
 refine ab [] (.cons (.rfl rfl) (.cons (.rfl rfl) .nil)) (oP l f hl) (by simp only[go_sem,simprocAttr]) ?_
 repeat (first|(with_reducible refine GA.go aa rfl ?_)|simp only[go_sem,simprocAttr])
 exact ai (by rw[<-dJ _ l 0]) rfl
theorem rF (l m:List (In)) (hl:l.length<1000000) (hm:m.length<1000000):a7 Tryz.prog 100 [.fs 5 l.length (cC l),.fs 5 m.length (cC m)]
  [.o 111 5 (l.filter λf=>m.any λg=>dA f g).length 0 (cC (l.filter λf=>m.any λg=>dA f g))]:=by
 refine ah aa Fl ⟨by simp,by decide⟩ ?_
 generalize hp:(λf:In=>m.any λg=>dA f g)=p
 simp only[aW]
 repeat (first|(with_reducible refine GA.go aa rfl ?_)|simp only[go_sem,simprocAttr])
 refine GA.wk (Wk.nil 5 5 111 (by simp only[go_sem,simprocAttr]) (by decide) (by simp only[go_sem,simprocAttr])) ?_
 simp only[cr]
 refine GA.loop (I:=λmm e H=>∃(k:Nat) (xs:List (In)),mm=l.length-k/\k<=l.length/\xs=(l.take k).filter p/\e=aI [(1,.fs 5 m.length (cC m)),(8,.fs 5 l.length (cC l)),(9,.n .i64 l.length),(10,.n .i64 k),(5,.os 0 xs.length)]/\H=am [ar 111 5 xs.length 0 (cC xs)]) (Wk.mk [0] [] ?_ ?_ ?_) ⟨0,[],rfl,by omega,rfl,rfl,rfl⟩ ?_
 ·simp only[aP,aR,go_sem,simprocAttr]
  repeat' refine ae ?_ ?_
  all_goals first|exact bB|skip
 ·exact .cons rfl (.rows (by simp only[go_sem,simprocAttr];rfl) rfl rfl rfl (by decide) (by decide) (by decide) (λi j h=>by simp at h) (λi j h=>by simp at h)) .nil
 ·simp
 rintro mm e H ⟨k,xs,rfl,hk,hs,rfl,rfl⟩
 repeat (first|(with_reducible refine GA.go aa rfl ?_)|simp only[go_sem,simprocAttr])
 refine⟨λh=>?_,λh=>?_⟩
 ·have hk':k<l.length:=by omega
  have h0:(0:Int)<=(k:Int):=by omega
  repeat (first|(with_reducible refine GA.go aa rfl ?_)|simp only[h0,h,iu,kH,lX,lW,lu,go_sem,simprocAttr])
  have hlt:xs.length<=l.length:=by rw[hs];exact Nat.le_trans (List.length_filter_le _ _) (by rw[List.length_take];exact Nat.min_le_right _ _)
  refine ab [] (.cons (.rfl rfl) (.cons (.rfl rfl) .nil)) (ln m (l.getD k (0,0,0,0,0)) hm) (by simp only[go_sem,simprocAttr]) ?_
  have hpk:(m.any λg=>dA (l.getD k (0,0,0,0,0)) g)=p (l.getD k (0,0,0,0,0)):=by rw[<-hp]
  rw[hpk]
  have htk:(l.take (k+1)).filter p=xs++(if p (l.getD k (0,0,0,0,0))=true then[l.getD k (0,0,0,0,0)] else[]):=by
   rw[cW (d:=(0,0,0,0,0)) hk',List.filter_append,<-hs]
   simp only[List.filter_cons,List.filter_nil]
  have hlim:(xs.length+1)*5<1099511627776/\(xs.length+1)*40<=140737488355328/\xs.length+1<=9223372036854775807:=by omega
  repeat (first|(with_reducible refine GA.go aa rfl ?_)|simp only[go_sem,simprocAttr])
  refine⟨λh1=>?_,λh1=>?_⟩
  ·rw[if_pos h1] at htk
   repeat (first|(with_reducible refine GA.go aa rfl ?_)|simp only[hlim.1,hlim.2.1,hlim.2.2,decide_true,go_sem,simprocAttr])
   refine⟨_,_,_,?_,Wk.mk [3] [] ?_ ?_ ?_,k+1,xs++[l.getD k (0,0,0,0,0)],rfl,by omega,htk.symm,rfl,rfl⟩
   ·omega
   ·simp only[aP,aR,go_sem,simprocAttr]
    repeat' refine ae ?_ ?_
    all_goals first|exact bB|skip
   ·refine .cons rfl (.rows (x:=_) (by simp only[go_sem,simprocAttr];rfl) (by rfl) (by rfl) (by rfl) ?_ (Nat.le_refl _) (by decide) ?_ (λi j _ hj=>by rcases bZ hj with rfl|rfl|rfl|rfl|rfl<;>rfl)) .nil
    ·simp only[go_sem,simprocAttr];omega
    ·simp only[go_sem,simprocAttr]
     exact dE rfl (by omega) (λi j hi _=>by unfold cC;rw[aK hi]) (λj hj=>by
      have hj2:=bZ hj
      unfold cC
      rw[aL]
      rcases hj2 with rfl|rfl|rfl|rfl|rfl<;>rfl)
   ·simp
  ·rw[if_neg (by rw[h1];simp),List.append_nil] at htk
   repeat (first|(with_reducible refine GA.go aa rfl ?_)|simp only[go_sem,simprocAttr])
   refine⟨_,_,_,?_,Wk.mk [0] [] ?_ ?_ ?_,k+1,xs,rfl,by omega,htk.symm,rfl,rfl⟩
   ·omega
   ·simp only[aP,aR,go_sem,simprocAttr]
    repeat' refine ae ?_ ?_
    all_goals first|exact bB|skip
   ·exact .cons rfl (.k5) .nil
   ·simp
 ·repeat (first|(with_reducible refine GA.go aa rfl ?_)|simp only[go_sem,simprocAttr])
  have:k=l.length:=by omega
  subst this
  rw[List.take_length] at hs
  subst hs
  refine⟨[_],rfl,.o (x:=_) (by simp only[go_sem,simprocAttr];rfl) (by rfl) (by rfl) (by rfl) (by decide) (Nat.le_refl _) (Nat.le_refl _) (λi j _ hj=>aX i j hj) (λi j _ hj=>by rcases bZ hj with rfl|rfl|rfl|rfl|rfl<;>rfl) rfl .nil⟩
theorem kO (x:In) (f:In) (g:FuncId) (c1 c2:List AV) (vv:AV) (D:Bool) (hd:a7 Tryz.prog g (c1++[aQ x,aQ f]++c2) [.v (.b D)]) (hpu:(c1.all (AV.pu 2)&&c2.all (AV.pu 2))=true):
  a7 Tryz.prog 116 [aQ x,.fp 2 (λj=>[AV.f g c1 c2,vv][j]?.getD .u) 0,.fp 5 (λj=>[AV.n .i64 f.1,AV.n .i64 f.2.1,AV.n .i64 f.2.2.1,AV.n .i64 f.2.2.2.1,AV.n .u32 f.2.2.2.2][j]?.getD .u) 0] [.v (.b D)]:=by
 refine ah aa Fb ⟨by simp,by decide⟩ ?_
 simp only[aW,aQ]
 repeat (first|(with_reducible refine GA.go aa rfl ?_)|simp only[go_sem,simprocAttr])
 refine ab [] (fargs:=c1++[aQ x,aQ f]++c2) ?_ hd (by simp only[bG,aO,List.length_nil];decide) ?_
 ·refine gY.same ?_
  simp only[List.all_append,Bool.and_eq_true] at hpu ⊢
  exact⟨⟨bR hpu.1,rfl⟩,bR hpu.2⟩
 repeat (first|(with_reducible refine GA.go aa rfl ?_)|simp only[go_sem,simprocAttr])
 exact ai rfl rfl
theorem fI (l:List (In)) (cs:List In) (g:FuncId) (c1 c2:List AV) (vv:AV) (D:In->In->Bool) (hd:∀x ∈ cs,∀f,a7 Tryz.prog g (c1++[aQ x,aQ f]++c2) [.v (.b (D x f))]) (hpu:(c1.all (AV.pu 2)&&c2.all (AV.pu 2))=true) (hvv:vv.cell=true)
  (hl:l.length<1000000) (hcs:cs.length<1000000):
  a7 Tryz.prog 99 [.fs 5 l.length (cC l),.agg [.f g c1 c2,vv],.fs 5 cs.length (cC cs)]
   [.o 111 5 (l.filter λf=> !cs.any λx=>D x f).length 0 (cC (l.filter λf=> !cs.any λx=>D x f))]:=by
 refine ah aa Fy ⟨by simp,by decide⟩ ?_
 have hfn:(AV.f g c1 c2).cell=true:=by
  simp only[AV.cell,AV.pu,AV.one,Bool.and_true];exact hpu
 have hvo:vv.one=true:=by simp only[AV.cell,Bool.and_eq_true] at hvv;exact hvv.2
 have hvp:vv.pu 3=true:=by simp only[AV.cell,Bool.and_eq_true] at hvv;exact hvv.1
 have hfp:(AV.f g c1 c2).pu 3=true:=hpu
 generalize hp:(λf:In=> !cs.any λx=>D x f)=p
 simp only[aW]
 repeat (first|(with_reducible refine GA.go aa rfl ?_)|simp only[hvo,go_sem,simprocAttr])
 refine GA.wk (Wk.nil 7 5 111 (by simp only[go_sem,simprocAttr]) (by decide) (by simp only[bG,aO,List.length_nil];decide)) ?_
 simp only[cr]
 refine GA.loop (I:=λmm e H=>∃(k:Nat) (xs:List (In)),mm=l.length-k/\k<=l.length/\xs=(l.take k).filter p/\e=aI [(2,.fs 5 cs.length (cC cs)),(4,.p 0 0),(10,.fs 5 l.length (cC l)),(11,.n .i64 l.length),(12,.n .i64 k),(7,.os 1 xs.length)]/\H=am [ar 111 5 xs.length 0 (cC xs),kl 0 119 [.f g c1 c2,vv]]) (Wk.mk [1,0] [] ?_ ?_ ?_) ⟨0,[],rfl,by omega,rfl,rfl,rfl⟩ ?_
 ·simp only[aP,aR,go_sem,simprocAttr]
  repeat' refine ae ?_ ?_
  all_goals first|exact bB|skip
 ·refine .cons rfl (.rows (x:=_) (by simp only[go_sem,simprocAttr];rfl) (by rfl) (by rfl) (by rfl) (by decide) (by decide) (by decide) (λi j h=>by simp at h) (λi j h=>by simp at h)) (.cons rfl (.lstz (x:=_) (by simp only[go_sem,simprocAttr];rfl) (by rfl) (by rfl) (by rfl) (by rfl) (by simp) (by simp) (λi hi=>by simp only[i4,List.length_cons,List.length_nil,Nat.reduceAdd,Nat.reduceLT]) (by simp only[List.all_cons,List.all_nil,hfp,hvp,Bool.and_self])) .nil)
 ·simp
 rintro mm e H ⟨k,xs,rfl,hk,hs,rfl,rfl⟩
 repeat (first|(with_reducible refine GA.go aa rfl ?_)|simp only[go_sem,simprocAttr])
 refine⟨λh=>?_,λh=>?_⟩
 ·have hk':k<l.length:=by omega
  have h0:(0:Int)<=(k:Int):=by omega
  repeat (first|(with_reducible refine GA.go aa rfl ?_)|simp only[h0,h,iu,kH,lX,lW,lu,go_sem,simprocAttr])
  have hlt:xs.length<=l.length:=by rw[hs];exact Nat.le_trans (List.length_filter_le _ _) (by rw[List.length_take];exact Nat.min_le_right _ _)
  refine ab [0,2] (fargs:=[.fs 5 cs.length (cC cs),.f 116 [] [.fp 2 (λj=>[AV.f g c1 c2,vv][j]?.getD .u) 0,.fp 5 (λj=>[AV.n .i64 (l.getD k (0,0,0,0,0)).1,AV.n .i64 (l.getD k (0,0,0,0,0)).2.1,AV.n .i64 (l.getD k (0,0,0,0,0)).2.2.1,AV.n .i64 (l.getD k (0,0,0,0,0)).2.2.2.1,AV.n .u32 (l.getD k (0,0,0,0,0)).2.2.2.2][j]?.getD .u) 0]])
   ?_
   (dK cs 116 [] _ (λx=>D x (l.getD k (0,0,0,0,0))) (λx hx=>kO x (l.getD k (0,0,0,0,0)) g c1 c2 vv (D x (l.getD k (0,0,0,0,0))) (hd x hx _) hpu) hcs rfl) (by simp only[go_sem,simprocAttr]) ?_
  ·refine .cons (.rfl rfl) (.cons (.fn .nil (.cons ?_ (.cons ?_ .nil))) .nil)
   ·exact Cv.box (l:=[AV.f g c1 c2,vv]) (b:=0) rfl (x:=_) (by simp only[go_sem,simprocAttr];rfl) (by rfl) (by simp) (λj hj=>by simp only[cT,List.length_cons,List.length_nil,Nat.reduceAdd,Nat.reduceLT]) (by simp only[List.all_cons,List.all_nil,hfn,hvv,Bool.and_self])
   ·refine Cv.box (l:=[AV.n .i64 (l.getD k (0,0,0,0,0)).1,AV.n .i64 (l.getD k (0,0,0,0,0)).2.1,AV.n .i64 (l.getD k (0,0,0,0,0)).2.2.1,AV.n .i64 (l.getD k (0,0,0,0,0)).2.2.2.1,AV.n .u32 (l.getD k (0,0,0,0,0)).2.2.2.2]) (b:=2) rfl (x:=_) (by simp only[go_sem,simprocAttr];rfl) (by rfl) (by simp) (λj hj=>?_) rfl
    have hj2:=bZ (by simpa using hj)
    rcases hj2 with rfl|rfl|rfl|rfl|rfl<;>simp only[go_sem,simprocAttr]
  have hpk:(!cs.any λx=>D x (l.getD k (0,0,0,0,0)))=p (l.getD k (0,0,0,0,0)):=by rw[<-hp]
  have htk:(l.take (k+1)).filter p=xs++(if p (l.getD k (0,0,0,0,0))=true then[l.getD k (0,0,0,0,0)] else[]):=by
   rw[cW (d:=(0,0,0,0,0)) hk',List.filter_append,<-hs]
   simp only[List.filter_cons,List.filter_nil]
  have hlim:(xs.length+1)*5<1099511627776/\(xs.length+1)*40<=140737488355328/\xs.length+1<=9223372036854775807:=by omega
  repeat (first|(with_reducible refine GA.go aa rfl ?_)|simp only[hpk,go_sem,simprocAttr])
  refine⟨λh1=>?_,λh1=>?_⟩
  ·rw[if_pos h1] at htk
   repeat (first|(with_reducible refine GA.go aa rfl ?_)|simp only[hlim.1,hlim.2.1,hlim.2.2,decide_true,go_sem,simprocAttr])
   refine⟨_,_,_,?_,Wk.mk [4,0] [] ?_ ?_ ?_,k+1,xs++[l.getD k (0,0,0,0,0)],rfl,by omega,htk.symm,rfl,rfl⟩
   ·omega
   ·simp only[aP,aR,go_sem,simprocAttr]
    repeat' refine ae ?_ ?_
    all_goals first|exact bB|skip
   ·refine .cons rfl (.rows (x:=_) (by simp only[go_sem,simprocAttr];rfl) (by rfl) (by rfl) (by rfl) ?_ (Nat.le_refl _) (by decide) ?_ (λi j _ hj=>by rcases bZ hj with rfl|rfl|rfl|rfl|rfl<;>rfl)) (.cons rfl (.lstz (x:=_) (by simp only[go_sem,simprocAttr];rfl) (by rfl) (by rfl) (by rfl) (by rfl) ?_ (by simp) ?_ (by simp only[List.all_cons,List.all_nil,hfp,hvp,Bool.and_self])) .nil)
    ·simp only[go_sem,simprocAttr];omega
    ·simp only[go_sem,simprocAttr]
     exact dE rfl (by omega) (λi j hi _=>by unfold cC;rw[aK hi]) (λj hj=>by
      have hj2:=bZ hj
      unfold cC
      rw[aL]
      rcases hj2 with rfl|rfl|rfl|rfl|rfl<;>rfl)
    ·simp[ip,dV,eI]
    ·intro i hi
     exact cT _ _ _ i (by simp)
   ·simp
  ·rw[if_neg (by rw[h1];simp),List.append_nil] at htk
   repeat (first|(with_reducible refine GA.go aa rfl ?_)|simp only[go_sem,simprocAttr])
   refine⟨_,_,_,?_,Wk.mk [1,0] [] ?_ ?_ ?_,k+1,xs,rfl,by omega,htk.symm,rfl,rfl⟩
   ·omega
   ·simp only[aP,aR,go_sem,simprocAttr]
    repeat' refine ae ?_ ?_
    all_goals first|exact bB|skip
   ·refine .cons rfl (.k5) (.cons rfl (.lstz (x:=_) (by simp only[go_sem,simprocAttr];rfl) (by rfl) (by rfl) (by rfl) (by rfl) ?_ (by simp) ?_ (by simp only[List.all_cons,List.all_nil,hfp,hvp,Bool.and_self])) .nil)
    ·simp[ip,dV,eI]
    ·intro i hi
     exact cT _ _ _ i (by simp)
   ·simp
 ·repeat (first|(with_reducible refine GA.go aa rfl ?_)|simp only[go_sem,simprocAttr])
  have:k=l.length:=by omega
  subst this
  rw[List.take_length] at hs
  subst hs
  refine⟨[_],rfl,.o (x:=_) (by simp only[go_sem,simprocAttr];rfl) (by rfl) (by rfl) (by rfl) (by decide) (Nat.le_refl _) (Nat.le_refl _) (λi j _ hj=>aX i j hj) (λi j _ hj=>by rcases bZ hj with rfl|rfl|rfl|rfl|rfl<;>rfl) rfl .nil⟩
theorem fX (l:List In) (i j:Nat) (hj:j<5):(cC l i j).cell=true:=by
 have h5:j=0\/j=1\/j=2\/j=3\/j=4:=by omega
 rcases h5 with rfl|rfl|rfl|rfl|rfl<;>first|rfl|omega
def vm (st:List (List In)) (i _j:Nat):AV:= .fs 5 (st.reverse.getD i []).length (cC (st.reverse.getD i []))
theorem iL (st:List (List In)) (t:List In) (i j:Nat) (hi:i<st.length):vm (t::st) i j=vm st i j:=by
 unfold vm;rw[List.reverse_cons,aK (by simpa using hi)]
theorem jT (st:List (List In)) (t:List In) (j:Nat):vm (t::st) st.length j= .fs 5 t.length (cC t):=by
 unfold vm;rw[List.reverse_cons]
 have:=aL (l:=st.reverse) (x:=t) (d:=[])
 rw[List.length_reverse] at this
 rw[this]
theorem qo {n0:Nat} {pf:In->Prop} (D:In->In->Bool) (V:In->List In->In×Bool×List In) (g v:FuncId) (cs:List In) (fs0:List In) (pt:List Int) (fin:n5 In)
  (hD:∀x,opOk x->∀f,a7 Tryz.prog g ([]++[aQ x,aQ f]++[]) [.v (.b (D x f))])
  (hV:∀x ∈ cs,∀fs:List In,fs.length<1000000->(∀f ∈ fs,pf f)->a7 Tryz.prog v [aQ x,.fs 5 fs.length (cC fs)] [.v (aQ (V x fs).1),.v (.b (V x fs).2.1),.v (.fs 5 (V x fs).2.2.length (cC (V x fs).2.2))])
  (hV1:∀x ∈ cs,∀fs:List In,(∀f ∈ fs,pf f)->(V x fs).2.2.length<=1/\∀f ∈ (V x fs).2.2,pf f)
  (hV2:∀x ∈ cs,∀fs:List In,(∀f ∈ fs,pf f)->opOk (V x fs).1)
  (hcs:cs.length<400000) (hok:∀x ∈ cs,opOk x) (hn0:fs0.length<=n0) (hn1:n0<400000) (hpf:∀f ∈ fs0,pf f)
  (hpt:eh cs=some pt) (hptl:pt.length=cs.length) (hgo:bS D (dA) V cs pt cs 0 ⟨[],fs0,[]⟩=some fin):
  a7 Tryz.prog 68 [.fs 5 cs.length (cC cs),.fs 5 fs0.length (cC fs0),.agg [.f g [] [],.f v [] []]] [.o 37 5 fin.out.length 0 (cC fin.out)]:=by
 have hpa:=gP cs (by omega) pt hpt
 refine ah aa Gq ⟨by simp,by decide⟩ ?_
 simp only[aW]
 have hfg:(AV.f g [] []).pu 3=true:=rfl
 have hfv:(AV.f v [] []).pu 3=true:=rfl
 repeat (first|(with_reducible refine GA.go aa rfl ?_)|simp only[go_sem,simprocAttr])
 refine ab [] (.cons (.rfl (by rfl)) .nil) hpa (by simp only[go_sem,simprocAttr]) ?_
 simp only[go_sem,simprocAttr]
 refine GA.wk (Wk.mk (L:=[(0,.fs 5 cs.length (cC cs)),(1,.fs 5 fs0.length (cC fs0)),(5,.p 0 0),(7,.fs 1 pt.length (iC .i64 pt))]) (bl:=[ax 0 119 [.f g [] [],.f v [] []]]) [0] [1] ?_ ?_ ?_) ?_
 ·simp only[aP,aR,go_sem,simprocAttr]
  repeat' refine ae ?_ ?_
  all_goals first|trivial|exact Wv.same rfl|exact Wv.p rfl|skip
  refine Wv.cv (Cv.own (ty:=3) (z:=0) (by simp) (by simp only[go_sem,simprocAttr]) (λi j _ _=>rfl))
 ·refine .cons rfl (.ls) .nil
 ·simp
 with_reducible refine GA.seq ?_
 with_reducible refine GA.reg ?_
 simp only[go_sem,simprocAttr]
 with_reducible refine GA.seq ?_
 with_reducible refine GA.reg ?_
 simp only[go_sem,simprocAttr]
 refine GA.wk (Wk.nil 8 5 37 (by simp only[go_sem,simprocAttr]) (by decide) (by simp only[go_sem,simprocAttr])) ?_
 refine GA.wk (Wk.nil 9 1 113 (by simp only[go_sem,simprocAttr]) (by decide) (by simp only[go_sem,simprocAttr])) ?_
 simp only[cr]
 repeat (first|(with_reducible refine GA.go aa rfl ?_)|simp only[go_sem,simprocAttr])
 refine GA.loop (I:=λmm e H=>∃(k:Nat) (s:n5 In),mm=cs.length-k/\k<=cs.length/\rU pf n0 k s/\bS D (dA) V cs pt (cs.drop k) k s=some fin/\
   e=aI [(0,.fs 5 cs.length (cC cs)),(1,.fs 5 s.fs.length (cC s.fs)),(5,.p 0 0),(7,.fs 1 pt.length (iC .i64 pt)),(18,.fs 5 cs.length (cC cs)),(19,.n .i64 cs.length),(20,.n .i64 k),(8,.os 1 s.out.length),(9,.os 2 s.op.length)]/\
   H=am [ar 113 1 s.op.length 0 (vm s.op),ar 37 5 s.out.length 0 (cC s.out),ax 0 119 [.f g [] [],.f v [] []]]) (Wk.mk [2,1,0] [] ?_ ?_ ?_) ⟨0,⟨[],fs0,[]⟩,rfl,by omega,⟨by simp,by simp,by simp only;omega,hpf,by simp,by simp⟩,hgo,rfl,rfl⟩ ?_
 ·simp only[aP,aR,go_sem,simprocAttr]
  repeat' refine ae ?_ ?_
  all_goals first|exact bB|skip
 ·refine .cons rfl (.rows (by simp only[go_sem,simprocAttr];rfl) rfl rfl rfl (by simp) (by decide) (by decide) (λi j h=>by simp at h) (λi j h=>by simp at h)) (.cons rfl (.rows (by simp only[go_sem,simprocAttr];rfl) rfl rfl rfl (by simp) (by decide) (by decide) (λi j h=>by simp at h) (λi j h=>by simp at h)) (.cons rfl (.ls) .nil))
 ·simp
 rintro mm e H ⟨k,⟨out,fs,op⟩,rfl,hk,hinv,hs,rfl,rfl⟩
 have⟨hi1,hi2,hi3,hi4,hi5,hi6⟩:=hinv
 simp only at hi1 hi2 hi3 hi4 hi5 hi6
 repeat (first|(with_reducible refine GA.go aa rfl ?_)|simp only[go_sem,simprocAttr])
 refine⟨λh=>?_,λh=>?_⟩
 ·have hkn:k<cs.length:=by omega
  have h0:(0:Int)<=(k:Int):=by omega
  have hk1:k+1<=cs.length:=hkn
  have hm:cs.getD k dt ∈ cs:=by rw[List.getD_eq_getElem?_getD,List.getElem?_eq_getElem hkn];exact List.getElem_mem _
  rw[bJ (d:=dt) hkn,bS] at hs
  obtain⟨s2,hst,hs⟩:=Option.bind_eq_some_iff.1 hs
  have hcc0:cC cs k 0= .n .i64 (cs.getD k dt).1:=iu cs k
  have hcc1:cC cs k 1= .n .i64 (cs.getD k dt).2.1:=kH cs k
  have hcc2:cC cs k 2= .n .i64 (cs.getD k dt).2.2.1:=lX cs k
  have hcc3:cC cs k 3= .n .i64 (cs.getD k dt).2.2.2.1:=lW cs k
  have hcc4:cC cs k 4= .n .u32 (cs.getD k dt).2.2.2.2:=lu cs k
  generalize cs.getD k dt=x at hst hcc0 hcc1 hcc2 hcc3 hcc4 hm
  have hcv:=hV x hm fs (by omega) hi4
  have hv1:=hV1 x hm
  have hv2:=hV2 x hm fs hi4
  have key:=fL hinv hv1 hst
  have hv1:=hv1 fs hi4
  unfold cy at hst
  simp only at hst
  generalize V x fs=r at hst hcv hv1 hv2
  obtain⟨y,rem,more⟩:=r
  obtain⟨opc,to,a,b,arg⟩:=x
  obtain⟨yopc,yto,ya,yb,yarg⟩:=y
  simp only[aQ] at hst hcv hv1 hv2 hcc0 hcc1 hcc2 hcc3 hcc4
  repeat (first|(with_reducible refine GA.go aa rfl ?_)|simp only[h0,h,hcc0,hcc1,hcc2,hcc3,hcc4,go_sem,simprocAttr])
  refine ab [] (.cons (.rfl (by rfl)) (.cons (.rfl (by rfl)) .nil)) hcv (by simp only[go_sem,simprocAttr]) ?_
  repeat (first|(with_reducible refine GA.go aa rfl ?_)|simp only[go_sem,simprocAttr])
  have ht:rem=false\/rem=true:=by cases rem<;>simp
  refine⟨λhr=>?_,λhr=>?_⟩
  ·rw[hr,if_neg (by simp)] at hst
   cases hst
   repeat (first|(with_reducible refine GA.go aa rfl ?_)|simp only[go_sem,simprocAttr])
   refine⟨_,_,_,?_,Wk.mk [2,1,0] [] ?_ ?_ ?_,k+1,_,rfl,by omega,key,hs,rfl,rfl⟩
   ·omega
   ·simp only[aP,aR,go_sem,simprocAttr]
    repeat' refine ae ?_ ?_
    all_goals first|exact bB|skip
   ·refine .cons rfl (.k1) (.cons rfl (.k5) (.cons rfl (.ls) .nil))
   ·simp
  rw[hr,if_pos rfl] at hst
  obtain⟨⟨fs',op'⟩,hsw,rfl⟩:=Option.map_eq_some_iff.1 hst
  simp only at key hs
  have hinv2:=fK hinv hsw
  obtain⟨hj1,hj2,hj3,hj4,hj5⟩:=hinv2
  simp only at hj1 hj2 hj3 hj4 hj5
  (try simp only[go_sem,simprocAttr])
  iterate 4 (with_reducible refine GA.go aa rfl ?_;try simp only[go_sem,simprocAttr])
  have hy5:∀j,j<5->[AV.n .i64 yopc,AV.n .i64 yto,AV.n .i64 ya,AV.n .i64 yb,AV.n .u32 yarg][j]?.getD .u=cC [(yopc,yto,ya,yb,yarg)] 0 j:=λj hj=>by rcases bZ hj with rfl|rfl|rfl|rfl|rfl<;>rfl
  refine GA.wk (Wk.mk (L:=[(0,.fs 5 cs.length (cC cs)),(1,.fs 5 fs.length (cC fs)),(5,.p 0 0),(7,.fs 1 pt.length (iC .i64 pt)),(18,.fs 5 cs.length (cC cs)),(19,.n .i64 cs.length),(20,.n .i64 k),(8,.os 1 out.length),(9,.os 2 op.length),(10,.n .i64 k),(11,.p 3 0),(12,.p 4 0),(14,.fs 5 more.length (cC more)),(15,.n .i64 ((op.length:Int)-1))])
   (bl:=[ax 0 37 [.n .i64 yopc,.n .i64 yto,.n .i64 ya,.n .i64 yb,.n .u32 yarg],ax 0 37 [.n .i64 opc,.n .i64 to,.n .i64 a,.n .i64 b,.n .u32 arg],ar 113 1 op.length 0 (vm op),ar 37 5 out.length 0 (cC out),ax 0 119 [.f g [] [],.f v [] []]]) [4,3,2,1,0] [] ?_ ?_ ?_) ?_
  ·simp only[aP,aR,go_sem,simprocAttr]
   repeat' refine ae ?_ ?_
   all_goals first|exact bB|skip
  ·refine .cons rfl (.lsti (x:=_) (by simp only[go_sem,simprocAttr]<;>rfl) (by rfl) (by rfl) (by rfl) (by rfl) (by rfl) (by rfl) (by simp) (λi hi=>?_) (by rfl)) (.cons rfl (.lsti (x:=_) (by simp only[go_sem,simprocAttr]<;>rfl) (by rfl) (by rfl) (by rfl) (by rfl) (by rfl) (by rfl) (by simp) (λi hi=>?_) (by rfl)) (.cons rfl (.k1) (.cons rfl (.k5) (.cons rfl (.ls) .nil))))
   ·rcases bZ hi with rfl|rfl|rfl|rfl|rfl<;>simp only[go_sem,simprocAttr]
   ·rcases bZ hi with rfl|rfl|rfl|rfl|rfl<;>simp only[go_sem,simprocAttr]
  ·simp
  refine GA.cutQ (aI [(0,.fs 5 cs.length (cC cs)),(1,.fs 5 fs'.length (cC fs')),(5,.p 0 0),(7,.fs 1 pt.length (iC .i64 pt)),(18,.fs 5 cs.length (cC cs)),(19,.n .i64 cs.length),(20,.n .i64 k),(8,.os 1 out.length),(9,.os 2 op'.length),(12,.p 3 0),(14,.fs 5 more.length (cC more))])
   (am [ax 0 37 [.n .i64 yopc,.n .i64 yto,.n .i64 ya,.n .i64 yb,.n .u32 yarg],ar 113 1 op'.length 0 (vm op'),ar 37 5 out.length 0 (cC out),ax 0 119 [.f g [] [],.f v [] []]]) ?_ ?_
  rotate_left
  ·intro e' H' hw
   refine GA.wk hw ?_
   have hwo:=fI fs' [(yopc,yto,ya,yb,yarg)] g [] [] (.f v [] []) D (λz hz f=>by
    rw[List.mem_singleton.1 hz];exact hD _ hv2 f) rfl rfl (by omega) (by simp)
   have hwl:=dC D fs' [(yopc,yto,ya,yb,yarg)]
   change a7 _ _ _ [.o 111 5 (fH D fs' [(yopc,yto,ya,yb,yarg)]).length 0 (cC (fH D fs' [(yopc,yto,ya,yb,yarg)]))] at hwo
   generalize fH D fs' [(yopc,yto,ya,yb,yarg)]=wfs at hwo hwl key hs
   have hlim:(wfs.length+more.length)*5<1099511627776/\(wfs.length+more.length)*40<=140737488355328/\wfs.length+more.length<=9223372036854775807:=by omega
   have hlio:(out.length+1)*5<1099511627776/\(out.length+1)*40<=140737488355328/\out.length+1<=9223372036854775807:=by omega
   repeat (first|(with_reducible refine GA.go aa rfl ?_)|simp only[hlim.1,hlim.2.1,hlim.2.2,hlio.1,hlio.2.1,hlio.2.2,decide_true,go_sem,simprocAttr])
   refine ab [4] (fargs:=[.fs 5 fs'.length (cC fs'),.agg [.f g [] [],.f v [] []],.fs 5 [(yopc,yto,ya,yb,yarg)].length (cC [(yopc,yto,ya,yb,yarg)])]) ?_ hwo (by simp only[go_sem,simprocAttr]) ?_
   ·refine .cons (.rfl (by rfl)) (.cons (.rfl (by rfl)) (.cons ?_ .nil))
    refine Cv.sl (x:=_) (by simp) (by simp only[go_sem,simprocAttr]<;>rfl) (by simp) (by simp) (by simp) (λi j hi hj=>?_) (λi j hi hj=>by rcases bZ hj with rfl|rfl|rfl|rfl|rfl<;>rfl)
    obtain rfl:i=0:=by simpa using hi
    rw[<-hy5 j hj]
    rcases bZ hj with rfl|rfl|rfl|rfl|rfl<;>simp only[go_sem,simprocAttr]
   repeat (first|(with_reducible refine GA.go aa rfl ?_)|simp only[hlim.1,hlim.2.1,hlim.2.2,hlio.1,hlio.2.1,hlio.2.2,decide_true,go_sem,simprocAttr])
   refine⟨_,_,_,?_,Wk.mk [2,8,0] [6] ?_ ?_ ?_,k+1,_,rfl,by omega,key,hs,rfl,rfl⟩
   ·omega
   ·simp only[aP,aR,go_sem,simprocAttr]
    repeat' refine ae ?_ ?_
    all_goals first|exact bB|skip
    refine Wv.cv (Cv.os (x:=_) (by simp) (by simp only[go_sem,simprocAttr]<;>rfl) (by simp only[go_sem,simprocAttr]<;>omega) (λi j hi hj=>?_) (λi j hi hj=>fX _ _ _ hj))
    rw[f8 hj hi (by omega),aX i j hj]
    unfold cC
    by_cases hw:wfs.length<=i
    ·rw[if_pos hw]
     simp only[List.getD_eq_getElem?_getD,List.getElem?_append_right hw]
    ·rw[if_neg hw]
     simp only[List.getD_eq_getElem?_getD,List.getElem?_append_left (Nat.lt_of_not_le hw)]
   ·rw[show(out++[(yopc,yto,ya,yb,yarg)]).length=out.length+1 from by simp]
    refine .cons rfl (.k1) (.cons rfl (.snoc (by simp only[go_sem,simprocAttr]<;>rfl) (by simp) (by rfl) rfl (by decide) (by omega) (λi j hi _=>by unfold cC;rw[aK hi]) (λj hj=>by
     unfold cC
     rw[aL]
     exact(hy5 j hj).symm) (λi j _ hj=>by rcases bZ hj with rfl|rfl|rfl|rfl|rfl<;>rfl)) (.cons rfl (.ls) .nil))
   ·simp
  unfold eU at hsw
  repeat (first|(with_reducible refine GA.go aa rfl ?_)|simp only[go_sem,simprocAttr])
  refine⟨λh1=>?_,λh1=>?_⟩
  ·rw[if_pos h1] at hsw
   injection hsw with hsw
   injection hsw with e1 e2
   subst e1 e2
   have hlo:op.length+1<1099511627776/\(op.length+1)*24<=140737488355328/\op.length+1<=9223372036854775807:=by omega
   repeat (first|(with_reducible refine GA.go aa rfl ?_)|simp only[hlo.1,hlo.2.1,hlo.2.2,decide_true,go_sem,simprocAttr])
   refine Wk.mk [4,6,1,0] [] ?_ ?_ ?_
   ·simp only[aP,aR,go_sem,simprocAttr]
    repeat' refine ae ?_ ?_
    all_goals first|exact bB|skip
   ·refine .cons rfl (.ls) (.cons rfl (.snoc (by simp only[go_sem,simprocAttr]<;>rfl) (by simp) (by rfl) rfl (by decide) (by omega) (λi j hi _=>iL _ _ _ _ hi) (λj hj=>by
     cases Nat.lt_one_iff.1 hj
     exact jT _ _ _) (λi j _ _=>rfl)) (.cons rfl (.k5) (.cons rfl (.ls) .nil)))
   ·simp
  rw[if_neg h1] at hsw
  repeat (first|(with_reducible refine GA.go aa rfl ?_)|simp only[go_sem,simprocAttr])
  refine⟨λh2=>?_,λh2=>?_⟩
  ·rw[if_pos h2] at hsw
   cases op with
   |nil=>cases hsw
   |cons t r=>
   simp only at hsw
   injection hsw with hsw
   injection hsw with e1 e2
   subst e1 e2
   have hrl:r.length<=k:=by simp only[List.length_cons] at hi2;omega
   have hsub:((r.length+1:Nat):Int)-1=(r.length:Int):=by omega
   have hz0:(0:Int)<=(r.length:Int):=by omega
   have hz1:(r.length:Int)<((r.length+1:Nat):Int):=by omega
   have hz2:r.length<r.length+1:=by omega
   have hg:(ar 113 1 (r.length+1) 0 (vm (t::r))).get r.length= .fs 5 t.length (cC t):=by
    rw[bX];exact jT _ _ _
   repeat (first|(with_reducible refine GA.go aa rfl ?_)|simp only[hsub,hz0,hz1,hz2,hg,Nat.le_refl,go_sem,simprocAttr])
   refine Wk.mk [4,2,1,0] [] ?_ ?_ ?_
   ·simp only[aP,aR,go_sem,simprocAttr]
    repeat' refine ae ?_ ?_
    all_goals first|exact bB|skip
   ·refine .cons rfl (.ls) (.cons rfl (.put (n:=r.length+1) (q:=r.length) (by simp only[go_sem,simprocAttr]<;>rfl) (by simp) rfl hz2 rfl (by decide) (by omega) (λi j h hj=>?_) (λi j h hj=>rfl)) (.cons rfl (.k5) (.cons rfl (.ls) .nil)))
    cases Nat.lt_one_iff.1 hj
    by_cases e:i=r.length
    ·rw[if_pos e,e];exact(jT _ _ _).symm
    ·rw[if_neg e,iL _ _ _ _ (by omega),iL _ _ _ _ (by omega)]
   ·simp
  rw[if_neg h2] at hsw
  have hkp:k<pt.length:=by omega
  have hkpi:(k:Int)<(pt.length:Int):=by omega
  repeat (first|(with_reducible refine GA.go aa rfl ?_)|simp only[go_sem,simprocAttr])
  refine⟨λh3=>?_,λh3=>?_⟩
  ·rw[if_pos h3] at hsw
   split at hsw
   rotate_left
   ·cases hsw
   rename_i hrg
   obtain⟨q,hq⟩:∃q:Nat,pt.getD k 0=(q:Int):=⟨(pt.getD k 0).toNat,by omega⟩
   rw[hq] at hrg hsw
   rw[Int.toNat_natCast] at hsw
   have hql:q-k=((cs.take q).drop k).length:=by rw[List.length_drop,List.length_take];omega
   have hwo:=fI fs ((cs.take q).drop k) g [] [] (.f v [] []) D (λz hz f=>hD z (hok z (List.mem_of_mem_take (List.mem_of_mem_drop hz))) f) rfl rfl (by omega) (by rw[<-hql];omega)
   have hwl:=dC D fs ((cs.take q).drop k)
   change a7 _ _ _ [.o 111 5 (fH D fs ((cs.take q).drop k)).length 0 (cC (fH D fs ((cs.take q).drop k)))] at hwo
   generalize fH D fs ((cs.take q).drop k)=wfs at hwo hwl hsw
   injection hsw with hsw
   injection hsw with e1 e2
   subst e1 e2
   have hpk:iC .i64 pt k 0= .n .i64 (q:Int):=by unfold iC;rw[hq]
   have hq0:(0:Int)<=(q:Int):=by omega
   have hq1:(k:Int)<=(q:Int):=hrg.1
   have hq2:(q:Int)<=(cs.length:Int):=hrg.2
   repeat (first|(with_reducible refine GA.go aa rfl ?_)|simp only[h0,hkpi,hpk,hq0,hq1,hq2,go_sem,simprocAttr])
   rw[hql]
   refine ab [] (fargs:=[.fs 5 fs.length (cC fs),.agg [.f g [] [],.f v [] []],.fs 5 ((cs.take q).drop k).length (cC ((cs.take q).drop k))]) ?_ hwo (by simp only[go_sem,simprocAttr]) ?_
   ·refine .cons (.rfl (by rfl)) (.cons (.rfl (by rfl)) (.cons (.fs (λi j hi hj=>?_)) .nil))
    unfold cC
    rw[List.getD_eq_getElem?_getD,List.getD_eq_getElem?_getD,List.getElem?_drop,List.getElem?_take_of_lt (by omega)]
   repeat (first|(with_reducible refine GA.go aa rfl ?_)|simp only[go_sem,simprocAttr])
   refine Wk.mk [4,2,1,0] [5] ?_ ?_ ?_
   ·simp only[aP,aR,go_sem,simprocAttr]
    repeat' refine ae ?_ ?_
    all_goals first|exact bB|skip
    exact Wv.cv (Cv.own (ty:=111) (z:=0) (by simp) (by simp only[go_sem,simprocAttr]) (λi j _ hj=>fX _ _ _ hj))
   ·refine .cons rfl (.ls) (.cons rfl (.k1) (.cons rfl (.k5) (.cons rfl (.ls) .nil)))
   ·simp
  rw[if_neg h3] at hsw
  by_cases h4:opc=31
  ·rw[if_pos h4] at hsw
   subst h4
   split at hsw
   rotate_left
   ·cases hsw
   rename_i hrg
   obtain⟨q,hq⟩:∃q:Nat,pt.getD k 0=(q:Int):=⟨(pt.getD k 0).toNat,by omega⟩
   rw[hq] at hrg hsw
   rw[Int.toNat_natCast] at hsw
   have hpk:iC .i64 pt k 0= .n .i64 (q:Int):=by unfold iC;rw[hq]
   have hq0:(0:Int)<=(q:Int):=by omega
   have hq1:(q:Int)<=(k:Int):=hrg.2
   have hq2:(q:Int)<(cs.length:Int):=by omega
   have hq3:(k:Int)<=(cs.length:Int):=by omega
   have hcq:cC cs q 0= .n .i64 (cs.getD q dt).1:=iu cs q
   repeat (first|(with_reducible refine GA.go aa rfl ?_)|simp only[h0,hkpi,hpk,hq0,hq1,hq2,hcq,decide_true,go_sem,simprocAttr])
   refine⟨λh5=>?_,λh5=>?_⟩
   ·rw[if_pos h5] at hsw
    have hql:k-q=((cs.take k).drop q).length:=by rw[List.length_drop,List.length_take];omega
    have hwo:=fI fs ((cs.take k).drop q) g [] [] (.f v [] []) D (λz hz f=>hD z (hok z (List.mem_of_mem_take (List.mem_of_mem_drop hz))) f) rfl rfl (by omega) (by rw[<-hql];omega)
    have hwl:=dC D fs ((cs.take k).drop q)
    change a7 _ _ _ [.o 111 5 (fH D fs ((cs.take k).drop q)).length 0 (cC (fH D fs ((cs.take k).drop q)))] at hwo
    generalize fH D fs ((cs.take k).drop q)=wfs at hwo hwl hsw
    injection hsw with hsw
    injection hsw with e1 e2
    subst e1 e2
    repeat (first|(with_reducible refine GA.go aa rfl ?_)|simp only[h0,hkpi,hpk,hq0,hq1,hq2,hq3,go_sem,simprocAttr])
    rw[hql]
    refine ab [] (fargs:=[.fs 5 fs.length (cC fs),.agg [.f g [] [],.f v [] []],.fs 5 ((cs.take k).drop q).length (cC ((cs.take k).drop q))]) ?_ hwo (by simp only[go_sem,simprocAttr]) ?_
    ·refine .cons (.rfl (by rfl)) (.cons (.rfl (by rfl)) (.cons (.fs (λi j hi hj=>?_)) .nil))
     unfold cC
     rw[List.getD_eq_getElem?_getD,List.getD_eq_getElem?_getD,List.getElem?_drop,List.getElem?_take_of_lt (by omega)]
    repeat (first|(with_reducible refine GA.go aa rfl ?_)|simp only[go_sem,simprocAttr])
    refine Wk.mk [4,2,1,0] [5] ?_ ?_ ?_
    ·simp only[aP,aR,go_sem,simprocAttr]
     repeat' refine ae ?_ ?_
     all_goals first|exact bB|skip
     exact Wv.cv (Cv.own (ty:=111) (z:=0) (by simp) (by simp only[go_sem,simprocAttr]) (λi j _ hj=>fX _ _ _ hj))
    ·refine .cons rfl (.ls) (.cons rfl (.k1) (.cons rfl (.k5) (.cons rfl (.ls) .nil)))
    ·simp
   ·rw[if_neg h5] at hsw
    cases op with
    |nil=>cases hsw
    |cons t r=>
    simp only at hsw
    have hrl:r.length<=k:=by simp only[List.length_cons] at hi2;omega
    have htl:=hi5 t (List.mem_cons_self ..)
    have hbo:=rF fs t (by omega) (by omega)
    have hbl:=jZ (dA) fs t
    change a7 _ _ _ [.o 111 5 (qh (dA) fs t).length 0 (cC (qh (dA) fs t))] at hbo
    generalize qh (dA) fs t=bfs at hbo hbl hsw
    injection hsw with hsw
    injection hsw with e1 e2
    subst e1 e2
    have hsub:((r.length+1:Nat):Int)-1=(r.length:Int):=by omega
    have hz0:(0:Int)<=(r.length:Int):=by omega
    have hz1:(r.length:Int)<((r.length+1:Nat):Int):=by omega
    have hz3:(r.length:Int)<=((r.length+1:Nat):Int):=by omega
    have hz2:r.length<r.length+1:=by omega
    have hg:(ar 113 1 (r.length+1) 0 (vm (t::r))).get r.length= .fs 5 t.length (cC t):=by
     rw[bX];exact jT _ _ _
    repeat (first|(with_reducible refine GA.go aa rfl ?_)|simp only[hsub,hz0,hz1,hz2,hz3,hg,Int.le_refl,go_sem,simprocAttr])
    refine ab [] (.cons (.rfl (by rfl)) (.cons (.rfl (by rfl)) .nil)) hbo (by simp only[go_sem,simprocAttr]) ?_
    repeat (first|(with_reducible refine GA.go aa rfl ?_)|simp only[go_sem,simprocAttr])
    refine Wk.mk [4,2,1,0] [5] ?_ ?_ ?_
    ·simp only[aP,aR,go_sem,simprocAttr]
     repeat' refine ae ?_ ?_
     all_goals first|exact bB|skip
     exact Wv.cv (Cv.own (ty:=111) (z:=0) (by simp) (by simp only[go_sem,simprocAttr]) (λi j _ hj=>fX _ _ _ hj))
    ·refine .cons rfl (.ls) (.cons rfl (.pop (n:=r.length+1) (by simp only[go_sem,simprocAttr]<;>rfl) rfl (by decide) (by omega) (λi j hi _=>iL _ _ _ _ hi) (λi j _ hj=>rfl)) (.cons rfl (.k5) (.cons rfl (.ls) .nil)))
    ·simp
  rw[if_neg h4] at hsw
  injection hsw with hsw
  injection hsw with e1 e2
  subst e1 e2
  repeat (first|(with_reducible refine GA.go aa rfl ?_)|simp only[h4,decide_false,go_sem,simprocAttr])
  refine Wk.mk [4,2,1,0] [] ?_ ?_ ?_
  ·simp only[aP,aR,go_sem,simprocAttr]
   repeat' refine ae ?_ ?_
   all_goals first|exact bB|skip
  ·refine .cons rfl (.ls) (.cons rfl (.k1) (.cons rfl (.k5) (.cons rfl (.ls) .nil)))
  ·simp
 ·have hkn:k=cs.length:=by omega
  subst hkn
  rw[List.drop_length,bS] at hs
  cases hs
  repeat (first|(with_reducible refine GA.go aa rfl ?_)|simp only[go_sem,simprocAttr])
  refine⟨[_],rfl,.o (x:=_) (by simp only[go_sem,simprocAttr];rfl) (by rfl) (by rfl) (by rfl) (by decide) (Nat.le_refl _) (Nat.le_refl _) (λi j _ hj=>aX i j hj) (λi j _ hj=>bj i hj) rfl .nil⟩
theorem km (l:List In) (g:FuncId) (c1 c2:List AV) (p:In->Bool) (hp:∀f ∈ l,a7 Tryz.prog g (c1++[aQ f]++c2) [.v (.b (p f))]) (hl:l.length<1000000) (hpu:(c1.all (AV.pu 2)&&c2.all (AV.pu 2))=true):
  a7 Tryz.prog 72 [.fs 5 l.length (cC l),.f g c1 c2] [.v (.n .i64 (cQ p l 0))]:=by
 refine ah aa FR ⟨by simp,by decide⟩ ?_
 simp only[aW]
 repeat (first|(with_reducible refine GA.go aa rfl ?_)|simp only[go_sem,simprocAttr])
 refine GA.loop (I:=λm e H=>∃k:Nat,m=l.length-k/\k<=l.length/\cQ p l 0=cQ p (l.drop k) k/\e=aI [(0,.fs 5 l.length (cC l)),(1,.f g c1 c2),(6,.fs 5 l.length (cC l)),(7,.n .i64 l.length),(8,.n .i64 k)]/\H=am []) (Wk.mk [] [] ?_ ?_ ?_) ⟨0,rfl,by omega,rfl,rfl,rfl⟩ ?_
 ·simp only[aP,aR,go_sem,simprocAttr]
  repeat' refine ae ?_ ?_
  all_goals first|exact bB|skip
  all_goals exact Wv.same hpu
 ·trivial
 ·decide
 rintro m e H ⟨k,rfl,hk,hs,rfl,rfl⟩
 repeat (first|(with_reducible refine GA.go aa rfl ?_)|simp only[go_sem,simprocAttr])
 refine⟨λh=>?_,λh=>?_⟩
 ·have hk':k<l.length:=by omega
  have h0:(0:Int)<=(k:Int):=by omega
  rw[bJ (d:=(0,0,0,0,0)) hk',cQ] at hs
  have hm:l.getD k (0,0,0,0,0) ∈ l:=by rw[List.getD_eq_getElem?_getD,List.getElem?_eq_getElem hk'];exact List.getElem_mem _
  repeat (first|(with_reducible refine GA.go aa rfl ?_)|simp only[h0,h,iu,kH,lX,lW,lu,go_sem,simprocAttr])
  refine ab [] (fargs:=c1++[aQ (l.getD k (0,0,0,0,0))]++c2) ?_ (hp _ hm) (by decide) ?_
  ·refine gY.same ?_
   simp only[List.all_append,Bool.and_eq_true] at hpu ⊢
   exact⟨⟨bR hpu.1,rfl⟩,bR hpu.2⟩
  repeat (first|(with_reducible refine GA.go aa rfl ?_)|simp only[go_sem,simprocAttr])
  refine⟨λh1=>?_,λh1=>?_⟩
  ·repeat (first|(with_reducible refine GA.go aa rfl ?_)|simp only[go_sem,simprocAttr])
   rw[if_pos h1] at hs
   exact ai (by rw[hs]) rfl
  ·repeat (first|(with_reducible refine GA.go aa rfl ?_)|simp only[go_sem,simprocAttr])
   rw[if_neg (by rw[h1];simp)] at hs
   refine⟨_,_,_,?_,Wk.mk [] [] ?_ ?_ ?_,k+1,rfl,by omega,hs,rfl,rfl⟩
   ·omega
   ·simp only[aP,aR,go_sem,simprocAttr]
    repeat' refine ae ?_ ?_
    all_goals first|exact bB|skip
    all_goals exact Wv.same hpu
   ·trivial
   ·decide
 ·repeat (first|(with_reducible refine GA.go aa rfl ?_)|simp only[go_sem,simprocAttr])
  have:k=l.length:=by omega
  subst this
  rw[List.drop_length,cQ] at hs
  exact ai (by rw[hs]) rfl
def dv (op:Int):Bool:=dW op||decide (op=3)||decide (op=32)||decide (op=33)
theorem gC (op:Int):a7 Tryz.prog 71 [.n .i64 op] [.v (.b (dv op))]:=by
 refine ah aa FX ⟨by simp,by decide⟩ ?_
 simp only[aW]
 repeat (first|(with_reducible refine GA.go aa rfl ?_)|simp only[go_sem,simprocAttr])
 refine ab [] (.cons (.rfl (by rfl)) .nil) (dN op) (by simp only[go_sem,simprocAttr]) ?_
 unfold dv
 cases ha:dW op
 ·by_cases h3:op=3
  ·repeat (first|(with_reducible refine GA.go aa rfl ?_)|simp only[h3,decide_true,go_sem,simprocAttr])
   exact ai rfl rfl
  ·by_cases h32:op=32
   ·have h3':¬(32:Int)=3:=by decide
    repeat (first|(with_reducible refine GA.go aa rfl ?_)|simp only[h32,h3',decide_true,decide_false,go_sem,simprocAttr])
    exact ai rfl rfl
   ·repeat (first|(with_reducible refine GA.go aa rfl ?_)|simp only[h3,h32,decide_false,go_sem,simprocAttr])
    exact ai (by simp) rfl
 ·repeat (first|(with_reducible refine GA.go aa rfl ?_)|simp only[go_sem,simprocAttr])
  exact ai rfl rfl
def ct (f x:In):Bool:=dA f (x.1,f.2.1,x.2.2.1,x.2.2.2.1,x.2.2.2.2)
theorem mD (f x:In):a7 Tryz.prog 74 [aQ f,aQ x] [.v (.b (ct f x))]:=by
 obtain⟨op,to,a,b,arg⟩:=x
 refine ah aa FF ⟨by simp,by decide⟩ ?_
 simp only[aW,aQ]
 repeat (first|(with_reducible refine GA.go aa rfl ?_)|simp only[mT,jQ,gw,mL,SH.row,go_sem,simprocAttr])
 refine ai ?_ rfl
 unfold ct
 rw[i8]
 simp
theorem mZ (f x:In) (row:Nat->AV) (hrow:∀j,j<5->row j=pX x j):a7 Tryz.prog 73 [aQ f,.fp 5 row 0] [.v (.b (ct f x))]:=by
 have hc:=mD f x
 obtain⟨op,to,a,b,arg⟩:=x
 refine ah aa FJ ⟨by simp,by decide⟩ ?_
 have h0:row 0= .n .i64 op:=hrow 0 (by decide)
 have h1:row 1= .n .i64 to:=hrow 1 (by decide)
 have h2:row 2= .n .i64 a:=hrow 2 (by decide)
 have h3:row 3= .n .i64 b:=hrow 3 (by decide)
 have h4:row 4= .n .u32 arg:=hrow 4 (by decide)
 simp only[aW,aQ] at hc ⊢
 repeat (first|(with_reducible refine GA.go aa rfl ?_)|simp only[h0,h1,h2,h3,h4,go_sem,simprocAttr])
 refine ab [] (.cons (.rfl (by rfl)) (.cons (.rfl (by rfl)) .nil)) hc (by simp only[go_sem,simprocAttr]) ?_
 repeat (first|(with_reducible refine GA.go aa rfl ?_)|simp only[go_sem,simprocAttr])
 exact ai rfl rfl
def jr (x f:In):Bool:=
 (decide (0<=bf x.1 x.2.1)&&(decide (bf x.1 x.2.1=f.2.1)||decide (bf x.1 x.2.1=f.2.2.1)||decide (bf x.1 x.2.1=f.2.2.2.1)))||(decide (x.1=4)&&decide (f.1=3)&&decide (x.2.2.2.2=f.2.2.2.2))
theorem ot (x f:In) (h:opOk x):a7 Tryz.prog 69 [aQ x,aQ f] [.v (.b (jr x f))]:=by
 obtain⟨op,to,a,b,arg⟩:=x
 obtain⟨fop,fto,fa,fb,farg⟩:=f
 have hw:=gg op to a b arg h
 unfold jr
 simp only
 generalize bf op to=w at hw ⊢
 refine ah aa Gd ⟨by simp,by decide⟩ ?_
 simp only[aW,aQ]
 repeat (first|(with_reducible refine GA.go aa rfl ?_)|simp only[go_sem,simprocAttr])
 refine ab [] (.cons (.rfl (by rfl)) .nil) hw (by simp only[go_sem,simprocAttr]) ?_
 cases d0:decide (0<=w)<;>cases d1:decide (w=fto)<;>cases d2:decide (w=fa)<;>cases d3:decide (w=fb)<;>cases d4:decide (op=4)<;>cases d5:decide (fop=3)
 all_goals
  repeat (first|(with_reducible refine GA.go aa rfl ?_)|simp only[d0,d1,d2,d3,d4,d5,go_sem,simprocAttr])
  first
   |exact ai (by simp only[Bool.and_true,Bool.true_and,Bool.false_and,Bool.and_false,Bool.or_true,Bool.true_or,Bool.false_or,Bool.or_false]) rfl
   |exact ai rfl rfl
def eH (x:In) (fs:List In):In×Bool×List In:=
 if dv x.1=true then
  (if 0<=cQ (λf=>ct f x) fs 0 then
   (if(fs.getD (cQ (λf=>ct f x) fs 0).toNat (0,0,0,0,0)).2.1=x.2.1 then(x,false,[]) else((36,x.2.1,(fs.getD (cQ (λf=>ct f x) fs 0).toNat (0,0,0,0,0)).2.1,-1,0),true,[]))
  else if x.2.1=x.2.2.1\/x.2.1=x.2.2.2.1 then(x,true,[]) else(x,true,[x]))
 else(x,true,[])
theorem oo (x:In) (fs:List In) (hl:fs.length<1000000):a7 Tryz.prog 70 [aQ x,.fs 5 fs.length (cC fs)] [.v (aQ (eH x fs).1),.v (.b (eH x fs).2.1),.v (.fs 5 (eH x fs).2.2.length (cC (eH x fs).2.2))]:=by
 have hif:=λrow (hrow:∀j,j<5->row j=pX x j)=>km fs 73 [] [.fp 5 row 0] (λf=>ct f x) (λf _=>mZ f x row hrow) hl rfl
 unfold eH
 have hx:=gC x.1
 generalize hq:cQ (λf=>ct f x) fs 0=q at hif ⊢
 have hqr:=ko (λf=>ct f x) fs 0
 rw[hq] at hqr
 obtain⟨op,to,a,b,arg⟩:=x
 simp only at hx ⊢
 cases he:dv op
 ·rw[he] at hx
  rw[if_neg (by simp)]
  refine fo ?_
  refine ah aa mV ⟨by simp,by decide⟩ ?_
  simp only[aW,aQ]
  repeat (first|(with_reducible refine GA.go aa rfl ?_)|simp only[go_sem,simprocAttr])
  refine ab [] (.cons (.rfl (by rfl)) .nil) hx (by simp only[go_sem,simprocAttr]) ?_
  repeat (first|(with_reducible refine GA.go aa rfl ?_)|simp only[go_sem,simprocAttr])
  exact bA (.v rfl rfl (.v rfl rfl (.v rfl rfl .nil)))
 ·rw[he] at hx
  rw[if_pos rfl]
  by_cases h0:0<=q
  ·rw[if_pos h0]
   obtain⟨p,rfl⟩:∃p:Nat,q=(p:Int):=⟨q.toNat,by omega⟩
   have hp1:(p:Int)<(fs.length:Int):=by omega
   rw[Int.toNat_natCast]
   have hc1:=kH fs p
   generalize (fs.getD p (0,0,0,0,0)).2.1=ft at hc1 ⊢
   by_cases h1:ft=to
   ·rw[if_pos h1]
    subst h1
    refine fo ?_
    refine ah aa mV ⟨by simp,by decide⟩ ?_
    simp only[aW,aQ]
    repeat (first|(with_reducible refine GA.go aa rfl ?_)|simp only[go_sem,simprocAttr])
    refine ab [] (.cons (.rfl (by rfl)) .nil) hx (by simp only[go_sem,simprocAttr]) ?_
    repeat (first|(with_reducible refine GA.go aa rfl ?_)|simp only[go_sem,simprocAttr])
    refine fu [0] (fargs:=[.fs 5 fs.length (cC fs),.f 73 [] [.fp 5 (λj=>[AV.n .i64 op,AV.n .i64 ft,AV.n .i64 a,AV.n .i64 b,AV.n .u32 arg][j]?.getD .u) 0]]) ?_ (hif _ (λj hj=>by rcases bZ hj with rfl|rfl|rfl|rfl|rfl<;>rfl)) (by simp only[go_sem,simprocAttr]) (λr hr=>by rw[List.mem_singleton.1 hr];rfl) ?_
    ·refine .cons (.rfl rfl) (.cons (.fn .nil (.cons ?_ .nil)) .nil)
     refine Cv.box (l:=[AV.n .i64 op,AV.n .i64 ft,AV.n .i64 a,AV.n .i64 b,AV.n .u32 arg]) (b:=0) rfl (x:=_) (by simp only[go_sem,simprocAttr];rfl) (by rfl) (by simp) (λj hj=>?_) rfl
     rcases bZ (by simpa using hj) with rfl|rfl|rfl|rfl|rfl<;>simp only[go_sem,simprocAttr]
    repeat (first|(with_reducible refine GA.go aa rfl ?_)|simp only[h0,hp1,hc1,decide_true,go_sem,simprocAttr])
    exact bA (.v rfl rfl (.v rfl rfl (.v rfl rfl .nil)))
   ·rw[if_neg h1]
    refine fo ?_
    refine ah aa mV ⟨by simp,by decide⟩ ?_
    simp only[aW,aQ]
    repeat (first|(with_reducible refine GA.go aa rfl ?_)|simp only[go_sem,simprocAttr])
    refine ab [] (.cons (.rfl (by rfl)) .nil) hx (by simp only[go_sem,simprocAttr]) ?_
    repeat (first|(with_reducible refine GA.go aa rfl ?_)|simp only[go_sem,simprocAttr])
    refine fu [0] (fargs:=[.fs 5 fs.length (cC fs),.f 73 [] [.fp 5 (λj=>[AV.n .i64 op,AV.n .i64 to,AV.n .i64 a,AV.n .i64 b,AV.n .u32 arg][j]?.getD .u) 0]]) ?_ (hif _ (λj hj=>by rcases bZ hj with rfl|rfl|rfl|rfl|rfl<;>rfl)) (by simp only[go_sem,simprocAttr]) (λr hr=>by rw[List.mem_singleton.1 hr];rfl) ?_
    ·refine .cons (.rfl rfl) (.cons (.fn .nil (.cons ?_ .nil)) .nil)
     refine Cv.box (l:=[AV.n .i64 op,AV.n .i64 to,AV.n .i64 a,AV.n .i64 b,AV.n .u32 arg]) (b:=0) rfl (x:=_) (by simp only[go_sem,simprocAttr];rfl) (by rfl) (by simp) (λj hj=>?_) rfl
     rcases bZ (by simpa using hj) with rfl|rfl|rfl|rfl|rfl<;>simp only[go_sem,simprocAttr]
    repeat (first|(with_reducible refine GA.go aa rfl ?_)|simp only[h0,hp1,hc1,h1,decide_true,decide_false,go_sem,simprocAttr])
    exact bA (.v rfl rfl (.v rfl rfl (.v rfl rfl .nil)))
  ·rw[if_neg h0]
   by_cases h2:to=a\/to=b
   ·rw[if_pos h2]
    refine fo ?_
    refine ah aa mV ⟨by simp,by decide⟩ ?_
    simp only[aW,aQ]
    repeat (first|(with_reducible refine GA.go aa rfl ?_)|simp only[go_sem,simprocAttr])
    refine ab [] (.cons (.rfl (by rfl)) .nil) hx (by simp only[go_sem,simprocAttr]) ?_
    repeat (first|(with_reducible refine GA.go aa rfl ?_)|simp only[go_sem,simprocAttr])
    refine fu [0] (fargs:=[.fs 5 fs.length (cC fs),.f 73 [] [.fp 5 (λj=>[AV.n .i64 op,AV.n .i64 to,AV.n .i64 a,AV.n .i64 b,AV.n .u32 arg][j]?.getD .u) 0]]) ?_ (hif _ (λj hj=>by rcases bZ hj with rfl|rfl|rfl|rfl|rfl<;>rfl)) (by simp only[go_sem,simprocAttr]) (λr hr=>by rw[List.mem_singleton.1 hr];rfl) ?_
    ·refine .cons (.rfl rfl) (.cons (.fn .nil (.cons ?_ .nil)) .nil)
     refine Cv.box (l:=[AV.n .i64 op,AV.n .i64 to,AV.n .i64 a,AV.n .i64 b,AV.n .u32 arg]) (b:=0) rfl (x:=_) (by simp only[go_sem,simprocAttr];rfl) (by rfl) (by simp) (λj hj=>?_) rfl
     rcases bZ (by simpa using hj) with rfl|rfl|rfl|rfl|rfl<;>simp only[go_sem,simprocAttr]
    cases d1:decide (to=a)<;>cases d2:decide (to=b)
    all_goals try (exact absurd h2 (by simp at d1 d2;omega))
    all_goals
     repeat (first|(with_reducible refine GA.go aa rfl ?_)|simp only[h0,decide_false,d1,d2,go_sem,simprocAttr])
     exact bA (.v rfl rfl (.v rfl rfl (.v rfl rfl .nil)))
   ·rw[if_neg h2]
    have d1:decide (to=a)=false:=by simp;omega
    have d2:decide (to=b)=false:=by simp;omega
    refine ah aa mV ⟨by simp,by decide⟩ ?_
    simp only[aW,aQ]
    repeat (first|(with_reducible refine GA.go aa rfl ?_)|simp only[go_sem,simprocAttr])
    refine ab [] (.cons (.rfl (by rfl)) .nil) hx (by simp only[go_sem,simprocAttr]) ?_
    repeat (first|(with_reducible refine GA.go aa rfl ?_)|simp only[go_sem,simprocAttr])
    refine fu [0] (fargs:=[.fs 5 fs.length (cC fs),.f 73 [] [.fp 5 (λj=>[AV.n .i64 op,AV.n .i64 to,AV.n .i64 a,AV.n .i64 b,AV.n .u32 arg][j]?.getD .u) 0]]) ?_ (hif _ (λj hj=>by rcases bZ hj with rfl|rfl|rfl|rfl|rfl<;>rfl)) (by simp only[go_sem,simprocAttr]) (λr hr=>by rw[List.mem_singleton.1 hr];rfl) ?_
    ·refine .cons (.rfl rfl) (.cons (.fn .nil (.cons ?_ .nil)) .nil)
     refine Cv.box (l:=[AV.n .i64 op,AV.n .i64 to,AV.n .i64 a,AV.n .i64 b,AV.n .u32 arg]) (b:=0) rfl (x:=_) (by simp only[go_sem,simprocAttr];rfl) (by rfl) (by simp) (λj hj=>?_) rfl
     rcases bZ (by simpa using hj) with rfl|rfl|rfl|rfl|rfl<;>simp only[go_sem,simprocAttr]
    repeat (first|(with_reducible refine GA.go aa rfl ?_)|simp only[h0,decide_false,d1,d2,go_sem,simprocAttr])
    refine GA.cut' (aI [(4,.p 0 0),(5,.b true),(6,.fs 5 1 (cC [(op,to,a,b,arg)]))]) (am [ax 0 37 [.n .i64 op,.n .i64 to,.n .i64 a,.n .i64 b,.n .u32 arg]]) ?_ ?_
    ·refine GA.frkm aa 1 (by simp only[eG,go_sem,simprocAttr]) ?_
     simp only[go_sem,simprocAttr]
     repeat' refine ae ?_ ?_
     all_goals first
      |decide
      |(refine Wk.mk [1] [2] ?_ ?_ ?_
        ·simp only[aP,go_sem,simprocAttr]
         repeat' refine ae ?_ ?_
         ·exact Wv.p rfl
         ·exact Wv.same rfl
         ·refine Wv.cv (Cv.sl (x:=_) (by simp) (by simp only[go_sem,simprocAttr];rfl) (by simp only[go_sem,simprocAttr];first|done|decide) (by decide) (by simp only[go_sem,simprocAttr];first|done|decide) (λi j hi hj=>?_) (λi j _ hj=>bj i hj))
          obtain rfl:i=0:=by omega
          rcases bZ hj with rfl|rfl|rfl|rfl|rfl<;>simp only[go_sem,simprocAttr]<;>rfl
        ·refine .cons rfl (.lsti (x:=_) (by simp only[go_sem,simprocAttr];rfl) (by rfl) (by rfl) (by rfl) (by rfl) (by rfl) (by rfl) (by simp) (λi hi=>?_) rfl) .nil
         rcases bZ hi with rfl|rfl|rfl|rfl|rfl<;>simp only[go_sem,simprocAttr]
        ·simp)
    ·repeat (first|(with_reducible refine GA.go aa rfl ?_)|simp only[go_sem,simprocAttr])
     exact bA (.v rfl rfl (.v rfl rfl (.v rfl rfl .nil)))
theorem pH (x:In) (fs:List In) (hx:opOk x):((eH x fs).2.2.length<=1/\∀f ∈ (eH x fs).2.2,True)/\opOk (eH x fs).1:=by
 refine⟨⟨?_,λ_ _=>trivial⟩,?_⟩
 ·unfold eH
  split
  ·split
   ·split<;>simp
   ·split<;>simp
  ·simp
 ·unfold eH
  split
  ·split
   ·split
    ·exact hx
    ·exact⟨by simp,by simp⟩
   ·split<;>exact hx
  ·exact hx
theorem qv {na:Nat} {ra:Nat->Nat->AV} {regs par:Int} {cs:List In} {pt:List Int} {fin:n5 In} (hcs:cs.length<400000) (hok:∀x ∈ cs,opOk x) (hpt:eh cs=some pt) (hptl:pt.length=cs.length)
  (hgo:bS jr dA eH cs pt cs 0 ⟨[],[],[]⟩=some fin):
  a7 Tryz.prog 41 [ag na ra regs par cs] [.o 37 5 fin.out.length 0 (cC fin.out)]:=by
 have hw:=qo (n0:=0) (pf:=λ_=>True) jr eH 69 70 cs [] pt fin (λx hx f=>ot x f hx) (λx hx fs hl _=>oo x fs hl) (λx hx fs _=>(pH x fs (hok x hx)).1) (λx hx fs _=>(pH x fs (hok x hx)).2) hcs hok (by simp) (by decide) (by simp) hpt hptl hgo
 refine ah aa Gu ⟨by simp,by decide⟩ ?_
 simp only[aW,ag]
 repeat (first|(with_reducible refine GA.go aa rfl ?_)|simp only[go_sem,simprocAttr])
 refine ab [] (fargs:=[.fs 5 cs.length (cC cs),.fs 5 ([]:List In).length (cC []),.agg [.f 69 [] [],.f 70 [] []]]) (.cons (.rfl (by rfl)) (.cons (.sl0 _ _) (.cons (.rfl (by rfl)) .nil))) hw (by simp only[go_sem,simprocAttr]) ?_
 repeat (first|(with_reducible refine GA.go aa rfl ?_)|simp only[go_sem,simprocAttr])
 refine⟨[_],rfl,.o (x:=_) (by simp only[go_sem,simprocAttr];rfl) (by rfl) (by rfl) (by rfl) (by decide) (Nat.le_refl _) (Nat.le_refl _) (λi j _ hj=>aX i j hj) (λi j _ hj=>bj i hj) rfl .nil⟩
end Go.Proofs.YtidhfimbnjaceaaGreat