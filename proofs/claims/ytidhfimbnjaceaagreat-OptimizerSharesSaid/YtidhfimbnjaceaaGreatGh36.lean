/- A part of the proof of OptimizerShares: PrC OpA OpB FvC. No condition. -/
import Derived.Test.YtidhfimbnjaceaaGreatGh17
import Derived.Test.YtidhfimbnjaceaaGreatGh35
import Derived.Test.YtidhfimbnjaceaaGreatGh13
import Derived.Test.YtidhfimbnjaceaaGreatGh10
set_option linter.unusedSimpArgs false
set_option linter.unusedVariables false
set_option linter.constructorNameAsVariable false
set_option maxRecDepth 100000
set_option maxHeartbeats 4000000
namespace Go.Proofs.YtidhfimbnjaceaaGreat
open Go.RowKit
def kp (op:Int):Bool:=dv op||decide (op=0)||decide (op=36)||decide (op=38)
def fm (L:Lv) (i:Nat) (x:In):Bool:= !kp x.1||L (i+1) x.2.1.toNat
def eg (L:Lv):List In->Nat->List In
 |[],_=>[]
 |x::l,i=>(if fm L i x=true then[x] else[])++eg L l (i+1)
def nP (cs:List In) (i d:Nat):List In:=cs.take i++cs.drop (i+d)
def MW (cs:List In) (i:Nat):Nat:=if(cs.getD i (0,0,0,0,0)).1=28 then 1 else 2
def kE:Nat->List In->List In
 |0,l=>l
 |f+1,l=>match kr l with
  |none=>l
  |some i=>kE f (nP l i (MW l i))
theorem nf (L:Lv):∀(l:List In) (i:Nat),(eg L l i).length<=l.length
 |[],_=>Nat.le_refl _
 |x::l,i=>by
  unfold eg
  rw[List.length_append,List.length_cons]
  have:=nf L l (i+1)
  split<;>simp<;>omega
theorem nF {cs:List In}:∀{f k i:Nat},jD cs f k=some i->i+1<cs.length
 |0,k,i,h=>by cases h
 |f+1,k,i,h=>by
  rw[jD] at h
  split at h
  ·rename_i hk
   split at h
   ·cases h;exact hk
   ·exact nF h
  ·cases h
theorem eb {cs:List In} {i d:Nat} (h:i+d<=cs.length):(nP cs i d).length=cs.length-d:=by
 unfold nP
 rw[List.length_append,List.length_take,List.length_drop]
 omega
def n8 (P:Program) (g:FuncId) (ty:TypeId):Prop:=∀(cs:List In) (i d b:Nat) (H:AH) (Q:AV->AH->Prop),cs.length<1000000->H.at b=some (ar ty 5 cs.length 0 (cC cs))->b<1000000->0<d->i+d<=cs.length->
 (∀x2:AB,x2.ty=ty->x2.esz=5->x2.opn=true->x2.live=true->x2.fzn=0->(cs.length-d)*5<=x2.size->(∀q j,q<cs.length-d->j<5->x2.get (q*5+j)=cC (nP cs i d) q j)->Q (.os b (cs.length-d)) (H.upd b x2))->n7 P g [.os b cs.length,.n .i64 i,.n .i64 ((i+d:Nat):Int)] H Q
theorem qF {na:Nat} {ra:Nat->Nat->AV} {regs:Nat} {par:Int} {cs:List In} {Lf:Lv} (hcs:cs.length<100000) (hr:regs<1000000) (hin:∀x ∈ cs,wJ regs x) (hto:∀x ∈ cs,kp x.1=true->0<=x.2.1/\x.2.1<regs)
  (hlv:a7 Tryz.prog 75 [ag na ra regs par cs] [.o 47 1 (cs.length+1) 0 (lC regs Lf)])
  (hdel:kr (eg Lf cs 0)≠none->n8 Tryz.prog 77 37):
  a7 Tryz.prog 47 [ag na ra regs par cs] [.o 37 5 (kE (eg Lf cs 0).length (eg Lf cs 0)).length 0 (cC (kE (eg Lf cs 0).length (eg Lf cs 0)))]:=by
 refine ah aa HC ⟨by simp,by decide⟩ ?_
 simp only[aW,ag] at hlv ⊢
 repeat (first|(with_reducible refine GA.go aa rfl ?_)|simp only[go_sem,simprocAttr])
 refine ab [] (.cons (.rfl (by rfl)) .nil) hlv (by simp only[go_sem,simprocAttr]) ?_
 simp only[go_sem,simprocAttr]
 refine GA.wk (Wk.mk (L:=[(1,.p 0 0),(3,.fs 1 (cs.length+1) (lC regs Lf))]) (bl:=[ax 0 25 [.fs 2 na ra,.n .i64 regs,.n .i64 par,.fs 5 cs.length (cC cs)]]) [0] [1] ?_ ?_ ?_) ?_
 ·simp only[aP,aR,go_sem,simprocAttr]
  repeat' refine ae ?_ ?_
  all_goals first|exact True.intro|exact Wv.same rfl|exact Wv.p rfl|skip
  refine Wv.cv (Cv.own (ty:=47) (z:=0) (by simp) (by simp only[go_sem,simprocAttr]) (λi j _ _=>rfl))
 ·refine .cons rfl (.ls) .nil
 ·simp
 with_reducible refine GA.seq ?_
 with_reducible refine GA.reg ?_
 simp only[go_sem,simprocAttr]
 refine GA.wk (Wk.nil 4 5 37 (by simp only[go_sem,simprocAttr]) (by decide) (by simp only[go_sem,simprocAttr])) ?_
 simp only[cr]
 repeat (first|(with_reducible refine GA.go aa rfl ?_)|simp only[go_sem,simprocAttr])
 refine GA.loop (I:=λmm e H=>∃(k:Nat) (out:List In),mm=cs.length-k/\k<=cs.length/\out.length<=k/\eg Lf cs 0=out++eg Lf (cs.drop k) k/\e=aI [(1,.p 0 0),(3,.fs 1 (cs.length+1) (lC regs Lf)),(4,.os 1 out.length),(14,.fs 5 cs.length (cC cs)),(15,.n .i64 cs.length),(16,.n .i64 k)]/\
   H=am [ar 37 5 out.length 0 (cC out),ax 0 25 [.fs 2 na ra,.n .i64 regs,.n .i64 par,.fs 5 cs.length (cC cs)]]) (Wk.mk [1,0] [] ?_ ?_ ?_) ⟨0,[],rfl,by omega,by simp,by simp,rfl,rfl⟩ ?_
 ·simp only[aP,aR,go_sem,simprocAttr]
  repeat' refine ae ?_ ?_
  all_goals first|exact dX|skip
 ·refine .cons rfl (.rows (by simp only[go_sem,simprocAttr];rfl) rfl rfl rfl (by simp) (by decide) (by decide) (λi j h=>by simp at h) (λi j h=>by simp at h)) (.cons rfl (.ls) .nil)
 ·simp
 rintro mm e H ⟨k,out,rfl,hk,hol,hs,rfl,rfl⟩
 repeat (first|(with_reducible refine GA.go aa rfl ?_)|simp only[go_sem,simprocAttr])
 refine⟨λh=>?_,λh=>?_⟩
 ·have hkn:k<cs.length:=by omega
  have h0:(0:Int)<=(k:Int):=by omega
  have hm:cs.getD k (0,0,0,0,0) ∈ cs:=by rw[List.getD_eq_getElem?_getD,List.getElem?_eq_getElem hkn];exact List.getElem_mem _
  rw[bJ (d:=(0,0,0,0,0)) hkn,eg] at hs
  have hcc0:=iu cs k
  have hcc1:=kH cs k
  have hcc2:=lX cs k
  have hcc3:=lW cs k
  have hcc4:=lu cs k
  have hxt:=hto _ hm
  generalize cs.getD k (0,0,0,0,0)=x at hs hm hxt hcc0 hcc1 hcc2 hcc3 hcc4
  obtain⟨op,to,a,b,arg⟩:=x
  simp only at hs hxt hcc0 hcc1 hcc2 hcc3 hcc4
  have hlim:(out.length+1)*5<1099511627776/\(out.length+1)*40<=140737488355328/\out.length+1<=9223372036854775807:=by omega
  have hkeep:fm Lf k (op,to,a,b,arg)=(!kp op||Lf (k+1) to.toNat):=rfl
  have hid:kp op=(dv op||decide (op=0)||decide (op=36)||decide (op=38)):=rfl
  have hw:IntKind.wrap .i64 ((k:Int)+1)=((k+1:Nat):Int):=by rw[cG (by omega)];omega
  repeat (first|(with_reducible refine GA.go aa rfl ?_)|simp only[h0,h,hcc0,hcc1,hcc2,hcc3,hcc4,go_sem,simprocAttr])
  refine ab [] (.cons (.rfl (by rfl)) .nil) (gC op) (by simp only[go_sem,simprocAttr]) ?_
  have fin1:∀(hk1:fm Lf k (op,to,a,b,arg)=true),eg Lf cs 0=(out++[(op,to,a,b,arg)])++eg Lf (cs.drop (k+1)) (k+1):=λhk1=>by
   rw[hs,if_pos hk1,List.append_assoc]
  have fin0:∀(hk1:fm Lf k (op,to,a,b,arg)=false),eg Lf cs 0=out++eg Lf (cs.drop (k+1)) (k+1):=λhk1=>by
   rw[hs,if_neg (by rw[hk1];simp),List.nil_append]
  generalize hkv:fm Lf k (op,to,a,b,arg)=kv at hkeep fin1 fin0
  cases hi:kp op
  ·rw[hi] at hid hkeep
   simp only[Bool.not_false,Bool.true_or] at hkeep
   have d:dv op=false/\decide (op=0)=false/\decide (op=36)=false/\decide (op=38)=false:=by
    cases h1:dv op<;>cases h2:decide (op=0)<;>cases h3:decide (op=36)<;>cases h4:decide (op=38)<;>simp[h1,h2,h3,h4] at hid ⊢
   rw[d.1]
   repeat (first|(with_reducible refine GA.go aa rfl ?_)|simp only[d.2.1,d.2.2.1,d.2.2.2,hlim.1,hlim.2.1,hlim.2.2,decide_true,go_sem,simprocAttr])
   refine⟨_,_,_,?_,Wk.mk [4,0] [] ?_ ?_ ?_,k+1,out++[(op,to,a,b,arg)],rfl,by omega,by simp;omega,fin1 hkeep,rfl,rfl⟩
   ·omega
   ·simp only[aP,aR,go_sem,simprocAttr]
    repeat' refine ae ?_ ?_
    all_goals first|exact dX|skip
   ·rw[show(out++[(op,to,a,b,arg)]).length=out.length+1 from by simp]
    refine .cons rfl (.snoc (by simp only[go_sem,simprocAttr]<;>rfl) (by simp) (by rfl) rfl (by decide) (by omega) (λi j hi _=>by unfold cC;rw[aK hi]) (λj hj=>by
     unfold cC
     rw[aL]
     rcases bZ hj with rfl|rfl|rfl|rfl|rfl<;>rfl) (λi j _ hj=>by rcases bZ hj with rfl|rfl|rfl|rfl|rfl<;>rfl)) (.cons rfl (.ls) .nil)
   ·simp
  ·rw[hi] at hid hkeep
   obtain⟨ht0,ht1⟩:=hxt hi
   obtain⟨q,rfl⟩:∃q:Nat,to=(q:Int):=⟨to.toNat,by omega⟩
   simp only[Bool.not_true,Bool.false_or,Int.toNat_natCast] at hkeep
   have e1:lC regs Lf (k+1) 0= .fs 1 regs (bF (Lf (k+1))):=rfl
   have e2:bF (Lf (k+1)) q 0= .b (Lf (k+1) q):=rfl
   have hq0:(0:Int)<=((k+1:Nat):Int):=by omega
   have hq1:((k+1:Nat):Int)<((cs.length+1:Nat):Int):=by omega
   have hq2:(0:Int)<=(q:Int):=ht0
   have hq3:(q:Int)<(regs:Int):=ht1
   have alt:dv op=true\/(dv op=false/\decide (op=0)=true)\/(dv op=false/\decide (op=0)=false/\decide (op=36)=true)\/(dv op=false/\decide (op=0)=false/\decide (op=36)=false/\decide (op=38)=true):=by
    cases h1:dv op<;>cases h2:decide (op=0)<;>cases h3:decide (op=36)<;>cases h4:decide (op=38)<;>simp[h1,h2,h3,h4] at hid ⊢
   rcases alt with h1|⟨h1,h2⟩|⟨h1,h2,h3⟩|⟨h1,h2,h3,h4⟩
   ·rw[h1]
    cases hv:Lf (k+1) q
    ·have hkk:fm Lf k (op,(q:Int),a,b,arg)=false:=by rw[hkv,hkeep,hv]
     rw[hv] at e2
     repeat (first|(with_reducible refine GA.go aa rfl ?_)|simp only[h1,hq0,hq1,hq2,hq3,e1,e2,hw,go_sem,simprocAttr])
     refine⟨_,_,_,?_,Wk.mk [1,0] [] ?_ ?_ ?_,k+1,out,rfl,by omega,by omega,fin0 (by rw[<-hkv];exact hkk),rfl,rfl⟩
     ·omega
     ·simp only[aP,aR,go_sem,simprocAttr]
      repeat' refine ae ?_ ?_
      all_goals first|exact dX|skip
     ·refine .cons rfl (.k5) (.cons rfl (.ls) .nil)
     ·simp
    ·have hkk:fm Lf k (op,(q:Int),a,b,arg)=true:=by rw[hkv,hkeep,hv]
     rw[hv] at e2
     repeat (first|(with_reducible refine GA.go aa rfl ?_)|simp only[h1,hq0,hq1,hq2,hq3,e1,e2,hw,hlim.1,hlim.2.1,hlim.2.2,decide_true,go_sem,simprocAttr])
     refine⟨_,_,_,?_,Wk.mk [4,0] [] ?_ ?_ ?_,k+1,out++[(op,(q:Int),a,b,arg)],rfl,by omega,by simp;omega,fin1 (by rw[<-hkv];exact hkk),rfl,rfl⟩
     ·omega
     ·simp only[aP,aR,go_sem,simprocAttr]
      repeat' refine ae ?_ ?_
      all_goals first|exact dX|skip
     ·rw[show(out++[(op,(q:Int),a,b,arg)]).length=out.length+1 from by simp]
      refine .cons rfl (.snoc (by simp only[go_sem,simprocAttr]<;>rfl) (by simp) (by rfl) rfl (by decide) (by omega) (λi j hi _=>by unfold cC;rw[aK hi]) (λj hj=>by
       unfold cC
       rw[aL]
       rcases bZ hj with rfl|rfl|rfl|rfl|rfl<;>rfl) (λi j _ hj=>by rcases bZ hj with rfl|rfl|rfl|rfl|rfl<;>rfl)) (.cons rfl (.ls) .nil)
     ·simp
   ·rw[h1]
    cases hv:Lf (k+1) q
    ·have hkk:fm Lf k (op,(q:Int),a,b,arg)=false:=by rw[hkv,hkeep,hv]
     rw[hv] at e2
     repeat (first|(with_reducible refine GA.go aa rfl ?_)|simp only[h2,hq0,hq1,hq2,hq3,e1,e2,hw,go_sem,simprocAttr])
     refine⟨_,_,_,?_,Wk.mk [1,0] [] ?_ ?_ ?_,k+1,out,rfl,by omega,by omega,fin0 (by rw[<-hkv];exact hkk),rfl,rfl⟩
     ·omega
     ·simp only[aP,aR,go_sem,simprocAttr]
      repeat' refine ae ?_ ?_
      all_goals first|exact dX|skip
     ·refine .cons rfl (.k5) (.cons rfl (.ls) .nil)
     ·simp
    ·have hkk:fm Lf k (op,(q:Int),a,b,arg)=true:=by rw[hkv,hkeep,hv]
     rw[hv] at e2
     repeat (first|(with_reducible refine GA.go aa rfl ?_)|simp only[h2,hq0,hq1,hq2,hq3,e1,e2,hw,hlim.1,hlim.2.1,hlim.2.2,decide_true,go_sem,simprocAttr])
     refine⟨_,_,_,?_,Wk.mk [4,0] [] ?_ ?_ ?_,k+1,out++[(op,(q:Int),a,b,arg)],rfl,by omega,by simp;omega,fin1 (by rw[<-hkv];exact hkk),rfl,rfl⟩
     ·omega
     ·simp only[aP,aR,go_sem,simprocAttr]
      repeat' refine ae ?_ ?_
      all_goals first|exact dX|skip
     ·rw[show(out++[(op,(q:Int),a,b,arg)]).length=out.length+1 from by simp]
      refine .cons rfl (.snoc (by simp only[go_sem,simprocAttr]<;>rfl) (by simp) (by rfl) rfl (by decide) (by omega) (λi j hi _=>by unfold cC;rw[aK hi]) (λj hj=>by
       unfold cC
       rw[aL]
       rcases bZ hj with rfl|rfl|rfl|rfl|rfl<;>rfl) (λi j _ hj=>by rcases bZ hj with rfl|rfl|rfl|rfl|rfl<;>rfl)) (.cons rfl (.ls) .nil)
     ·simp
   ·rw[h1]
    cases hv:Lf (k+1) q
    ·have hkk:fm Lf k (op,(q:Int),a,b,arg)=false:=by rw[hkv,hkeep,hv]
     rw[hv] at e2
     repeat (first|(with_reducible refine GA.go aa rfl ?_)|simp only[h2,h3,hq0,hq1,hq2,hq3,e1,e2,hw,go_sem,simprocAttr])
     refine⟨_,_,_,?_,Wk.mk [1,0] [] ?_ ?_ ?_,k+1,out,rfl,by omega,by omega,fin0 (by rw[<-hkv];exact hkk),rfl,rfl⟩
     ·omega
     ·simp only[aP,aR,go_sem,simprocAttr]
      repeat' refine ae ?_ ?_
      all_goals first|exact dX|skip
     ·refine .cons rfl (.k5) (.cons rfl (.ls) .nil)
     ·simp
    ·have hkk:fm Lf k (op,(q:Int),a,b,arg)=true:=by rw[hkv,hkeep,hv]
     rw[hv] at e2
     repeat (first|(with_reducible refine GA.go aa rfl ?_)|simp only[h2,h3,hq0,hq1,hq2,hq3,e1,e2,hw,hlim.1,hlim.2.1,hlim.2.2,decide_true,go_sem,simprocAttr])
     refine⟨_,_,_,?_,Wk.mk [4,0] [] ?_ ?_ ?_,k+1,out++[(op,(q:Int),a,b,arg)],rfl,by omega,by simp;omega,fin1 (by rw[<-hkv];exact hkk),rfl,rfl⟩
     ·omega
     ·simp only[aP,aR,go_sem,simprocAttr]
      repeat' refine ae ?_ ?_
      all_goals first|exact dX|skip
     ·rw[show(out++[(op,(q:Int),a,b,arg)]).length=out.length+1 from by simp]
      refine .cons rfl (.snoc (by simp only[go_sem,simprocAttr]<;>rfl) (by simp) (by rfl) rfl (by decide) (by omega) (λi j hi _=>by unfold cC;rw[aK hi]) (λj hj=>by
       unfold cC
       rw[aL]
       rcases bZ hj with rfl|rfl|rfl|rfl|rfl<;>rfl) (λi j _ hj=>by rcases bZ hj with rfl|rfl|rfl|rfl|rfl<;>rfl)) (.cons rfl (.ls) .nil)
     ·simp
   ·rw[h1]
    cases hv:Lf (k+1) q
    ·have hkk:fm Lf k (op,(q:Int),a,b,arg)=false:=by rw[hkv,hkeep,hv]
     rw[hv] at e2
     repeat (first|(with_reducible refine GA.go aa rfl ?_)|simp only[h2,h3,h4,hq0,hq1,hq2,hq3,e1,e2,hw,go_sem,simprocAttr])
     refine⟨_,_,_,?_,Wk.mk [1,0] [] ?_ ?_ ?_,k+1,out,rfl,by omega,by omega,fin0 (by rw[<-hkv];exact hkk),rfl,rfl⟩
     ·omega
     ·simp only[aP,aR,go_sem,simprocAttr]
      repeat' refine ae ?_ ?_
      all_goals first|exact dX|skip
     ·refine .cons rfl (.k5) (.cons rfl (.ls) .nil)
     ·simp
    ·have hkk:fm Lf k (op,(q:Int),a,b,arg)=true:=by rw[hkv,hkeep,hv]
     rw[hv] at e2
     repeat (first|(with_reducible refine GA.go aa rfl ?_)|simp only[h2,h3,h4,hq0,hq1,hq2,hq3,e1,e2,hw,hlim.1,hlim.2.1,hlim.2.2,decide_true,go_sem,simprocAttr])
     refine⟨_,_,_,?_,Wk.mk [4,0] [] ?_ ?_ ?_,k+1,out++[(op,(q:Int),a,b,arg)],rfl,by omega,by simp;omega,fin1 (by rw[<-hkv];exact hkk),rfl,rfl⟩
     ·omega
     ·simp only[aP,aR,go_sem,simprocAttr]
      repeat' refine ae ?_ ?_
      all_goals first|exact dX|skip
     ·rw[show(out++[(op,(q:Int),a,b,arg)]).length=out.length+1 from by simp]
      refine .cons rfl (.snoc (by simp only[go_sem,simprocAttr]<;>rfl) (by simp) (by rfl) rfl (by decide) (by omega) (λi j hi _=>by unfold cC;rw[aK hi]) (λj hj=>by
       unfold cC
       rw[aL]
       rcases bZ hj with rfl|rfl|rfl|rfl|rfl<;>rfl) (λi j _ hj=>by rcases bZ hj with rfl|rfl|rfl|rfl|rfl<;>rfl)) (.cons rfl (.ls) .nil)
     ·simp
 ·have hkn:k=cs.length:=by omega
  subst hkn
  rw[List.drop_length,eg,List.append_nil] at hs
  rw[hs] at hdel ⊢
  generalize hR:kE out.length out=R
  repeat (first|(with_reducible refine GA.go aa rfl ?_)|simp only[go_sem,simprocAttr])
  refine GA.loop (I:=λmm e H=>∃(f:Nat) (l:List In),mm=f/\l.length<=f/\l.length<1000000/\kE f l=R/\(kr l≠none->n8 Tryz.prog 77 37)/\e=aI [(4,.os 0 l.length)]/\H=am [ar 37 5 l.length 0 (cC l)]) (Wk.mk [1] [] ?_ ?_ ?_) ⟨out.length,out,rfl,Nat.le_refl _,by omega,hR,hdel,rfl,rfl⟩ ?_
  ·simp only[aP,aR,go_sem,simprocAttr]
   repeat' refine ae ?_ ?_
   all_goals first|exact dX|skip
  ·refine .cons rfl (.k5) .nil
  ·simp
  rintro mm e H ⟨f,l,rfl,hlf,hll,hd,hdl,rfl,rfl⟩
  repeat (first|(with_reducible refine GA.go aa rfl ?_)|simp only[go_sem,simprocAttr])
  refine fu [0] (fargs:=[.fs 5 l.length (cC l)]) (.cons (Cv.own (ty:=37) (z:=0) (by simp) (by simp only[go_sem,simprocAttr]<;>rfl) (λ_ _ _ hj=>bj _ hj)) .nil) (oT l hll) (by simp only[go_sem,simprocAttr]) ?_ ?_
  ·intro r hr
   unfold vU at hr
   split at hr<;>(simp only[List.mem_cons,List.not_mem_nil,or_false] at hr;rcases hr with rfl|rfl<;>rfl)
  cases hh:kr l with
  |none=>
   have hRl:l=R:=by
    rw[<-hd]
    cases mm with
    |zero=>rfl
    |succ f=>rw[kE,hh]
   subst hRl
   simp only[vU]
   repeat (first|(with_reducible refine GA.go aa rfl ?_)|simp only[go_sem,simprocAttr])
   refine⟨[_],rfl,.o (x:=_) (by simp only[go_sem,simprocAttr];rfl) (by rfl) (by rfl) (by rfl) (by decide) (Nat.le_refl _) (Nat.le_refl _) (λi j _ hj=>aX i j hj) (λi j _ hj=>bj i hj) rfl .nil⟩
  |some i=>
   have hil:=nF hh
   obtain⟨f,rfl⟩:∃f,mm=f+1:=⟨mm-1,by omega⟩
   rw[kE,hh] at hd
   simp only at hd
   have hDel:=hdl (by rw[hh];simp)
   have hg:(ar 37 5 l.length 0 (cC l)).get (i*5)= .n .i64 (l.getD i (0,0,0,0,0)).1:=by
    have:=aX (ty:=37) (n:=l.length) (z:=0) (row:=cC l) i 0 (by decide:0<5)
    exact this
   have hi0:(0:Int)<=(i:Int):=by omega
   have hi1:(i:Int)<(l.length:Int):=by omega
   have hi2:i*5<l.length*5:=by omega
   have hw1:IntKind.wrap .i64 ((i:Int)+1)=((i+1:Nat):Int):=by rw[cG (by omega)];omega
   have hw2:IntKind.wrap .i64 ((i:Int)+2)=((i+2:Nat):Int):=by rw[cG (by omega)];omega
   unfold MW at hd
   generalize (l.getD i (0,0,0,0,0)).1=op at hg hd
   simp only[vU]
   repeat (first|(with_reducible refine GA.go aa rfl ?_)|simp only[hi0,hi1,hi2,hg,go_sem,simprocAttr])
   refine⟨λh1=>?_,λh1=>?_⟩
   ·rw[if_pos h1] at hd
    repeat (first|(with_reducible refine GA.go aa rfl ?_)|simp only[hw1,go_sem,simprocAttr])
    refine hDel l i 1 0 _ _ hll (by simp only[go_sem,simprocAttr]) (by decide) (by decide) (by omega) (λx2 q1 q2 q3 q4 q5 q6 q7=>?_)
    repeat (first|(with_reducible refine GA.go aa rfl ?_)|simp only[go_sem,simprocAttr])
    refine⟨_,_,_,?_,Wk.mk [0] [] ?_ ?_ ?_,f,nP l i 1,rfl,by rw[eb (by omega)];omega,by rw[eb (by omega)];omega,hd,λ_=>hDel,rfl,rfl⟩
    ·omega
    ·rw[eb (by omega)]
     simp only[aP,aR,go_sem,simprocAttr]
     repeat' refine ae ?_ ?_
     all_goals first|exact dX|skip
    ·rw[eb (by omega)]
     refine .cons rfl (.rows (x:=x2) (by simp only[q4,go_sem,simprocAttr]) q1 q2 q3 q6 (by simp[q5]) (by decide) q7 (λi j _ hj=>by rcases bZ hj with rfl|rfl|rfl|rfl|rfl<;>rfl)) .nil
    ·simp
   ·rw[if_neg h1] at hd
    repeat (first|(with_reducible refine GA.go aa rfl ?_)|simp only[hw2,go_sem,simprocAttr])
    refine hDel l i 2 0 _ _ hll (by simp only[go_sem,simprocAttr]) (by decide) (by decide) (by omega) (λx2 q1 q2 q3 q4 q5 q6 q7=>?_)
    repeat (first|(with_reducible refine GA.go aa rfl ?_)|simp only[go_sem,simprocAttr])
    refine⟨_,_,_,?_,Wk.mk [0] [] ?_ ?_ ?_,f,nP l i 2,rfl,by rw[eb (by omega)];omega,by rw[eb (by omega)];omega,hd,λ_=>hDel,rfl,rfl⟩
    ·omega
    ·rw[eb (by omega)]
     simp only[aP,aR,go_sem,simprocAttr]
     repeat' refine ae ?_ ?_
     all_goals first|exact dX|skip
    ·rw[eb (by omega)]
     refine .cons rfl (.rows (x:=x2) (by simp only[q4,go_sem,simprocAttr]) q1 q2 q3 q6 (by simp[q5]) (by decide) q7 (λi j _ hj=>by rcases bZ hj with rfl|rfl|rfl|rfl|rfl<;>rfl)) .nil
    ·simp
def vq:List In->List In->Bool
 |[],[]=>true
 |x::l,y::m=>dA x y&&vq l m
 |_,_=>false
theorem pZ:∀{l m:List In},¬l.length=m.length->vq l m=false
 |[],[],h=>absurd rfl h
 |[],_::_,_=>rfl
 |_::_,[],_=>rfl
 |x::l,y::m,h=>by
  rw[vq,pZ (by simpa using h),Bool.and_false]
theorem o6 (l m:List In) (hl:l.length<1000000):a7 Tryz.prog 53 [.fs 5 l.length (cC l),.fs 5 m.length (cC m)] [.v (.b (vq l m))]:=by
 by_cases hlm:l.length=m.length
 ·have hll:(l.length:Int)=(m.length:Int):=by omega
  refine ah aa wK ⟨by simp,by decide⟩ ?_
  simp only[aW]
  repeat (first|(with_reducible refine GA.go aa rfl ?_)|simp only[hll,decide_true,go_sem,simprocAttr])
  refine GA.loop (I:=λmm e H=>∃k:Nat,mm=l.length-k/\k<=l.length/\vq l m=vq (l.drop k) (m.drop k)/\e=aI [(0,.fs 5 l.length (cC l)),(1,.fs 5 m.length (cC m)),(11,.fs 5 l.length (cC l)),(12,.n .i64 m.length),(13,.n .i64 k)]/\H=am []) (Wk.mk [] [] ?_ ?_ ?_) ⟨0,rfl,by omega,rfl,rfl,rfl⟩ ?_
  ·simp only[aP,aR,go_sem,simprocAttr]
   repeat' refine ae ?_ ?_
   all_goals first|exact dX|skip
  ·exact True.intro
  ·simp
  rintro mm e H ⟨k,rfl,hk,hs,rfl,rfl⟩
  repeat (first|(with_reducible refine GA.go aa rfl ?_)|simp only[go_sem,simprocAttr])
  refine⟨λh=>?_,λh=>?_⟩
  ·have hk':k<l.length:=by omega
   have hkm:k<m.length:=by omega
   have h0:(0:Int)<=(k:Int):=by omega
   have h2:(k:Int)<(m.length:Int):=by omega
   have h3:(k:Int)<(l.length:Int):=by omega
   rw[bJ (d:=(0,0,0,0,0)) hk',bJ (d:=(0,0,0,0,0)) hkm,vq] at hs
   have c0:=iu l k
   have c1:=kH l k
   have c2:=lX l k
   have c3:=lW l k
   have c4:=lu l k
   have e0:=iu m k
   have e1:=kH m k
   have e2:=lX m k
   have e3:=lW m k
   have e4:=lu m k
   generalize l.getD k (0,0,0,0,0)=x at hs c0 c1 c2 c3 c4
   generalize m.getD k (0,0,0,0,0)=y at hs e0 e1 e2 e3 e4
   have hxy:=i8 x y
   repeat (first|(with_reducible refine GA.go aa rfl ?_)|simp only[h0,h,h2,h3,hll,c0,c1,c2,c3,c4,e0,e1,e2,e3,e4,mT,jQ,gw,mL,SH.row,go_sem,simprocAttr])
   refine⟨λh1=>?_,λh1=>?_⟩
   ·have he:dA x y=false:=by
     rw[hxy]
     first
      |exact h1
      |simpa using h1
    rw[he,Bool.false_and] at hs
    repeat (first|(with_reducible refine GA.go aa rfl ?_)|simp only[go_sem,simprocAttr])
    exact ai (by rw[hs]) rfl
   ·have he:dA x y=true:=by
     rw[hxy]
     first
      |exact h1
      |simpa using h1
    rw[he,Bool.true_and] at hs
    repeat (first|(with_reducible refine GA.go aa rfl ?_)|simp only[go_sem,simprocAttr])
    refine⟨_,_,_,?_,Wk.mk [] [] ?_ ?_ ?_,k+1,rfl,by omega,hs,rfl,rfl⟩
    ·omega
    ·simp only[aP,aR,go_sem,simprocAttr]
     repeat' refine ae ?_ ?_
     all_goals first|exact dX|skip
    ·exact True.intro
    ·simp
  ·have:k=l.length:=by omega
   rw[this,List.drop_length,hlm,List.drop_length] at hs
   repeat (first|(with_reducible refine GA.go aa rfl ?_)|simp only[go_sem,simprocAttr])
   exact ai (by rw[hs];rfl) rfl
 ·have hll:¬((l.length:Int)=(m.length:Int)):=by omega
  have hf:vq l m=false:=pZ hlm
  refine ah aa wK ⟨by simp,by decide⟩ ?_
  simp only[aW]
  repeat (first|(with_reducible refine GA.go aa rfl ?_)|simp only[hll,decide_false,go_sem,simprocAttr])
  exact ai (by rw[hf]) rfl
def kX (p:List In->List In):Nat->List In->List In
 |0,c=>c
 |f+1,c=>if vq c (p c)=true then c else kX p f (p c)
def mP (na:Nat) (ra:Nat->Nat->AV) (regs:Nat) (par:Int) (Good:List In->Prop) (g:FuncId) (p:List In->List In):Prop:=
 ∀c,Good c->a7 Tryz.prog g [ag na ra regs par c] [.v (.fs 5 (p c).length (cC (p c)))]/\Good (p c)
def em (p1 p2 p3 p4:List In->List In):Nat->List In->List In
 |0,c=>c
 |1,c=>p1 c
 |2,c=>p2 (p1 c)
 |3,c=>p3 (p2 (p1 c))
 |_,c=>p4 (p3 (p2 (p1 c)))
theorem oJ {i:Nat} (h:i<4):i=0\/i=1\/i=2\/i=3:=by omega
theorem sM {na:Nat} {ra:Nat->Nat->AV} {regs:Nat} {par:Int} {cs:List In} {Good:List In->Prop} {p1 p2 p3 p4:List In->List In} (hna:na<1000000) (hra:∀i j,i<na->j<2->(ra i j).cell=true)
  (hlen:∀c,Good c->c.length<1000000) (h1:mP na ra regs par Good 25 p1) (h2:mP na ra regs par Good 36 p2) (h3:mP na ra regs par Good 41 p3) (h4:mP na ra regs par Good 47 p4) (hg:Good cs):
  a7 Tryz.prog 51 [ag na ra regs par cs] [.v (.fs 5 (kX (λc=>p4 (p3 (p2 (p1 c)))) 8 cs).length (cC (kX (λc=>p4 (p3 (p2 (p1 c)))) 8 cs)))]:=by
 generalize hR:kX (λc=>p4 (p3 (p2 (p1 c)))) 8 cs=R
 have hgood:∀k c,Good c->Good (em p1 p2 p3 p4 k c):=λk c hc=>by
  match k with
  |0=>exact hc
  |1=>exact(h1 c hc).2
  |2=>exact(h2 _ (h1 c hc).2).2
  |3=>exact(h3 _ (h2 _ (h1 c hc).2).2).2
  |k+4=>exact(h4 _ (h3 _ (h2 _ (h1 c hc).2).2).2).2
 refine ah aa DH ⟨by simp,by decide⟩ ?_
 simp only[aW,ag]
 repeat (first|(with_reducible refine GA.go aa rfl ?_)|simp only[go_sem,simprocAttr])
 refine GA.loop (I:=λmm e H=>∃(f:Nat) (k:Nat) (c:List In),mm=f/\k+f=8/\Good c/\kX (λc=>p4 (p3 (p2 (p1 c)))) f c=R/\e=aI [(1,.p 0 0),(6,.n .i64 k)]/\H=am [ax 0 25 [.fs 2 na ra,.n .i64 regs,.n .i64 par,.fs 5 c.length (cC c)]]) (Wk.mk [0] [] ?_ ?_ ?_) ⟨8,0,cs,rfl,rfl,hg,hR,rfl,rfl⟩ ?_
 ·simp only[aP,aR,go_sem,simprocAttr]
  repeat' refine ae ?_ ?_
  all_goals first|exact dX|skip
 ·exact .cons rfl (.ls) .nil
 ·simp
 rintro mm e H ⟨f,k,c,rfl,hkf,hc,hr,rfl,rfl⟩
 repeat (first|(with_reducible refine GA.go aa rfl ?_)|simp only[go_sem,simprocAttr])
 refine⟨λh=>?_,λh=>?_⟩
 rotate_left
 ·have hf0:mm=0:=by omega
  subst hf0
  rw[kX] at hr
  subst hr
  repeat (first|(with_reducible refine GA.go aa rfl ?_)|simp only[go_sem,simprocAttr])
  exact ai rfl rfl
 obtain⟨f,rfl⟩:∃f,mm=f+1:=⟨mm-1,by omega⟩
 rw[kX] at hr
 repeat (first|(with_reducible refine GA.go aa rfl ?_)|simp only[go_sem,simprocAttr])
 refine GA.loop (I:=λmm e H=>∃q:Nat,mm=4-q/\q<=4/\e=aI [(1,.p 0 0),(3,.p 1 0),(6,.n .i64 k),(9,.sl 2 0 4 4),(10,.n .i64 4),(11,.n .i64 q)]/\H=am [ax 1 40 [.f 25 [] [],.f 36 [] [],.f 41 [] [],.f 47 [] []],
   ax 0 25 [.fs 2 na ra,.n .i64 regs,.n .i64 par,.fs 5 (em p1 p2 p3 p4 q c).length (cC (em p1 p2 p3 p4 q c))],ax 0 25 [.fs 2 na ra,.n .i64 regs,.n .i64 par,.fs 5 c.length (cC c)]]) (Wk.mk [2,1,0] [] ?_ ?_ ?_) ⟨0,rfl,by omega,rfl,rfl⟩ ?_
 ·simp only[aP,aR,go_sem,simprocAttr]
  repeat' refine ae ?_ ?_
  all_goals first|exact dX|skip
 ·refine .cons rfl (.lsti (x:=_) (by simp only[go_sem,simprocAttr]<;>rfl) (by rfl) (by rfl) (by rfl) (by rfl) (by rfl) (by rfl) (by simp) (λi hi=>by rcases oJ hi with rfl|rfl|rfl|rfl<;>simp only[go_sem,simprocAttr]) (by rfl)) (.cons rfl (.lsti (x:=_) (by simp only[go_sem,simprocAttr]<;>rfl) (by rfl) (by rfl) (by rfl) (by rfl) (by rfl) (by rfl) (by simp) (λi hi=>by rcases oJ hi with rfl|rfl|rfl|rfl<;>(simp only[go_sem,simprocAttr];first|done|rfl)) (by rfl)) (.cons rfl (.ls) .nil))
 ·simp
 rintro mm e H ⟨q,rfl,hq,rfl,rfl⟩
 repeat (first|(with_reducible refine GA.go aa rfl ?_)|simp only[go_sem,simprocAttr])
 refine⟨λhq4=>?_,λhq4=>?_⟩
 ·have hq0:(0:Int)<=(q:Int):=by omega
  have hq5:(q:Int)<((4:Nat):Int):=by omega
  have hgq:=hgood q c hc
  have hcases:q=0\/q=1\/q=2\/q=3:=by omega
  rcases hcases with rfl|rfl|rfl|rfl
  ·have hpass:=h1 _ hgq
   have hlp:=hlen _ hpass.2
   have hnx:em p1 p2 p3 p4 1 c=p1 (em p1 p2 p3 p4 0 c):=rfl
   generalize em p1 p2 p3 p4 0 c=d at hpass hlp hnx ⊢
   simp only[ag] at hpass
   repeat (first|(with_reducible refine GA.go aa rfl ?_)|simp only[hq0,hq5,go_sem,simprocAttr])
   refine ab [] (.cons (.rfl (by rfl)) .nil) hpass.1 (by simp only[go_sem,simprocAttr]) ?_
   repeat (first|(with_reducible refine GA.go aa rfl ?_)|simp only[go_sem,simprocAttr])
   refine ab [] (.cons (.rfl (by rfl)) (.cons (.rfl (by rfl)) .nil)) (gF (regs:=regs) (par:=par) (cs:=d) hna hra hlp) (by simp only[go_sem,simprocAttr]) ?_
   simp only[ag]
   repeat (first|(with_reducible refine GA.go aa rfl ?_)|simp only[go_sem,simprocAttr])
   refine⟨_,_,_,?_,Wk.mk [2,1,0] [] ?_ ?_ ?_,1,rfl,by omega,rfl,rfl⟩
   ·omega
   ·simp only[aP,aR,go_sem,simprocAttr]
    repeat' refine ae ?_ ?_
    all_goals first|exact dX|skip
   ·rw[hnx]
    refine .cons rfl (.ls) (.cons rfl (.lsti (x:=_) (by simp only[go_sem,simprocAttr]<;>rfl) (by rfl) (by rfl) (by rfl) (by rfl) (by rfl) (by rfl) (by simp) (λi hi=>by rcases oJ hi with rfl|rfl|rfl|rfl<;>simp only[go_sem,simprocAttr]) (by rfl)) (.cons rfl (.ls) .nil))
   ·simp
  ·have hpass:=h2 _ hgq
   have hlp:=hlen _ hpass.2
   have hnx:em p1 p2 p3 p4 2 c=p2 (em p1 p2 p3 p4 1 c):=rfl
   generalize em p1 p2 p3 p4 1 c=d at hpass hlp hnx ⊢
   simp only[ag] at hpass
   repeat (first|(with_reducible refine GA.go aa rfl ?_)|simp only[hq0,hq5,go_sem,simprocAttr])
   refine ab [] (.cons (.rfl (by rfl)) .nil) hpass.1 (by simp only[go_sem,simprocAttr]) ?_
   repeat (first|(with_reducible refine GA.go aa rfl ?_)|simp only[go_sem,simprocAttr])
   refine ab [] (.cons (.rfl (by rfl)) (.cons (.rfl (by rfl)) .nil)) (gF (regs:=regs) (par:=par) (cs:=d) hna hra hlp) (by simp only[go_sem,simprocAttr]) ?_
   simp only[ag]
   repeat (first|(with_reducible refine GA.go aa rfl ?_)|simp only[go_sem,simprocAttr])
   refine⟨_,_,_,?_,Wk.mk [2,1,0] [] ?_ ?_ ?_,2,rfl,by omega,rfl,rfl⟩
   ·omega
   ·simp only[aP,aR,go_sem,simprocAttr]
    repeat' refine ae ?_ ?_
    all_goals first|exact dX|skip
   ·rw[hnx]
    refine .cons rfl (.ls) (.cons rfl (.lsti (x:=_) (by simp only[go_sem,simprocAttr]<;>rfl) (by rfl) (by rfl) (by rfl) (by rfl) (by rfl) (by rfl) (by simp) (λi hi=>by rcases oJ hi with rfl|rfl|rfl|rfl<;>simp only[go_sem,simprocAttr]) (by rfl)) (.cons rfl (.ls) .nil))
   ·simp
  ·have hpass:=h3 _ hgq
   have hlp:=hlen _ hpass.2
   have hnx:em p1 p2 p3 p4 3 c=p3 (em p1 p2 p3 p4 2 c):=rfl
   generalize em p1 p2 p3 p4 2 c=d at hpass hlp hnx ⊢
   simp only[ag] at hpass
   repeat (first|(with_reducible refine GA.go aa rfl ?_)|simp only[hq0,hq5,go_sem,simprocAttr])
   refine ab [] (.cons (.rfl (by rfl)) .nil) hpass.1 (by simp only[go_sem,simprocAttr]) ?_
   repeat (first|(with_reducible refine GA.go aa rfl ?_)|simp only[go_sem,simprocAttr])
   refine ab [] (.cons (.rfl (by rfl)) (.cons (.rfl (by rfl)) .nil)) (gF (regs:=regs) (par:=par) (cs:=d) hna hra hlp) (by simp only[go_sem,simprocAttr]) ?_
   simp only[ag]
   repeat (first|(with_reducible refine GA.go aa rfl ?_)|simp only[go_sem,simprocAttr])
   refine⟨_,_,_,?_,Wk.mk [2,1,0] [] ?_ ?_ ?_,3,rfl,by omega,rfl,rfl⟩
   ·omega
   ·simp only[aP,aR,go_sem,simprocAttr]
    repeat' refine ae ?_ ?_
    all_goals first|exact dX|skip
   ·rw[hnx]
    refine .cons rfl (.ls) (.cons rfl (.lsti (x:=_) (by simp only[go_sem,simprocAttr]<;>rfl) (by rfl) (by rfl) (by rfl) (by rfl) (by rfl) (by rfl) (by simp) (λi hi=>by rcases oJ hi with rfl|rfl|rfl|rfl<;>simp only[go_sem,simprocAttr]) (by rfl)) (.cons rfl (.ls) .nil))
   ·simp
  ·have hpass:=h4 _ hgq
   have hlp:=hlen _ hpass.2
   have hnx:em p1 p2 p3 p4 4 c=p4 (em p1 p2 p3 p4 3 c):=rfl
   generalize em p1 p2 p3 p4 3 c=d at hpass hlp hnx ⊢
   simp only[ag] at hpass
   repeat (first|(with_reducible refine GA.go aa rfl ?_)|simp only[hq0,hq5,go_sem,simprocAttr])
   refine ab [] (.cons (.rfl (by rfl)) .nil) hpass.1 (by simp only[go_sem,simprocAttr]) ?_
   repeat (first|(with_reducible refine GA.go aa rfl ?_)|simp only[go_sem,simprocAttr])
   refine ab [] (.cons (.rfl (by rfl)) (.cons (.rfl (by rfl)) .nil)) (gF (regs:=regs) (par:=par) (cs:=d) hna hra hlp) (by simp only[go_sem,simprocAttr]) ?_
   simp only[ag]
   repeat (first|(with_reducible refine GA.go aa rfl ?_)|simp only[go_sem,simprocAttr])
   refine⟨_,_,_,?_,Wk.mk [2,1,0] [] ?_ ?_ ?_,4,rfl,by omega,rfl,rfl⟩
   ·omega
   ·simp only[aP,aR,go_sem,simprocAttr]
    repeat' refine ae ?_ ?_
    all_goals first|exact dX|skip
   ·rw[hnx]
    refine .cons rfl (.ls) (.cons rfl (.lsti (x:=_) (by simp only[go_sem,simprocAttr]<;>rfl) (by rfl) (by rfl) (by rfl) (by rfl) (by rfl) (by rfl) (by simp) (λi hi=>by rcases oJ hi with rfl|rfl|rfl|rfl<;>simp only[go_sem,simprocAttr]) (by rfl)) (.cons rfl (.ls) .nil))
   ·simp
 ·have hq':q=4:=by omega
  subst hq'
  have hd:em p1 p2 p3 p4 4 c=p4 (p3 (p2 (p1 c))):=rfl
  have hgd:=hgood 4 c hc
  rw[hd] at hgd ⊢
  generalize p4 (p3 (p2 (p1 c)))=d at hgd hr ⊢
  repeat (first|(with_reducible refine GA.go aa rfl ?_)|simp only[go_sem,simprocAttr])
  refine ab [] (.cons (.rfl (by rfl)) (.cons (.rfl (by rfl)) .nil)) (o6 c d (hlen c hc)) (by simp only[go_sem,simprocAttr]) ?_
  cases hcd:vq c d
  ·rw[hcd,if_neg (by simp)] at hr
   repeat (first|(with_reducible refine GA.go aa rfl ?_)|simp only[go_sem,simprocAttr])
   refine⟨_,_,_,?_,Wk.mk [0] [] ?_ ?_ ?_,f,k+1,d,rfl,by omega,hgd,hr,rfl,rfl⟩
   ·omega
   ·simp only[aP,aR,go_sem,simprocAttr]
    repeat' refine ae ?_ ?_
    all_goals first|exact dX|skip
   ·refine .cons rfl (.lsti (x:=_) (by simp only[go_sem,simprocAttr]<;>rfl) (by rfl) (by rfl) (by rfl) (by rfl) (by rfl) (by rfl) (by simp) (λi hi=>by rcases oJ hi with rfl|rfl|rfl|rfl<;>simp only[go_sem,simprocAttr]) (by rfl)) .nil
   ·simp
  ·rw[hcd,if_pos rfl] at hr
   subst hr
   repeat (first|(with_reducible refine GA.go aa rfl ?_)|simp only[go_sem,simprocAttr])
   exact ai rfl rfl
theorem pA {na na2:Nat} {ra ra2:Nat->Nat->AV} {regs par regs2 par2 er:Int} {cs cs2:List In} (h:a7 Tryz.prog 24 [ag na ra regs par cs,.f 36 [] []] [.v (ag na2 ra2 regs2 par2 cs2),.v (.n .i64 er)]):
  a7 Tryz.prog 13 [ag na ra regs par cs] [.v (ag na2 ra2 regs2 par2 cs2),.v (.n .i64 er)]:=by
 refine ah aa Jn ⟨by simp,by decide⟩ ?_
 simp only[aW,ag]
 repeat (first|(with_reducible refine GA.go aa rfl ?_)|simp only[go_sem,simprocAttr])
 refine ab [] (.cons (.rfl (by rfl)) (.cons (.rfl (by rfl)) .nil)) h (by simp only[go_sem,simprocAttr]) ?_
 simp only[ag]
 repeat (first|(with_reducible refine GA.go aa rfl ?_)|simp only[go_sem,simprocAttr])
 exact bA (.v rfl rfl (.v rfl rfl .nil))
theorem rV {na na2:Nat} {ra ra2:Nat->Nat->AV} {regs par regs2 par2 er:Int} {cs cs2:List In} (h:a7 Tryz.prog 24 [ag na ra regs par cs,.f 41 [] []] [.v (ag na2 ra2 regs2 par2 cs2),.v (.n .i64 er)]):
  a7 Tryz.prog 15 [ag na ra regs par cs] [.v (ag na2 ra2 regs2 par2 cs2),.v (.n .i64 er)]:=by
 refine ah aa wM ⟨by simp,by decide⟩ ?_
 simp only[aW,ag]
 repeat (first|(with_reducible refine GA.go aa rfl ?_)|simp only[go_sem,simprocAttr])
 refine ab [] (.cons (.rfl (by rfl)) (.cons (.rfl (by rfl)) .nil)) h (by simp only[go_sem,simprocAttr]) ?_
 simp only[ag]
 repeat (first|(with_reducible refine GA.go aa rfl ?_)|simp only[go_sem,simprocAttr])
 exact bA (.v rfl rfl (.v rfl rfl .nil))
theorem rZ {na na2:Nat} {ra ra2:Nat->Nat->AV} {regs par regs2 par2 er:Int} {cs cs2:List In} (h:a7 Tryz.prog 24 [ag na ra regs par cs,.f 47 [] []] [.v (ag na2 ra2 regs2 par2 cs2),.v (.n .i64 er)]):
  a7 Tryz.prog 17 [ag na ra regs par cs] [.v (ag na2 ra2 regs2 par2 cs2),.v (.n .i64 er)]:=by
 refine ah aa HT ⟨by simp,by decide⟩ ?_
 simp only[aW,ag]
 repeat (first|(with_reducible refine GA.go aa rfl ?_)|simp only[go_sem,simprocAttr])
 refine ab [] (.cons (.rfl (by rfl)) (.cons (.rfl (by rfl)) .nil)) h (by simp only[go_sem,simprocAttr]) ?_
 simp only[ag]
 repeat (first|(with_reducible refine GA.go aa rfl ?_)|simp only[go_sem,simprocAttr])
 exact bA (.v rfl rfl (.v rfl rfl .nil))
theorem mQ {na na2:Nat} {ra ra2:Nat->Nat->AV} {regs par regs2 par2 er:Int} {cs cs2:List In} (h:a7 Tryz.prog 24 [ag na ra regs par cs,.f 51 [] []] [.v (ag na2 ra2 regs2 par2 cs2),.v (.n .i64 er)]):
  a7 Tryz.prog 19 [ag na ra regs par cs] [.v (ag na2 ra2 regs2 par2 cs2),.v (.n .i64 er)]:=by
 refine ah aa DN ⟨by simp,by decide⟩ ?_
 simp only[aW,ag]
 repeat (first|(with_reducible refine GA.go aa rfl ?_)|simp only[go_sem,simprocAttr])
 refine ab [] (.cons (.rfl (by rfl)) (.cons (.rfl (by rfl)) .nil)) h (by simp only[go_sem,simprocAttr]) ?_
 simp only[ag]
 repeat (first|(with_reducible refine GA.go aa rfl ?_)|simp only[go_sem,simprocAttr])
 exact bA (.v rfl rfl (.v rfl rfl .nil))
def ed:AV:= .agg [.sl0,.n .i64 0,.n .i64 0,.sl0]
theorem nX {na:Nat} {ra:Nat->Nat->AV} {regs par er:Int} {cs:List In} {x:AV} {g:FuncId} (he:¬er=0) (hc:a7 Tryz.prog 54 [ag na ra regs par cs] [.v x,.v (.n .i64 er)]):
  a7 Tryz.prog 24 [ag na ra regs par cs,.f g [] []] [.v ed,.v (.n .i64 er)]:=by
 refine ah aa wQ ⟨by simp,by decide⟩ ?_
 simp only[aW,ag] at hc ⊢
 repeat (first|(with_reducible refine GA.go aa rfl ?_)|simp only[go_sem,simprocAttr])
 refine ab [] (.cons (.rfl (by rfl)) .nil) hc (by simp only[go_sem,simprocAttr]) ?_
 repeat (first|(with_reducible refine GA.go aa rfl ?_)|simp only[he,decide_false,go_sem,simprocAttr])
 exact bA (.v rfl rfl (.v rfl rfl .nil))
theorem vk {na:Nat} {ra:Nat->Nat->AV} {regs par er:Int} {cs:List In} (h:a7 Tryz.prog 24 [ag na ra regs par cs,.f 25 [] []] [.v ed,.v (.n .i64 er)]):
  a7 Tryz.prog 10 [ag na ra regs par cs] [.v ed,.v (.n .i64 er)]:=by
 refine ah aa wP ⟨by simp,by decide⟩ ?_
 simp only[aW,ag,ed] at h ⊢
 repeat (first|(with_reducible refine GA.go aa rfl ?_)|simp only[go_sem,simprocAttr])
 refine ab [] (.cons (.rfl (by rfl)) (.cons (.rfl (by rfl)) .nil)) h (by simp only[go_sem,simprocAttr]) ?_
 repeat (first|(with_reducible refine GA.go aa rfl ?_)|simp only[go_sem,simprocAttr])
 exact bA (.v rfl rfl (.v rfl rfl .nil))
theorem rX {na:Nat} {ra:Nat->Nat->AV} {regs par er:Int} {cs:List In} (h:a7 Tryz.prog 24 [ag na ra regs par cs,.f 41 [] []] [.v ed,.v (.n .i64 er)]):
  a7 Tryz.prog 15 [ag na ra regs par cs] [.v ed,.v (.n .i64 er)]:=by
 refine ah aa wM ⟨by simp,by decide⟩ ?_
 simp only[aW,ag,ed] at h ⊢
 repeat (first|(with_reducible refine GA.go aa rfl ?_)|simp only[go_sem,simprocAttr])
 refine ab [] (.cons (.rfl (by rfl)) (.cons (.rfl (by rfl)) .nil)) h (by simp only[go_sem,simprocAttr]) ?_
 repeat (first|(with_reducible refine GA.go aa rfl ?_)|simp only[go_sem,simprocAttr])
 exact bA (.v rfl rfl (.v rfl rfl .nil))
def cF (w ch:Nat->Bool) (f:In):Bool:=w f.2.1.toNat||(decide (0<=f.2.2.1)&&w f.2.2.1.toNat)||(decide (0<=f.2.2.2.1)&&w f.2.2.2.1.toNat)||(decide (f.1=3)&&ch f.2.2.2.2.toNat)
def dQ (w ch:Nat->Bool) (l:List In):List In:=l.filter λf=> !cF w ch f
structure xd (n m:Nat) (f:In):Prop where
 to:0<=f.2.1/\f.2.1<n
 a:f.2.2.1<n
 b:f.2.2.2.1<n
 arg:f.1=3->0<=f.2.2.2.2/\f.2.2.2.2<m
theorem iY {n m:Nat} (l:List In) (w ch:Nat->Bool) (hl:l.length<1000000) (hok:∀f ∈ l,xd n m f):a7 Tryz.prog 42 [.fs 5 l.length (cC l),.fs 1 n (bF w),.fs 1 m (bF ch)] [.o 72 5 (dQ w ch l).length 0 (cC (dQ w ch l))]:=by
 refine ah aa EF ⟨by simp,by decide⟩ ?_
 simp only[aW]
 unfold dQ
 generalize hp:(λf=> !cF w ch f)=p
 repeat (first|(with_reducible refine GA.go aa rfl ?_)|simp only[go_sem,simprocAttr])
 refine GA.wk (Wk.nil 7 5 72 (by simp only[go_sem,simprocAttr]) (by decide) (by simp only[bG,aO,List.length_nil];decide)) ?_
 simp only[cr]
 refine GA.loop (I:=λmm e H=>∃(k:Nat) (xs:List In),mm=l.length-k/\k<=l.length/\xs=(l.take k).filter p/\e=aI [(0,.fs 5 l.length (cC l)),(1,.fs 1 n (bF w)),(2,.fs 1 m (bF ch)),(8,.n .i64 k),(7,.os 0 xs.length)]/\H=am [ar 72 5 xs.length 0 (cC xs)]) (Wk.mk [0] [] ?_ ?_ ?_) ⟨0,[],rfl,by omega,rfl,rfl,rfl⟩ ?_
 ·simp only[aP,aR,go_sem,simprocAttr]
  repeat' refine ae ?_ ?_
  all_goals first|exact bB|skip
 ·refine .cons rfl (.rows (x:=_) (by simp only[go_sem,simprocAttr];rfl) (by rfl) (by rfl) (by rfl) (by decide) (by decide) (by decide) (λi j h=>by simp at h) (λi j h=>by simp at h)) .nil
 ·simp
 rintro mm e H ⟨k,xs,rfl,hk,hs,rfl,rfl⟩
 repeat (first|(with_reducible refine GA.go aa rfl ?_)|simp only[go_sem,simprocAttr])
 refine⟨λh=>?_,λh=>?_⟩
 ·have hk':k<l.length:=by omega
  have h0:(0:Int)<=(k:Int):=by omega
  have hlt:xs.length<=l.length:=by rw[hs];exact Nat.le_trans (List.length_filter_le _ _) (by rw[List.length_take];exact Nat.min_le_right _ _)
  have htk:(l.take (k+1)).filter p=xs++(if p (l.getD k (0,0,0,0,0))=true then[l.getD k (0,0,0,0,0)] else[]):=by
   rw[cW (d:=(0,0,0,0,0)) hk',List.filter_append,<-hs]
   simp only[List.filter_cons,List.filter_nil]
  have hlim:(xs.length+1)*5<1099511627776/\(xs.length+1)*40<=140737488355328/\xs.length+1<=9223372036854775807/\xs.length*5+5<1099511627776:=by omega
  have hcc0:=iu l k
  have hcc1:=kH l k
  have hcc2:=lX l k
  have hcc3:=lW l k
  have hcc4:=lu l k
  have hm:l.getD k (0,0,0,0,0) ∈ l:=by rw[List.getD_eq_getElem?_getD,List.getElem?_eq_getElem hk'];exact List.getElem_mem _
  generalize l.getD k (0,0,0,0,0)=x at hcc0 hcc1 hcc2 hcc3 hcc4 hm htk
  have hpx:p x= !cF w ch x:=by rw[<-hp]
  obtain⟨⟨hto0,hto1⟩,ha1,hb1,harg⟩:=hok x hm
  obtain⟨op,to,a,b,arg⟩:=x
  simp only at hcc0 hcc1 hcc2 hcc3 hcc4 hto0 hto1 ha1 hb1 harg
  obtain⟨t,rfl⟩:∃q:Nat,to=(q:Int):=⟨to.toNat,by omega⟩
  have e1:bF w t 0= .b (w t):=rfl
  (try simp only[h0,h,hcc0,hcc1,hcc2,hcc3,hcc4,go_sem,simprocAttr])
  iterate 5 (with_reducible refine GA.go aa rfl ?_;try simp only[h0,h,hcc0,hcc1,hcc2,hcc3,hcc4,go_sem,simprocAttr])
  with_reducible refine GA.seq ?_
  refine GA.cut' (aI [(0,.fs 5 l.length (cC l)),(1,.fs 1 n (bF w)),(2,.fs 1 m (bF ch)),(8,.n .i64 k),(7,.os 0 xs.length),(10,.b (cF w ch (op,(t:Int),a,b,arg)))]) (am [ar 72 5 xs.length 0 (cC xs)]) ?_ ?_
  ·have done:∀(e':Tr AV) (H':AH) (v:Bool),v=cF w ch (op,(t:Int),a,b,arg)->Wk 73 e' H' (aI [(0,.fs 5 l.length (cC l)),(1,.fs 1 n (bF w)),(2,.fs 1 m (bF ch)),(8,.n .i64 k),(7,.os 0 xs.length),(10,.b v)]) (am [ar 72 5 xs.length 0 (cC xs)])->Wk 73 e' H' (aI [(0,.fs 5 l.length (cC l)),(1,.fs 1 n (bF w)),(2,.fs 1 m (bF ch)),(8,.n .i64 k),(7,.os 0 xs.length),(10,.b (cF w ch (op,(t:Int),a,b,arg)))]) (am [ar 72 5 xs.length 0 (cC xs)]):=by
    rintro e' H' v rfl hw;exact hw
   cases h1:w t
   ·rw[h1] at e1
    by_cases h2:0<=a
    ·obtain⟨p,rfl⟩:∃q:Nat,a=(q:Int):=⟨a.toNat,by omega⟩
     have e2:bF w p 0= .b (w p):=rfl
     cases h7:w p
     ·rw[h7] at e2
      by_cases h3:0<=b
      ·obtain⟨q,rfl⟩:∃q:Nat,b=(q:Int):=⟨b.toNat,by omega⟩
       have e3:bF w q 0= .b (w q):=rfl
       cases h6:w q
       ·rw[h6] at e3
        by_cases h4:op=3
        ·subst h4
         obtain⟨harg0,harg1⟩:=harg rfl
         obtain⟨g,rfl⟩:∃q:Nat,arg=(q:Int):=⟨arg.toNat,by omega⟩
         have e4:bF ch g 0= .b (ch g):=rfl
         cases h5:ch g
         ·rw[h5] at e4
          repeat (first|(with_reducible refine GA.go aa rfl ?_)|simp only[hto0,hto1,e1,h2,ha1,e2,e3,h3,hb1,e4,harg0,harg1,decide_true,decide_false,go_sem,simprocAttr])
          refine done _ _ false ?_ (Wk.mk [0] [] ?_ ?_ ?_)
          ·simp[cF,h1,h7,h6,h5]
          ·simp only[aP,aR,go_sem,simprocAttr]
           repeat' refine ae ?_ ?_
           all_goals first|exact bB|skip
          ·exact(.cons rfl (.k5) .nil)
          ·simp
         ·rw[h5] at e4
          repeat (first|(with_reducible refine GA.go aa rfl ?_)|simp only[hto0,hto1,e1,h2,ha1,e2,e3,h3,hb1,e4,harg0,harg1,decide_true,decide_false,go_sem,simprocAttr])
          refine done _ _ true ?_ (Wk.mk [0] [] ?_ ?_ ?_)
          ·simp[cF,h1,h7,h6,h5]
          ·simp only[aP,aR,go_sem,simprocAttr]
           repeat' refine ae ?_ ?_
           all_goals first|exact bB|skip
          ·exact(.cons rfl (.k5) .nil)
          ·simp
        ·skip
         repeat (first|(with_reducible refine GA.go aa rfl ?_)|simp only[hto0,hto1,e1,h2,ha1,e2,e3,h3,hb1,h4,decide_true,decide_false,go_sem,simprocAttr])
         refine done _ _ false ?_ (Wk.mk [0] [] ?_ ?_ ?_)
         ·simp[cF,h1,h7,h6,h4]
         ·simp only[aP,aR,go_sem,simprocAttr]
          repeat' refine ae ?_ ?_
          all_goals first|exact bB|skip
         ·exact(.cons rfl (.k5) .nil)
         ·simp
       ·rw[h6] at e3
        repeat (first|(with_reducible refine GA.go aa rfl ?_)|simp only[hto0,hto1,e1,h2,ha1,e2,e3,h3,hb1,decide_true,decide_false,go_sem,simprocAttr])
        refine done _ _ true ?_ (Wk.mk [0] [] ?_ ?_ ?_)
        ·simp[cF,h1,h7,h6]
        ·simp only[aP,aR,go_sem,simprocAttr]
         repeat' refine ae ?_ ?_
         all_goals first|exact bB|skip
        ·exact(.cons rfl (.k5) .nil)
        ·simp
      ·skip
       by_cases h4:op=3
       ·subst h4
        obtain⟨harg0,harg1⟩:=harg rfl
        obtain⟨g,rfl⟩:∃q:Nat,arg=(q:Int):=⟨arg.toNat,by omega⟩
        have e4:bF ch g 0= .b (ch g):=rfl
        cases h5:ch g
        ·rw[h5] at e4
         repeat (first|(with_reducible refine GA.go aa rfl ?_)|simp only[hto0,hto1,e1,h2,ha1,e2,h3,e4,harg0,harg1,decide_true,decide_false,go_sem,simprocAttr])
         refine done _ _ false ?_ (Wk.mk [0] [] ?_ ?_ ?_)
         ·simp[cF,h1,h7,h3,h5]
         ·simp only[aP,aR,go_sem,simprocAttr]
          repeat' refine ae ?_ ?_
          all_goals first|exact bB|skip
         ·exact(.cons rfl (.k5) .nil)
         ·simp
        ·rw[h5] at e4
         repeat (first|(with_reducible refine GA.go aa rfl ?_)|simp only[hto0,hto1,e1,h2,ha1,e2,h3,e4,harg0,harg1,decide_true,decide_false,go_sem,simprocAttr])
         refine done _ _ true ?_ (Wk.mk [0] [] ?_ ?_ ?_)
         ·simp[cF,h1,h7,h3,h5]
         ·simp only[aP,aR,go_sem,simprocAttr]
          repeat' refine ae ?_ ?_
          all_goals first|exact bB|skip
         ·exact(.cons rfl (.k5) .nil)
         ·simp
       ·skip
        repeat (first|(with_reducible refine GA.go aa rfl ?_)|simp only[hto0,hto1,e1,h2,ha1,e2,h3,h4,decide_true,decide_false,go_sem,simprocAttr])
        refine done _ _ false ?_ (Wk.mk [0] [] ?_ ?_ ?_)
        ·simp[cF,h1,h7,h3,h4]
        ·simp only[aP,aR,go_sem,simprocAttr]
         repeat' refine ae ?_ ?_
         all_goals first|exact bB|skip
        ·exact(.cons rfl (.k5) .nil)
        ·simp
     ·rw[h7] at e2
      repeat (first|(with_reducible refine GA.go aa rfl ?_)|simp only[hto0,hto1,e1,h2,ha1,e2,decide_true,decide_false,go_sem,simprocAttr])
      refine done _ _ true ?_ (Wk.mk [0] [] ?_ ?_ ?_)
      ·simp[cF,h1,h7]
      ·simp only[aP,aR,go_sem,simprocAttr]
       repeat' refine ae ?_ ?_
       all_goals first|exact bB|skip
      ·exact(.cons rfl (.k5) .nil)
      ·simp
    ·skip
     by_cases h3:0<=b
     ·obtain⟨q,rfl⟩:∃q:Nat,b=(q:Int):=⟨b.toNat,by omega⟩
      have e3:bF w q 0= .b (w q):=rfl
      cases h6:w q
      ·rw[h6] at e3
       by_cases h4:op=3
       ·subst h4
        obtain⟨harg0,harg1⟩:=harg rfl
        obtain⟨g,rfl⟩:∃q:Nat,arg=(q:Int):=⟨arg.toNat,by omega⟩
        have e4:bF ch g 0= .b (ch g):=rfl
        cases h5:ch g
        ·rw[h5] at e4
         repeat (first|(with_reducible refine GA.go aa rfl ?_)|simp only[hto0,hto1,e1,h2,e3,h3,hb1,e4,harg0,harg1,decide_true,decide_false,go_sem,simprocAttr])
         refine done _ _ false ?_ (Wk.mk [0] [] ?_ ?_ ?_)
         ·simp[cF,h1,h2,h6,h5]
         ·simp only[aP,aR,go_sem,simprocAttr]
          repeat' refine ae ?_ ?_
          all_goals first|exact bB|skip
         ·exact(.cons rfl (.k5) .nil)
         ·simp
        ·rw[h5] at e4
         repeat (first|(with_reducible refine GA.go aa rfl ?_)|simp only[hto0,hto1,e1,h2,e3,h3,hb1,e4,harg0,harg1,decide_true,decide_false,go_sem,simprocAttr])
         refine done _ _ true ?_ (Wk.mk [0] [] ?_ ?_ ?_)
         ·simp[cF,h1,h2,h6,h5]
         ·simp only[aP,aR,go_sem,simprocAttr]
          repeat' refine ae ?_ ?_
          all_goals first|exact bB|skip
         ·exact(.cons rfl (.k5) .nil)
         ·simp
       ·skip
        repeat (first|(with_reducible refine GA.go aa rfl ?_)|simp only[hto0,hto1,e1,h2,e3,h3,hb1,h4,decide_true,decide_false,go_sem,simprocAttr])
        refine done _ _ false ?_ (Wk.mk [0] [] ?_ ?_ ?_)
        ·simp[cF,h1,h2,h6,h4]
        ·simp only[aP,aR,go_sem,simprocAttr]
         repeat' refine ae ?_ ?_
         all_goals first|exact bB|skip
        ·exact(.cons rfl (.k5) .nil)
        ·simp
      ·rw[h6] at e3
       repeat (first|(with_reducible refine GA.go aa rfl ?_)|simp only[hto0,hto1,e1,h2,e3,h3,hb1,decide_true,decide_false,go_sem,simprocAttr])
       refine done _ _ true ?_ (Wk.mk [0] [] ?_ ?_ ?_)
       ·simp[cF,h1,h2,h6]
       ·simp only[aP,aR,go_sem,simprocAttr]
        repeat' refine ae ?_ ?_
        all_goals first|exact bB|skip
       ·exact(.cons rfl (.k5) .nil)
       ·simp
     ·skip
      by_cases h4:op=3
      ·subst h4
       obtain⟨harg0,harg1⟩:=harg rfl
       obtain⟨g,rfl⟩:∃q:Nat,arg=(q:Int):=⟨arg.toNat,by omega⟩
       have e4:bF ch g 0= .b (ch g):=rfl
       cases h5:ch g
       ·rw[h5] at e4
        repeat (first|(with_reducible refine GA.go aa rfl ?_)|simp only[hto0,hto1,e1,h2,h3,e4,harg0,harg1,decide_true,decide_false,go_sem,simprocAttr])
        refine done _ _ false ?_ (Wk.mk [0] [] ?_ ?_ ?_)
        ·simp[cF,h1,h2,h3,h5]
        ·simp only[aP,aR,go_sem,simprocAttr]
         repeat' refine ae ?_ ?_
         all_goals first|exact bB|skip
        ·exact(.cons rfl (.k5) .nil)
        ·simp
       ·rw[h5] at e4
        repeat (first|(with_reducible refine GA.go aa rfl ?_)|simp only[hto0,hto1,e1,h2,h3,e4,harg0,harg1,decide_true,decide_false,go_sem,simprocAttr])
        refine done _ _ true ?_ (Wk.mk [0] [] ?_ ?_ ?_)
        ·simp[cF,h1,h2,h3,h5]
        ·simp only[aP,aR,go_sem,simprocAttr]
         repeat' refine ae ?_ ?_
         all_goals first|exact bB|skip
        ·exact(.cons rfl (.k5) .nil)
        ·simp
      ·skip
       repeat (first|(with_reducible refine GA.go aa rfl ?_)|simp only[hto0,hto1,e1,h2,h3,h4,decide_true,decide_false,go_sem,simprocAttr])
       refine done _ _ false ?_ (Wk.mk [0] [] ?_ ?_ ?_)
       ·simp[cF,h1,h2,h3,h4]
       ·simp only[aP,aR,go_sem,simprocAttr]
        repeat' refine ae ?_ ?_
        all_goals first|exact bB|skip
       ·exact(.cons rfl (.k5) .nil)
       ·simp
   ·rw[h1] at e1
    repeat (first|(with_reducible refine GA.go aa rfl ?_)|simp only[hto0,hto1,e1,decide_true,decide_false,go_sem,simprocAttr])
    refine done _ _ true ?_ (Wk.mk [0] [] ?_ ?_ ?_)
    ·simp[cF,h1]
    ·simp only[aP,aR,go_sem,simprocAttr]
     repeat' refine ae ?_ ?_
     all_goals first|exact bB|skip
    ·exact(.cons rfl (.k5) .nil)
    ·simp
  repeat (first|(with_reducible refine GA.go aa rfl ?_)|simp only[go_sem,simprocAttr])
  refine⟨λh1=>?_,λh1=>?_⟩
  ·rw[hpx,h1,if_pos (by rfl)] at htk
   repeat (first|(with_reducible refine GA.go aa rfl ?_)|simp only[h0,h,hcc0,hcc1,hcc2,hcc3,hcc4,hlim.1,hlim.2.1,hlim.2.2.1,hlim.2.2.2,decide_true,go_sem,simprocAttr])
   refine⟨_,_,_,?_,Wk.mk [2] [] ?_ ?_ ?_,k+1,xs++[(op,(t:Int),a,b,arg)],rfl,by omega,htk.symm,rfl,rfl⟩
   ·omega
   ·simp only[aP,aR,go_sem,simprocAttr]
    repeat' refine ae ?_ ?_
    all_goals first|exact bB|skip
   ·simp only[List.length_append,List.length_cons,List.length_nil,Nat.zero_add]
    refine .cons rfl (.snoc (by simp only[go_sem,simprocAttr]<;>rfl) (by simp) (by rfl) rfl (by decide) (by omega) (λi j hi _=>by unfold cC;rw[aK hi]) (λj hj=>?_) (λi j _ hj=>by rcases bZ hj with rfl|rfl|rfl|rfl|rfl<;>rfl)) .nil
    unfold cC;rw[aL];rcases bZ hj with rfl|rfl|rfl|rfl|rfl<;>rfl
   ·simp
  ·rw[hpx,h1,if_neg (by simp),List.append_nil] at htk
   repeat (first|(with_reducible refine GA.go aa rfl ?_)|simp only[go_sem,simprocAttr])
   refine⟨_,_,_,?_,Wk.mk [0] [] ?_ ?_ ?_,k+1,xs,rfl,by omega,htk.symm,rfl,rfl⟩
   ·omega
   ·simp only[aP,aR,go_sem,simprocAttr]
    repeat' refine ae ?_ ?_
    all_goals first|exact bB|skip
   ·exact(.cons rfl (.k5) .nil)
   ·simp
 ·have:k=l.length:=by omega
  subst this
  rw[List.take_length] at hs
  rw[<-hs]
  repeat (first|(with_reducible refine GA.go aa rfl ?_)|simp only[go_sem,simprocAttr])
  refine⟨[_],rfl,.o (x:=_) (by simp only[go_sem,simprocAttr];rfl) (by rfl) (by rfl) (by rfl) (by decide) (Nat.le_refl _) (Nat.le_refl _) (λi j _ hj=>aX i j hj) (λi j _ hj=>bj i hj) rfl .nil⟩
theorem f9 (op:Int):a7 Tryz.prog 45 [.n .i64 op] [.v (.b (dv op))]:=by
 refine ah aa D8 ⟨by simp,by decide⟩ ?_
 simp only[aW]
 unfold dv dW
 by_cases h3:op=3
 ·repeat (first|(with_reducible refine GA.go aa rfl ?_)|simp only[h3,decide_true,go_sem,simprocAttr])
  exact ai (by simp) rfl
 by_cases h8:8<=op
 ·by_cases h26:op<=26
  ·repeat (first|(with_reducible refine GA.go aa rfl ?_)|simp only[h3,h8,h26,decide_true,decide_false,go_sem,simprocAttr])
   exact ai (by simp[h8,h26]) rfl
  ·by_cases h32:op=32
   ·subst h32
    repeat (first|(with_reducible refine GA.go aa rfl ?_)|simp only[h3,h8,h26,decide_true,decide_false,go_sem,simprocAttr])
    exact ai (by simp) rfl
   ·repeat (first|(with_reducible refine GA.go aa rfl ?_)|simp only[h3,h8,h26,h32,decide_true,decide_false,go_sem,simprocAttr])
    exact ai (by simp[h3,h8,h26,h32]) rfl
 ·have h26:op<=26:=by omega
  have h32:¬op=32:=by omega
  have h33:¬op=33:=by omega
  repeat (first|(with_reducible refine GA.go aa rfl ?_)|simp only[h3,h8,h26,h32,h33,decide_true,decide_false,go_sem,simprocAttr])
  exact ai (by simp[h3,h8,h32,h33]) rfl
theorem qf (f x:In):ct f x=(decide (f.1=x.1)&&(decide (f.2.2.1=x.2.2.1)&&(decide (f.2.2.2.1=x.2.2.2.1)&&decide (f.2.2.2.2=x.2.2.2.2)))):=by
 unfold ct;rw[i8];simp
theorem nN (l:List In) (x:In) (hl:l.length<1000000):a7 Tryz.prog 46 [.fs 5 l.length (cC l),aQ x] [.v (.n .i64 (cQ (λf=>ct f x) l 0))]:=by
 generalize hp:(λf=>ct f x)=p
 obtain⟨xop,xto,xa,xb,xarg⟩:=x
 refine ah aa D2 ⟨by simp,by decide⟩ ?_
 simp only[aW,aQ]
 repeat (first|(with_reducible refine GA.go aa rfl ?_)|simp only[go_sem,simprocAttr])
 refine GA.loop (I:=λm e H=>∃k:Nat,m=l.length-k/\k<=l.length/\cQ p l 0=cQ p (l.drop k) k/\e=aI [(0,.fs 5 l.length (cC l)),(3,.p 0 0),(5,.n .i64 k)]/\H=am [ax 0 37 [.n .i64 xop,.n .i64 xto,.n .i64 xa,.n .i64 xb,.n .u32 xarg]]) (Wk.mk [0] [] ?_ ?_ ?_) ⟨0,rfl,by omega,rfl,rfl,rfl⟩ ?_
 ·simp only[aP,aR,go_sem,simprocAttr]
  repeat' refine ae ?_ ?_
  all_goals first|exact bB|skip
 ·exact(.cons rfl (.lsti (x:=_) (by simp only[go_sem,simprocAttr]<;>rfl) (by rfl) (by rfl) (by rfl) (by rfl) (by rfl) (by rfl) (by simp) (λi hi=>by rcases bZ hi with rfl|rfl|rfl|rfl|rfl<;>simp only[go_sem,simprocAttr]) (by rfl)) .nil)
 ·simp
 rintro m e H ⟨k,rfl,hk,hs,rfl,rfl⟩
 repeat (first|(with_reducible refine GA.go aa rfl ?_)|simp only[go_sem,simprocAttr])
 refine⟨λh=>?_,λh=>?_⟩
 ·have hk':k<l.length:=by omega
  have h0:(0:Int)<=(k:Int):=by omega
  rw[bJ (d:=(0,0,0,0,0)) hk',cQ] at hs
  have hcc0:=iu l k
  have hcc1:=kH l k
  have hcc2:=lX l k
  have hcc3:=lW l k
  have hcc4:=lu l k
  generalize l.getD k (0,0,0,0,0)=f at hcc0 hcc1 hcc2 hcc3 hcc4 hs
  obtain⟨op,to,a,b,arg⟩:=f
  simp only at hcc0 hcc1 hcc2 hcc3 hcc4
  have hpf:p (op,to,a,b,arg)=(decide (op=xop)&&(decide (a=xa)&&(decide (b=xb)&&decide (arg=xarg)))):=by rw[<-hp];exact qf _ _
  by_cases h1:op=xop
  ·by_cases h2:a=xa
   ·by_cases h3:b=xb
    ·by_cases h4:arg=xarg
     ·rw[hpf,if_pos (by simp[h1,h2,h3,h4])] at hs
      repeat (first|(with_reducible refine GA.go aa rfl ?_)|simp only[h0,h,hcc0,hcc1,hcc2,hcc3,hcc4,h1,h2,h3,h4,decide_true,go_sem,simprocAttr])
      exact ai (by rw[hs]) rfl
     ·rw[hpf,if_neg (by simp[h4])] at hs
      repeat (first|(with_reducible refine GA.go aa rfl ?_)|simp only[h0,h,hcc0,hcc1,hcc2,hcc3,hcc4,h1,h2,h3,h4,decide_true,decide_false,go_sem,simprocAttr])
      refine⟨_,_,_,?_,Wk.mk [0] [] ?_ ?_ ?_,k+1,rfl,by omega,hs,rfl,rfl⟩
      ·omega
      ·simp only[aP,aR,go_sem,simprocAttr]
       repeat' refine ae ?_ ?_
       all_goals first|exact bB|skip
      ·exact(.cons rfl (.lsti (x:=_) (by simp only[go_sem,simprocAttr]<;>rfl) (by rfl) (by rfl) (by rfl) (by rfl) (by rfl) (by rfl) (by simp) (λi hi=>by rcases bZ hi with rfl|rfl|rfl|rfl|rfl<;>simp only[go_sem,simprocAttr]) (by rfl)) .nil)
      ·simp
    ·rw[hpf,if_neg (by simp[h3])] at hs
     repeat (first|(with_reducible refine GA.go aa rfl ?_)|simp only[h0,h,hcc0,hcc1,hcc2,hcc3,hcc4,h1,h2,h3,decide_true,decide_false,go_sem,simprocAttr])
     refine⟨_,_,_,?_,Wk.mk [0] [] ?_ ?_ ?_,k+1,rfl,by omega,hs,rfl,rfl⟩
     ·omega
     ·simp only[aP,aR,go_sem,simprocAttr]
      repeat' refine ae ?_ ?_
      all_goals first|exact bB|skip
     ·exact(.cons rfl (.lsti (x:=_) (by simp only[go_sem,simprocAttr]<;>rfl) (by rfl) (by rfl) (by rfl) (by rfl) (by rfl) (by rfl) (by simp) (λi hi=>by rcases bZ hi with rfl|rfl|rfl|rfl|rfl<;>simp only[go_sem,simprocAttr]) (by rfl)) .nil)
     ·simp
   ·rw[hpf,if_neg (by simp[h2])] at hs
    repeat (first|(with_reducible refine GA.go aa rfl ?_)|simp only[h0,h,hcc0,hcc1,hcc2,hcc3,hcc4,h1,h2,decide_true,decide_false,go_sem,simprocAttr])
    refine⟨_,_,_,?_,Wk.mk [0] [] ?_ ?_ ?_,k+1,rfl,by omega,hs,rfl,rfl⟩
    ·omega
    ·simp only[aP,aR,go_sem,simprocAttr]
     repeat' refine ae ?_ ?_
     all_goals first|exact bB|skip
    ·exact(.cons rfl (.lsti (x:=_) (by simp only[go_sem,simprocAttr]<;>rfl) (by rfl) (by rfl) (by rfl) (by rfl) (by rfl) (by rfl) (by simp) (λi hi=>by rcases bZ hi with rfl|rfl|rfl|rfl|rfl<;>simp only[go_sem,simprocAttr]) (by rfl)) .nil)
    ·simp
  ·rw[hpf,if_neg (by simp[h1])] at hs
   repeat (first|(with_reducible refine GA.go aa rfl ?_)|simp only[h0,h,hcc0,hcc1,hcc2,hcc3,hcc4,h1,decide_true,decide_false,go_sem,simprocAttr])
   refine⟨_,_,_,?_,Wk.mk [0] [] ?_ ?_ ?_,k+1,rfl,by omega,hs,rfl,rfl⟩
   ·omega
   ·simp only[aP,aR,go_sem,simprocAttr]
    repeat' refine ae ?_ ?_
    all_goals first|exact bB|skip
   ·exact(.cons rfl (.lsti (x:=_) (by simp only[go_sem,simprocAttr]<;>rfl) (by rfl) (by rfl) (by rfl) (by rfl) (by rfl) (by rfl) (by simp) (λi hi=>by rcases bZ hi with rfl|rfl|rfl|rfl|rfl<;>simp only[go_sem,simprocAttr]) (by rfl)) .nil)
   ·simp
 ·repeat (first|(with_reducible refine GA.go aa rfl ?_)|simp only[go_sem,simprocAttr])
  have:k=l.length:=by omega
  subst this
  rw[List.drop_length,cQ] at hs
  exact ai (by rw[hs]) rfl
def jk (b:List In) (f:In):Bool:=decide (0<=cQ (λg=>ct g f) b 0)&&decide ((b.getD (cQ (λg=>ct g f) b 0).toNat dt).2.1=f.2.1)
def ij (a b:List In):List In:=a.filter (jk b)
theorem lw (l b:List In) (hl:l.length<1000000) (hb:b.length<1000000):a7 Tryz.prog 44 [.fs 5 l.length (cC l),.fs 5 b.length (cC b)] [.o 72 5 (ij l b).length 0 (cC (ij l b))]:=by
 refine ah aa Eg ⟨by simp,by decide⟩ ?_
 simp only[aW]
 unfold ij
 generalize hp:jk b=p
 repeat (first|(with_reducible refine GA.go aa rfl ?_)|simp only[go_sem,simprocAttr])
 refine GA.wk (Wk.nil 5 5 72 (by simp only[go_sem,simprocAttr]) (by decide) (by simp only[bG,aO,List.length_nil];decide)) ?_
 simp only[cr]
 refine GA.loop (I:=λmm e H=>∃(k:Nat) (xs:List In),mm=l.length-k/\k<=l.length/\xs=(l.take k).filter p/\e=aI [(0,.fs 5 l.length (cC l)),(1,.fs 5 b.length (cC b)),(6,.n .i64 k),(5,.os 0 xs.length)]/\H=am [ar 72 5 xs.length 0 (cC xs)]) (Wk.mk [0] [] ?_ ?_ ?_) ⟨0,[],rfl,by omega,rfl,rfl,rfl⟩ ?_
 ·simp only[aP,aR,go_sem,simprocAttr]
  repeat' refine ae ?_ ?_
  all_goals first|exact bB|skip
 ·refine .cons rfl (.rows (x:=_) (by simp only[go_sem,simprocAttr];rfl) (by rfl) (by rfl) (by rfl) (by decide) (by decide) (by decide) (λi j h=>by simp at h) (λi j h=>by simp at h)) .nil
 ·simp
 rintro mm e H ⟨k,xs,rfl,hk,hs,rfl,rfl⟩
 repeat (first|(with_reducible refine GA.go aa rfl ?_)|simp only[go_sem,simprocAttr])
 refine⟨λh=>?_,λh=>?_⟩
 ·have hk':k<l.length:=by omega
  have h0:(0:Int)<=(k:Int):=by omega
  have hlt:xs.length<=l.length:=by rw[hs];exact Nat.le_trans (List.length_filter_le _ _) (by rw[List.length_take];exact Nat.min_le_right _ _)
  have htk:(l.take (k+1)).filter p=xs++(if p (l.getD k (0,0,0,0,0))=true then[l.getD k (0,0,0,0,0)] else[]):=by
   rw[cW (d:=(0,0,0,0,0)) hk',List.filter_append,<-hs]
   simp only[List.filter_cons,List.filter_nil]
  have hlim:(xs.length+1)*5<1099511627776/\(xs.length+1)*40<=140737488355328/\xs.length+1<=9223372036854775807/\xs.length*5+5<1099511627776:=by omega
  have hcc0:=iu l k
  have hcc1:=kH l k
  have hcc2:=lX l k
  have hcc3:=lW l k
  have hcc4:=lu l k
  generalize l.getD k (0,0,0,0,0)=x at hcc0 hcc1 hcc2 hcc3 hcc4 htk
  obtain⟨op,to,a,bb,arg⟩:=x
  have hpx:p (op,to,a,bb,arg)=jk b (op,to,a,bb,arg):=by rw[<-hp]
  simp only at hcc0 hcc1 hcc2 hcc3 hcc4
  have hfi:=nN b (op,to,a,bb,arg) hb
  unfold jk at hpx
  have hif:=ko (λg=>ct g (op,to,a,bb,arg)) b 0
  generalize cQ (λg=>ct g (op,to,a,bb,arg)) b 0=ix at hfi hpx hif
  simp only[aQ] at hfi hpx
  (try simp only[h0,h,hcc0,hcc1,hcc2,hcc3,hcc4,go_sem,simprocAttr])
  iterate 5 (with_reducible refine GA.go aa rfl ?_;try simp only[h0,h,hcc0,hcc1,hcc2,hcc3,hcc4,go_sem,simprocAttr])
  refine ab [] (.cons (.rfl (by rfl)) (.cons (.rfl (by rfl)) .nil)) hfi (by simp only[go_sem,simprocAttr]) ?_
  by_cases hi:0<=ix
  ·obtain⟨q,rfl⟩:∃q:Nat,ix=(q:Int):=⟨ix.toNat,by omega⟩
   have hq:(q:Int)<(b.length:Int):=by omega
   have hbq:=kH b q
   have hbq':(b.getD q dt).2.1=(b.getD q (0,0,0,0,0)).2.1:=rfl
   rw[Int.toNat_natCast,hbq'] at hpx
   generalize (b.getD q (0,0,0,0,0)).2.1=bto at hbq hpx
   by_cases ht:bto=to
   ·have hpt:p (op,to,a,bb,arg)=true:=by rw[hpx];simp[ht]
    rw[if_pos hpt] at htk
    repeat (first|(with_reducible refine GA.go aa rfl ?_)|simp only[hi,hq,h0,h,hcc0,hcc1,hcc2,hcc3,hcc4,hbq,ht,hlim.1,hlim.2.1,hlim.2.2.1,hlim.2.2.2,decide_true,go_sem,simprocAttr])
    refine⟨_,_,_,?_,Wk.mk [2] [] ?_ ?_ ?_,k+1,xs++[(op,to,a,bb,arg)],rfl,by omega,htk.symm,rfl,rfl⟩
    ·omega
    ·simp only[aP,aR,go_sem,simprocAttr]
     repeat' refine ae ?_ ?_
     all_goals first|exact bB|skip
    ·simp only[List.length_append,List.length_cons,List.length_nil,Nat.zero_add]
     subst ht
     refine .cons rfl (.snoc (by simp only[go_sem,simprocAttr]<;>rfl) (by simp) (by rfl) rfl (by decide) (by omega) (λi j hi _=>by unfold cC;rw[aK hi]) (λj hj=>?_) (λi j _ hj=>by rcases bZ hj with rfl|rfl|rfl|rfl|rfl<;>rfl)) .nil
     unfold cC;rw[aL];rcases bZ hj with rfl|rfl|rfl|rfl|rfl<;>rfl
    ·simp
   ·have hpt:p (op,to,a,bb,arg)=false:=by rw[hpx];simp[ht]
    rw[if_neg (by simp[hpt]),List.append_nil] at htk
    repeat (first|(with_reducible refine GA.go aa rfl ?_)|simp only[hi,hq,h0,h,hcc1,hbq,ht,decide_true,decide_false,go_sem,simprocAttr])
    refine⟨_,_,_,?_,Wk.mk [0] [] ?_ ?_ ?_,k+1,xs,rfl,by omega,htk.symm,rfl,rfl⟩
    ·omega
    ·simp only[aP,aR,go_sem,simprocAttr]
     repeat' refine ae ?_ ?_
     all_goals first|exact bB|skip
    ·exact(.cons rfl (.k5) .nil)
    ·simp
  ·have hpt:p (op,to,a,bb,arg)=false:=by rw[hpx];simp[hi]
   rw[if_neg (by simp[hpt]),List.append_nil] at htk
   repeat (first|(with_reducible refine GA.go aa rfl ?_)|simp only[hi,decide_false,go_sem,simprocAttr])
   refine⟨_,_,_,?_,Wk.mk [0] [] ?_ ?_ ?_,k+1,xs,rfl,by omega,htk.symm,rfl,rfl⟩
   ·omega
   ·simp only[aP,aR,go_sem,simprocAttr]
    repeat' refine ae ?_ ?_
    all_goals first|exact bB|skip
   ·exact(.cons rfl (.k5) .nil)
   ·simp
 ·have:k=l.length:=by omega
  subst this
  rw[List.take_length] at hs
  rw[<-hs]
  repeat (first|(with_reducible refine GA.go aa rfl ?_)|simp only[go_sem,simprocAttr])
  refine⟨[_],rfl,.o (x:=_) (by simp only[go_sem,simprocAttr];rfl) (by rfl) (by rfl) (by rfl) (by decide) (Nat.le_refl _) (Nat.le_refl _) (λi j _ hj=>aX i j hj) (λi j _ hj=>bj i hj) rfl .nil⟩
def jc (l:List In) (i:Nat):Bool:=l.any λx=>decide (x.1=4)&&decide (x.2.2.2.2=(i:Int))
theorem gG (na:Nat) (ra:Nat->Nat->AV) (regs par:Int) (cs:List In) (lo hi:Nat) (hlo:lo<=hi) (hhi:hi<=cs.length) (hcs:cs.length<1000000) (hr:na<1000000) (hin:∀x ∈ cs,x.1=4->0<=x.2.2.2.2/\x.2.2.2.2<na):
  a7 Tryz.prog 43 [ag na ra regs par cs,.n .i64 lo,.n .i64 hi] [.o 4 1 na 0 (bF (jc ((cs.take hi).drop lo)))]:=by
 have hl1:na<1099511627776:=by omega
 have hl2:na<=140737488355328:=by omega
 have hl3:(0:Int)<=(na:Int):=by omega
 have hl4:(na:Int)<=16777216:=by omega
 have hl5:1*na<=140737488355328:=by omega
 refine ah aa Es ⟨by simp,by decide⟩ ?_
 simp only[aW,ag]
 repeat (first|(with_reducible refine GA.go aa rfl ?_)|simp only[hl1,hl2,hl3,hl4,hl5,Int.le_refl,decide_true,go_sem,simprocAttr])
 refine GA.loop (I:=λmm e H=>∃(k:Nat),mm=hi-k/\lo<=k/\k<=hi/\e=aI [(2,.n .i64 hi),(3,.p 0 0),(7,.os 1 na),(8,.n .i64 k)]/\H=am [ar 4 1 na 0 (bF (jc ((cs.take k).drop lo))),ax 0 25 [.fs 2 na ra,.n .i64 regs,.n .i64 par,.fs 5 cs.length (cC cs)]]) (Wk.mk [1,0] [] ?_ ?_ ?_) ⟨lo,rfl,Nat.le_refl _,hlo,rfl,rfl⟩ ?_
 ·simp only[aP,aR,go_sem,simprocAttr]
  repeat' refine ae ?_ ?_
  all_goals first|exact bB|skip
 ·refine .cons rfl (.same (by simp only[go_sem,simprocAttr]<;>rfl) rfl (by decide) (λi j h hj=>?_) (λi j h hj=>rfl)) (.cons rfl (.ls) .nil)
  have:((cs.take lo).drop lo)=[]:=by rw[List.drop_eq_nil_iff];simp;omega
  rw[this]
  obtain rfl:j=0:=by omega
  rfl
 ·simp
 rintro mm e H ⟨k,rfl,hk1,hk2,rfl,rfl⟩
 repeat (first|(with_reducible refine GA.go aa rfl ?_)|simp only[go_sem,simprocAttr])
 refine⟨λh=>?_,λh=>?_⟩
 ·have hkk:k<hi:=by omega
  have hkl:(k:Int)<(cs.length:Int):=by omega
  have h0:(0:Int)<=(k:Int):=by omega
  have hm:cs.getD k (0,0,0,0,0) ∈ cs:=by rw[List.getD_eq_getElem?_getD,List.getElem?_eq_getElem (by omega)];exact List.getElem_mem _
  have hx:=hin _ hm
  have hw:(cs.take (k+1)).drop lo=(cs.take k).drop lo++[cs.getD k (0,0,0,0,0)]:=by
   rw[cW (d:=(0,0,0,0,0)) (by omega),List.drop_append_of_le_length (by rw[List.length_take];omega)]
  have hcc0:=iu cs k
  have hcc4:=lu cs k
  generalize cs.getD k (0,0,0,0,0)=x at hx hw hcc0 hcc4
  obtain⟨op,to,a,b,arg⟩:=x
  simp only at hcc0 hcc4 hx
  have hwr:∀i,jc ((cs.take (k+1)).drop lo) i=(jc ((cs.take k).drop lo) i||(decide (op=4)&&decide (arg=(i:Int)))):=λi=>by
   rw[hw];unfold jc;rw[List.any_append];simp
  by_cases h1:op=4
  ·subst h1
   obtain⟨q,rfl⟩:∃q:Nat,arg=(q:Int):=⟨arg.toNat,by have:=hx rfl;omega⟩
   have hq0:(0:Int)<=(q:Int):=by omega
   have hq1:(q:Int)<(na:Int):=(hx rfl).2
   have hq2:q<na:=by omega
   have hq3:q+1<=na:=hq2
   repeat (first|(with_reducible refine GA.go aa rfl ?_)|simp only[h0,hkl,hcc0,hcc4,hq0,hq1,hq2,hq3,decide_true,go_sem,simprocAttr])
   refine⟨_,_,_,?_,Wk.mk [1,0] [] ?_ ?_ ?_,k+1,rfl,by omega,by omega,rfl,rfl⟩
   ·omega
   ·simp only[aP,aR,go_sem,simprocAttr]
    repeat' refine ae ?_ ?_
    all_goals first|exact bB|skip
   ·refine .cons rfl (.put (q:=q) (by simp only[go_sem,simprocAttr];rfl) (by simp) rfl hq2 rfl (by decide) (by omega) (λi j h hj=>?_) (λi j h hj=>rfl)) (.cons rfl (.ls) .nil)
    obtain rfl:j=0:=by omega
    simp only[bF]
    rw[hwr]
    by_cases hqi:i=q
    ·subst hqi;rw[if_pos rfl];simp
    ·rw[if_neg hqi,decide_eq_false (show ¬(q:Int)=(i:Int) by omega)];simp
   ·simp
  ·repeat (first|(with_reducible refine GA.go aa rfl ?_)|simp only[h0,hkl,hcc0,hcc4,h1,decide_false,go_sem,simprocAttr])
   refine⟨_,_,_,?_,Wk.mk [1,0] [] ?_ ?_ ?_,k+1,rfl,by omega,by omega,rfl,rfl⟩
   ·omega
   ·simp only[aP,aR,go_sem,simprocAttr]
    repeat' refine ae ?_ ?_
    all_goals first|exact bB|skip
   ·refine .cons rfl (.same (by simp only[go_sem,simprocAttr]<;>rfl) rfl (by decide) (λi j h hj=>?_) (λi j h hj=>rfl)) (.cons rfl (.ls) .nil)
    simp only[bF]
    rw[hwr,decide_eq_false h1];simp
   ·simp
 ·have:k=hi:=by omega
  subst this
  repeat (first|(with_reducible refine GA.go aa rfl ?_)|simp only[go_sem,simprocAttr])
  refine⟨[_],rfl,.o (x:=_) (by simp only[go_sem,simprocAttr];rfl) (by rfl) (by rfl) (by rfl) (by decide) (Nat.le_refl _) (Nat.le_refl _) (λi j _ hj=>aX i j hj) (λi j _ _=>rfl) rfl .nil⟩
end Go.Proofs.YtidhfimbnjaceaaGreat