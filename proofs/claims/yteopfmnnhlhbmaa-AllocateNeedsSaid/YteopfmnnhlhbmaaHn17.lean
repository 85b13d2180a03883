/- A part of the proof of AllocateNeeds: AlB AlC SpA SpB SpC AlD. No condition. -/
import Derived.Test.YteopfmnnhlhbmaaHn15
import Derived.Test.YteopfmnnhlhbmaaHn16
import Derived.Test.YteopfmnnhlhbmaaHn13
import Derived.Test.YteopfmnnhlhbmaaHn14
set_option linter.unusedSimpArgs false
set_option linter.unusedVariables false
set_option linter.constructorNameAsVariable false
set_option maxRecDepth 100000
set_option maxHeartbeats 4000000
namespace Go.Proofs.Yteopfmnnhlhbmaa
open Go.RowKit
abbrev fu(nm:Int->Option Int):Int->Option AV:=λk=>(nm k).map (.n .i64 ·)
theorem sf{x:dl}{nm:Int->Option Int}(h:x.get=fu nm)(ok:Bool)(k:Int):x.look ok (.n .i64 0) k=lH ok (.n .i64 ((nm k).getD 0)) (nm k).isSome:=by
 unfold dl.look
 have:x.get k=(nm k).map (.n .i64 ·):=by rw[h]
 rw[this]
 cases nm k<;>rfl
def tN(r:Nat)(nm:Int->Option Int)(M:Nat->Option OB):Prop:=∃x:dl,M r=some (.mp x)/\x.get=fu nm
def fN(nm:Int->Option Int)(k:Int):Int:=(nm k).getD k
def eM(nm:Int->Option Int)(x:In):In:=(x.1,fN nm x.2.1,fN nm x.2.2.1,fN nm x.2.2.2.1,x.2.2.2.2)
theorem sa{i:Nat}(h:i<3):i=0\/i=1\/i=2:=by omega
def upto(k n:Nat)(nm:Int->Option Int)(v:Int):Int:=if n<k then fN nm v else v
theorem Cw{P:List RT->(Nat->Option OB)->Prop}{v:AV}{H:AH}(h:P [.v v] (λ_=>none))(hp:v.pu 3=true):∃(rs:List RT) (N:Nat->Option OB) (l:List AV),P rs N/\v=bB l/\dS rs l H/\∀r x,N r=some x->H.ob r=some x/\xk x=true:=
 ⟨_,_,[v],h,rfl,⟨⟨rfl,hp⟩,trivial⟩,λr x hx=>by cases hx⟩
theorem jc(x:In)(r:Nat)(nm:Int->Option Int):iw Try.prog 46 [iP x,.cv (.map (some r))] (tN r nm) (λ_ rs N=>rs=[.v (iP (eM nm x))]/\N=λ_=>none):=by
 refine jw bf PF ⟨by simp,by decide⟩ λM hM=>?_
 obtain⟨mx,hM,hg⟩:=hM
 obtain⟨op,to,a,b,arg⟩:=x
 simp only[bI,iP]
 repeat first|with_reducible refine aw ?_|simp only[go_sem,simprocAttr]
 refine GA.loop (I:=λmm e H=>∃(k:Nat) (ob:Nat->Option OB),mm=3-k/\k<=3/\ob=eN M/\e=aE [(1,.cv (.map (some r))),(2,.p 0 0),(4,.p 1 0),(12,.sl 2 0 3 3),(13,.n .i64 3),(14,.n .i64 k)]/\
   H=ba ob [bg 1 120 [.p 0 1,.p 0 2,.p 0 3],bg 0 60 [.n .i64 0,.n .i64 0,.n .i64 0,.n .i64 0,.n .u32 0],bg 0 60 [.n .i64 op,.n .i64 (upto k 0 nm to),.n .i64 (upto k 1 nm a),.n .i64 (upto k 2 nm b),.n .u32 arg]]) (Wk.mkS [2,1,0] [] ?_ ?_ ?_) ⟨0,_,rfl,by omega,?_,rfl,rfl⟩ ?_
 ·simp only[bk,bh,go_sem,simprocAttr]
  repeat' refine ab ?_ ?_
  all_goals first|exact F2|skip
 ·refine .cons rfl (.lstw (x:=_) (by simp only[go_sem,simprocAttr]<;>rfl) (by rfl) (by rfl) (by rfl) (by rfl) (by rfl) (by rfl) (by simp) (λi hi=>by rcases sa hi with rfl|rfl|rfl<;>(simp only[go_sem,simprocAttr];exact Wv.p rfl))) (.cons rfl (.ls) (.cons rfl (.ls) .nil))
 ·simp
 ·simp only[go_sem,simprocAttr]
 rintro mm e H ⟨k,ob,rfl,hk,rfl,rfl,rfl⟩
 have hml:=oI hM
 repeat first|with_reducible refine aw ?_|simp only[go_sem,simprocAttr]
 refine⟨λhlt=>?_,λhlt=>?_⟩
 ·have hk3:k=0\/k=1\/k=2:=by omega
  have look:∀v:Int,dl.look ⟨false,mx.get,mx.cnt,mx.stp⟩ true (.n .i64 0) v=lH true (.n .i64 ((nm v).getD 0)) (nm v).isSome:=λv=>sf hg true v
  have hadd:∀j:Nat,j<3->IntKind.wrap .i64 ((j:Int)+1)=((j+1:Nat):Int):=λj hj=>by rw[aU (by omega)];omega
  rcases hk3 with rfl|rfl|rfl
  ·have u1:upto 0 0 nm to=to:=rfl
   have u2:upto (0+1) 0 nm to=fN nm to:=rfl
   have u3:upto (0+1) 1 nm a=a:=rfl
   have u4:upto (0+1) 2 nm b=b:=rfl
   have hadd:=hadd 0 (by decide)
   cases hv:nm to
   ·have hup:fN nm to=to:=by unfold fN;rw[hv];rfl
    repeat first|with_reducible refine aw ?_|simp only[hml,look,u1,hv,hadd,Option.isSome_none,Option.getD_none,decide_true,decide_false,go_sem,simprocAttr]
    refine⟨_,_,_,?_,Wk.mkS [2,1,0] [] ?_ ?_ ?_,0+1,_,rfl,by omega,?_,rfl,rfl⟩
    ·omega
    ·simp only[bk,bh,go_sem,simprocAttr]
     repeat' refine ab ?_ ?_
     all_goals first|exact F2|skip
    ·refine .cons rfl (.lstw (x:=_) (by simp only[go_sem,simprocAttr]<;>rfl) (by rfl) (by rfl) (by rfl) (by rfl) (by rfl) (by rfl) (by simp) (λi hi=>by rcases sa hi with rfl|rfl|rfl<;>(simp only[go_sem,simprocAttr];exact Wv.p rfl))) (.cons rfl (.ls) (.cons rfl (.lsti (x:=_) (by simp only[go_sem,simprocAttr]<;>rfl) (by rfl) (by rfl) (by rfl) (by rfl) (by rfl) (by rfl) (by simp) (λi hi=>by rcases iL hi with rfl|rfl|rfl|rfl|rfl<;>(simp only[u2,u3,u4,hup,go_sem,simprocAttr];first|done|rfl)) (by rfl)) .nil))
    ·simp
    ·simp only[go_sem,simprocAttr]
   ·rename_i w
    have hup:fN nm to=w:=by unfold fN;rw[hv];rfl
    repeat first|with_reducible refine aw ?_|simp only[hml,look,u1,hv,hadd,Option.isSome_some,Option.getD_some,decide_true,decide_false,go_sem,simprocAttr]
    refine⟨_,_,_,?_,Wk.mkS [2,1,0] [] ?_ ?_ ?_,0+1,_,rfl,by omega,?_,rfl,rfl⟩
    ·omega
    ·simp only[bk,bh,go_sem,simprocAttr]
     repeat' refine ab ?_ ?_
     all_goals first|exact F2|skip
    ·refine .cons rfl (.lstw (x:=_) (by simp only[go_sem,simprocAttr]<;>rfl) (by rfl) (by rfl) (by rfl) (by rfl) (by rfl) (by rfl) (by simp) (λi hi=>by rcases sa hi with rfl|rfl|rfl<;>(simp only[go_sem,simprocAttr];exact Wv.p rfl))) (.cons rfl (.ls) (.cons rfl (.lsti (x:=_) (by simp only[go_sem,simprocAttr]<;>rfl) (by rfl) (by rfl) (by rfl) (by rfl) (by rfl) (by rfl) (by simp) (λi hi=>by rcases iL hi with rfl|rfl|rfl|rfl|rfl<;>(simp only[u2,u3,u4,hup,go_sem,simprocAttr];first|done|rfl)) (by rfl)) .nil))
    ·simp
    ·simp only[go_sem,simprocAttr]
  ·have u1:upto 1 1 nm a=a:=rfl
   have u2:upto (1+1) 0 nm to=fN nm to:=rfl
   have u3:upto (1+1) 1 nm a=fN nm a:=rfl
   have u4:upto (1+1) 2 nm b=b:=rfl
   have hadd:=hadd 1 (by decide)
   cases hv:nm a
   ·have hup:fN nm a=a:=by unfold fN;rw[hv];rfl
    repeat first|with_reducible refine aw ?_|simp only[hml,look,u1,hv,hadd,Option.isSome_none,Option.getD_none,decide_true,decide_false,go_sem,simprocAttr]
    refine⟨_,_,_,?_,Wk.mkS [2,1,0] [] ?_ ?_ ?_,1+1,_,rfl,by omega,?_,rfl,rfl⟩
    ·omega
    ·simp only[bk,bh,go_sem,simprocAttr]
     repeat' refine ab ?_ ?_
     all_goals first|exact F2|skip
    ·refine .cons rfl (.lstw (x:=_) (by simp only[go_sem,simprocAttr]<;>rfl) (by rfl) (by rfl) (by rfl) (by rfl) (by rfl) (by rfl) (by simp) (λi hi=>by rcases sa hi with rfl|rfl|rfl<;>(simp only[go_sem,simprocAttr];exact Wv.p rfl))) (.cons rfl (.ls) (.cons rfl (.lsti (x:=_) (by simp only[go_sem,simprocAttr]<;>rfl) (by rfl) (by rfl) (by rfl) (by rfl) (by rfl) (by rfl) (by simp) (λi hi=>by rcases iL hi with rfl|rfl|rfl|rfl|rfl<;>(simp only[u2,u3,u4,hup,go_sem,simprocAttr];first|done|rfl)) (by rfl)) .nil))
    ·simp
    ·simp only[go_sem,simprocAttr]
   ·rename_i w
    have hup:fN nm a=w:=by unfold fN;rw[hv];rfl
    repeat first|with_reducible refine aw ?_|simp only[hml,look,u1,hv,hadd,Option.isSome_some,Option.getD_some,decide_true,decide_false,go_sem,simprocAttr]
    refine⟨_,_,_,?_,Wk.mkS [2,1,0] [] ?_ ?_ ?_,1+1,_,rfl,by omega,?_,rfl,rfl⟩
    ·omega
    ·simp only[bk,bh,go_sem,simprocAttr]
     repeat' refine ab ?_ ?_
     all_goals first|exact F2|skip
    ·refine .cons rfl (.lstw (x:=_) (by simp only[go_sem,simprocAttr]<;>rfl) (by rfl) (by rfl) (by rfl) (by rfl) (by rfl) (by rfl) (by simp) (λi hi=>by rcases sa hi with rfl|rfl|rfl<;>(simp only[go_sem,simprocAttr];exact Wv.p rfl))) (.cons rfl (.ls) (.cons rfl (.lsti (x:=_) (by simp only[go_sem,simprocAttr]<;>rfl) (by rfl) (by rfl) (by rfl) (by rfl) (by rfl) (by rfl) (by simp) (λi hi=>by rcases iL hi with rfl|rfl|rfl|rfl|rfl<;>(simp only[u2,u3,u4,hup,go_sem,simprocAttr];first|done|rfl)) (by rfl)) .nil))
    ·simp
    ·simp only[go_sem,simprocAttr]
  ·have u1:upto 2 2 nm b=b:=rfl
   have u2:upto (2+1) 0 nm to=fN nm to:=rfl
   have u3:upto (2+1) 1 nm a=fN nm a:=rfl
   have u4:upto (2+1) 2 nm b=fN nm b:=rfl
   have hadd:=hadd 2 (by decide)
   cases hv:nm b
   ·have hup:fN nm b=b:=by unfold fN;rw[hv];rfl
    repeat first|with_reducible refine aw ?_|simp only[hml,look,u1,hv,hadd,Option.isSome_none,Option.getD_none,decide_true,decide_false,go_sem,simprocAttr]
    refine⟨_,_,_,?_,Wk.mkS [2,1,0] [] ?_ ?_ ?_,2+1,_,rfl,by omega,?_,rfl,rfl⟩
    ·omega
    ·simp only[bk,bh,go_sem,simprocAttr]
     repeat' refine ab ?_ ?_
     all_goals first|exact F2|skip
    ·refine .cons rfl (.lstw (x:=_) (by simp only[go_sem,simprocAttr]<;>rfl) (by rfl) (by rfl) (by rfl) (by rfl) (by rfl) (by rfl) (by simp) (λi hi=>by rcases sa hi with rfl|rfl|rfl<;>(simp only[go_sem,simprocAttr];exact Wv.p rfl))) (.cons rfl (.ls) (.cons rfl (.lsti (x:=_) (by simp only[go_sem,simprocAttr]<;>rfl) (by rfl) (by rfl) (by rfl) (by rfl) (by rfl) (by rfl) (by simp) (λi hi=>by rcases iL hi with rfl|rfl|rfl|rfl|rfl<;>(simp only[u2,u3,u4,hup,go_sem,simprocAttr];first|done|rfl)) (by rfl)) .nil))
    ·simp
    ·simp only[go_sem,simprocAttr]
   ·rename_i w
    have hup:fN nm b=w:=by unfold fN;rw[hv];rfl
    repeat first|with_reducible refine aw ?_|simp only[hml,look,u1,hv,hadd,Option.isSome_some,Option.getD_some,decide_true,decide_false,go_sem,simprocAttr]
    refine⟨_,_,_,?_,Wk.mkS [2,1,0] [] ?_ ?_ ?_,2+1,_,rfl,by omega,?_,rfl,rfl⟩
    ·omega
    ·simp only[bk,bh,go_sem,simprocAttr]
     repeat' refine ab ?_ ?_
     all_goals first|exact F2|skip
    ·refine .cons rfl (.lstw (x:=_) (by simp only[go_sem,simprocAttr]<;>rfl) (by rfl) (by rfl) (by rfl) (by rfl) (by rfl) (by rfl) (by simp) (λi hi=>by rcases sa hi with rfl|rfl|rfl<;>(simp only[go_sem,simprocAttr];exact Wv.p rfl))) (.cons rfl (.ls) (.cons rfl (.lsti (x:=_) (by simp only[go_sem,simprocAttr]<;>rfl) (by rfl) (by rfl) (by rfl) (by rfl) (by rfl) (by rfl) (by simp) (λi hi=>by rcases iL hi with rfl|rfl|rfl|rfl|rfl<;>(simp only[u2,u3,u4,hup,go_sem,simprocAttr];first|done|rfl)) (by rfl)) .nil))
    ·simp
    ·simp only[go_sem,simprocAttr]
 ·have hk3:k=3:=by omega
  subst hk3
  have v1:upto 3 0 nm to=fN nm to:=rfl
  have v2:upto 3 1 nm a=fN nm a:=rfl
  have v3:upto 3 2 nm b=fN nm b:=rfl
  repeat first|with_reducible refine aw ?_|simp only[v1,v2,v3,go_sem,simprocAttr]
  exact Cw (P:=λrs N=>rs=_/\N=λ_=>none) ⟨rfl,rfl⟩ rfl
theorem kx{na:Nat}{ra:Nat->Nat->AV}{regs par:Int}{cs:List In}(hna:na<1000000)(hra:∀i j,i<na->j<2->(ra i j).cell=true)(hcs:cs.length<1000000):
  bR Try.prog 44 [aP na ra regs par cs] [.a [.o 102 2 na 0 ra,.v (.n .i64 regs),.v (.n .i64 par),.o 60 5 cs.length 0 (cC cs)]]:=by
 have hA:=sR hna hra
 have hI:=sQ (row:=cC cs) hcs (λi j _ hj=>cj i hj)
 refine aK bf Ok ⟨by simp,by decide⟩ ?_
 simp only[bI,aP]
 repeat first|with_reducible refine aw ?_|simp only[go_sem,simprocAttr]
 refine sC hA ?_
 repeat first|with_reducible refine aw ?_|simp only[go_sem,simprocAttr]
 refine sC hI ?_
 repeat first|with_reducible refine aw ?_|simp only[go_sem,simprocAttr]
 refine⟨[_],rfl,.a (by simp) (.o (x:=_) (by simp only[go_sem,simprocAttr];rfl) (by rfl) (by rfl) (by rfl) (by rfl) (by decide) (by simp only[go_sem,simprocAttr]<;>omega) (by simp only[go_sem,simprocAttr]<;>omega) (λi j hi hj=>aL i j hj) hra (.v rfl rfl (.v rfl rfl (.o (x:=_) (by simp only[go_sem,simprocAttr];rfl) (by rfl) (by rfl) (by rfl) (by rfl) (by decide) (by simp only[go_sem,simprocAttr]<;>omega) (by simp only[go_sem,simprocAttr]<;>omega) (λi j hi hj=>aL i j hj) (λi j _ hj=>cj i hj) .nil)))) rfl .nil⟩
theorem uj{v:AV}(h:v.cell=true):v.pu 3=true:=by
 unfold AV.cell at h
 simp only[Bool.and_eq_true] at h
 exact h.1
def o9(nm:Int->Option Int)(k:Nat)(cs:List In):List In:=(cs.take k).map (eM nm)++cs.drop k
theorem sM(nm:Int->Option Int)(k:Nat)(cs:List In)(h:k<=cs.length):(o9 nm k cs).length=cs.length:=by unfold o9;simp;omega
theorem o8(nm:Int->Option Int)(k:Nat)(cs:List In)(i:Nat)(hi:i<cs.length):(o9 nm k cs).getD i (0,0,0,0,0)=if i<k then eM nm (cs.getD i (0,0,0,0,0)) else cs.getD i (0,0,0,0,0):=by
 unfold o9
 simp only[List.getD_eq_getElem?_getD]
 by_cases h:i<k
 ·rw[if_pos h,List.getElem?_append_left (by simp;omega),List.getElem?_map,List.getElem?_take_of_lt h,List.getElem?_eq_getElem hi]
  rfl
 ·rw[if_neg h,List.getElem?_append_right (by simp;omega),List.getElem?_drop]
  congr 2
  simp;omega
theorem BI(nm:Int->Option Int)(cs:List In):o9 nm cs.length cs=cs.map (eM nm):=by unfold o9;simp
theorem O9(nm:Int->Option Int)(cs:List In):o9 nm 0 cs=cs:=by unfold o9;simp
theorem kn{na:Nat}{ra:Nat->Nat->AV}{regs par regs2:Int}{cs:List In}(r:Nat)(nm:Int->Option Int)(hna:na<1000000)(hra:∀i j,i<na->j<2->(ra i j).cell=true)(hcs:cs.length<100000):
  iw Try.prog 43 [aP na ra regs par cs,.cv (.map (some r)),.n .i64 regs2] (tN r nm) (λ_ rs N=>rs=[.v (aP na ra regs2 par (cs.map (eM nm)))]/\N=λ_=>none):=by
 have hC:=kx (na:=na) (ra:=ra) (regs:=regs) (par:=par) (cs:=cs) hna hra (by omega)
 refine jw bf Od ⟨by simp,by decide⟩ λM hM=>?_
 obtain⟨mx,hM,hg⟩:=hM
 have hml:=oI hM
 simp only[bI,aP] at hC ⊢
 repeat first|with_reducible refine aw ?_|simp only[go_sem,simprocAttr]
 refine sC hC ?_
 repeat first|with_reducible refine aw ?_|simp only[go_sem,simprocAttr]
 refine GA.loop (I:=λmm e H=>∃(k:Nat),mm=cs.length-k/\k<=cs.length/\e=aE [(1,.cv (.map (some r))),(6,.p 0 0),(7,.p 3 0),(15,.os 2 cs.length),(16,.n .i64 cs.length),(17,.n .i64 k)]/\
   H=ba (eN M) [bg 0 25 [.os 1 na,.n .i64 regs2,.n .i64 par,.os 2 cs.length],aH 60 5 cs.length 0 (cC (o9 nm k cs)),aH 102 2 na 0 ra,bg 0 25 [.sl0,.n .i64 0,.n .i64 0,.sl0]]) ?_ ⟨0,rfl,by omega,rfl,rfl⟩ ?_
 ·rw[O9]
  refine Wk.mkS [4,3,2,1] [] ?_ ?_ ?_
  ·simp only[bk,bh,go_sem,simprocAttr]
   repeat' refine ab ?_ ?_
   all_goals first|exact bu|skip
  ·exact .cons rfl (.lstw (x:=_) (by simp only[go_sem,simprocAttr]<;>rfl) (by rfl) (by rfl) (by rfl) (by rfl) (by rfl) (by rfl) (by simp) (λi hi=>by rcases iu hi with rfl|rfl|rfl|rfl<;>(simp only[go_sem,simprocAttr];first|exact Wv.same rfl|exact Wv.os rfl))) (.cons rfl (.k5) (.cons rfl (.k2 (λi j hi hj=>(uj (hra i j hi hj)))) (.cons rfl (.ls) .nil)))
  ·simp
 rintro mm e H ⟨k,rfl,hk,rfl,rfl⟩
 have hlen:=sM nm k cs hk
 repeat first|with_reducible refine aw ?_|simp only[go_sem,simprocAttr]
 refine⟨λhlt=>?_,λhlt=>?_⟩
 ·have hk':k<cs.length:=by omega
  have hc0:(0:Int)<=k:=by omega
  have hck:(o9 nm k cs).getD k (0,0,0,0,0)=cs.getD k (0,0,0,0,0):=by rw[o8 nm k cs k hk',if_neg (by omega)]
  have hgr:∀j,j<5->(aH 60 5 cs.length 0 (cC (o9 nm k cs))).get (k*5+j)=Ct (cs.getD k (0,0,0,0,0)) j:=λj hj=>by
   rw[aL k j hj]
   unfold cC
   rw[hck]
  have hsuc:∀i,i<cs.length->(o9 nm (k+1) cs).getD i (0,0,0,0,0)=if i=k then eM nm (cs.getD k (0,0,0,0,0)) else(o9 nm k cs).getD i (0,0,0,0,0):=λi hi=>by
   rw[o8 nm (k+1) cs i hi,o8 nm k cs i hi]
   by_cases e:i=k
   ·subst e;rw[if_pos (by omega),if_pos rfl]
   ·rw[if_neg e]
    by_cases h2:i<k
    ·rw[if_pos (by omega),if_pos h2]
    ·rw[if_neg (by omega),if_neg h2]
  generalize hx:cs.getD k (0,0,0,0,0)=x at hgr hsuc
  obtain⟨op,to,a,b,arg⟩:=x
  have g0:(aH 60 5 cs.length 0 (cC (o9 nm k cs))).get (k*5)= .n .i64 op:=hgr 0 (by decide)
  have g1:(aH 60 5 cs.length 0 (cC (o9 nm k cs))).get (k*5+1)= .n .i64 to:=hgr 1 (by decide)
  have g2:(aH 60 5 cs.length 0 (cC (o9 nm k cs))).get (k*5+1+1)= .n .i64 a:=hgr 2 (by decide)
  have g3:(aH 60 5 cs.length 0 (cC (o9 nm k cs))).get (k*5+1+1+1)= .n .i64 b:=hgr 3 (by decide)
  have g4:(aH 60 5 cs.length 0 (cC (o9 nm k cs))).get (k*5+1+1+1+1)= .n .u32 arg:=hgr 4 (by decide)
  have b0:k*5<cs.length*5:=by omega
  have b1:k*5+1<cs.length*5:=by omega
  have b2:k*5+1+1<cs.length*5:=by omega
  have b3:k*5+1+1+1<cs.length*5:=by omega
  have b4:k*5+1+1+1+1<cs.length*5:=by omega
  have b5:k*5+5<=cs.length*5:=by omega
  repeat first|with_reducible refine aw ?_|simp only[hc0,hlt,g0,g1,g2,g3,g4,b0,b1,b2,b3,b4,decide_true,go_sem,simprocAttr]
  refine bN [] (.cons (.rfl (by rfl)) (.cons (.rfl (by rfl)) .nil)) (jc (op,to,a,b,arg) r nm) ⟨_,hml,hg⟩ (by simp only[go_sem,simprocAttr]) ?_
  rintro rs N ⟨rfl,rfl⟩ _
  simp only[iP,eM]
  repeat first|with_reducible refine aw ?_|simp only[hc0,hlt,b0,b1,b2,b3,b4,b5,decide_true,go_sem,simprocAttr]
  refine⟨_,_,_,?_,Wk.mkS [3,2,1,0] [] ?_ ?_ ?_,k+1,rfl,by omega,rfl,rfl⟩
  ·omega
  ·simp only[bk,bh,go_sem,simprocAttr]
   repeat' refine ab ?_ ?_
   all_goals first|exact bu|skip
  ·refine .cons rfl (.lstw (x:=_) (by simp only[go_sem,simprocAttr]<;>rfl) (by rfl) (by rfl) (by rfl) (by rfl) (by rfl) (by rfl) (by simp) (λi hi=>by rcases iu hi with rfl|rfl|rfl|rfl<;>(simp only[go_sem,simprocAttr];first|exact Wv.same rfl|exact Wv.os rfl))) (.cons rfl (.rows (x:=_) (by simp only[go_sem,simprocAttr];rfl) (by rfl) (by rfl) (by rfl) (Nat.le_refl _) (Nat.le_refl _) (by decide) (λi j hi hj=>?_) (λi j _ hj=>by rcases iL hj with rfl|rfl|rfl|rfl|rfl<;>rfl)) (.cons rfl (.k2 (λi j hi hj=>(uj (hra i j hi hj)))) (.cons rfl (.ls) .nil)))
   rw[fo (by simp;omega)]
   unfold cC
   rw[hsuc i hi]
   by_cases e:i=k
   ·subst e
    rw[if_pos (by simp;omega),if_pos rfl,show i*5+j-i*5=j by omega]
    rcases iL hj with rfl|rfl|rfl|rfl|rfl<;>rfl
   ·rw[if_neg (by simp;omega),if_neg e,aL i j hj]
  ·simp
 ·have hk2:k=cs.length:=by omega
  subst hk2
  refine GA.wk (Wk.mkS (L:=[(6,.p 0 0),(7,.p 1 0)]) (bl:=[bg 0 25 [.fs 2 na ra,.n .i64 regs2,.n .i64 par,.fs 5 cs.length (cC (o9 nm cs.length cs))],bg 0 25 [.sl0,.n .i64 0,.n .i64 0,.sl0]]) [3,0] [2,1] ?_ ?_ ?_) ?_
  ·simp only[bk,bh,go_sem,simprocAttr]
   repeat' refine ab ?_ ?_
   all_goals first|exact bu|skip
  ·refine .cons rfl (.lstw (x:=_) (by simp only[go_sem,simprocAttr]<;>rfl) (by rfl) (by rfl) (by rfl) (by rfl) (by rfl) (by rfl) (by simp) (λi hi=>by rcases iu hi with rfl|rfl|rfl|rfl<;>(simp only[go_sem,simprocAttr];first|exact Wv.same rfl|exact Wv.cv (Cv.own (ty:=102) (z:=0) (by simp) (by simp only[go_sem,simprocAttr]) hra)|exact Wv.cv (Cv.own (ty:=60) (z:=0) (by simp) (by simp only[go_sem,simprocAttr]) (λi j _ hj=>cj i hj))))) (.cons rfl (.ls) .nil)
  ·simp
  repeat first|with_reducible refine aw ?_|simp only[go_sem,simprocAttr]
  rw[BI]
  exact Cw (P:=λrs N=>rs=_/\N=λ_=>none) ⟨by simp,rfl⟩ rfl
theorem fX{la:List (Bool×Int)}:∀i j,i<la.length->j<2->(aC la i j).cell=true:=λi j _ hj=>by
 have:j=0\/j=1:=by omega
 rcases this with rfl|rfl<;>rfl
theorem mz(kept first c:Int)(h0:0<=first/\first<1000000)(h1:0<=kept/\kept<1000000)(h2: -1<=c/\c<1000000):
  bR Try.prog 76 [.agg [.n .i64 kept,.n .i64 first],.n .i64 c] [.v (.n .u32 (IntKind.wrap .u32 (first+c-kept))),.v (.b (decide (kept<=c)))]:=by
 have e1:IntKind.wrap .i64 (first+c)=first+c:=aU (by omega)
 have e2:IntKind.wrap .i64 (first+c-kept)=first+c-kept:=aU (by omega)
 refine aK bf Nq ⟨by simp,by decide⟩ ?_
 simp only[bI]
 repeat first|with_reducible refine aw ?_|simp only[e1,e2,go_sem,simprocAttr]
 exact⟨[_,_],rfl,⟨rfl,rfl⟩,⟨rfl,rfl⟩,True.intro⟩
theorem i7(n:Nat)(row:Nat->Nat->AV):bR Try.prog 77 [.fs 5 n row] [.v (.fs 5 n row)]:=by
 refine aK bf Nn ⟨by simp,by decide⟩ ?_
 simp only[bI]
 repeat first|with_reducible refine aw ?_|simp only[go_sem,simprocAttr]
 exact⟨[_],rfl,⟨rfl,rfl⟩,True.intro⟩
theorem yn(n:Nat)(hn:n<=1000000):bR Try.prog 95 [.sl0,.n .i64 n] [.o 60 5 0 0 (cC [])]:=by
 have hw1:IntKind.wrap .i64 (0:Int)=0:=by decide
 have hw2:IntKind.wrap .i64 ((n:Int)-0)=(n:Int):=by rw[aU (by omega)];omega
 refine aK bf MB ⟨by simp,by decide⟩ ?_
 simp only[bI]
 repeat first|with_reducible refine aw ?_|simp only[hw1,hw2,go_sem,simprocAttr]
 refine⟨λh=>by omega,λ_=>?_⟩
 repeat first|with_reducible refine aw ?_|simp only[hw1,hw2,go_sem,simprocAttr]
 refine⟨λh=>?_,λh=>?_⟩
 ·have h0:(0:Int)<=(n:Int):=by omega
  have h2:(n:Int)<=16777216:=by omega
  have h3:40*n<=140737488355328:=by omega
  have h4:n*5<1099511627776:=by omega
  repeat first|with_reducible refine aw ?_|simp only[h,h0,h2,h3,h4,decide_true,go_sem,simprocAttr]
  exact⟨[_],rfl,.o (x:=_) (by simp only[go_sem,simprocAttr];rfl) (by rfl) (by rfl) (by rfl) (by decide) (Nat.zero_le _) (Nat.le_refl _) (λi j hi hj=>absurd hi (Nat.not_lt_zero _)) (λi j hi hj=>absurd hi (Nat.not_lt_zero _)) rfl .nil⟩
 ·repeat first|with_reducible refine aw ?_|simp only[go_sem,simprocAttr]
  exact⟨[_],rfl,.o0 rfl .nil⟩
def BV(ls:List (List In))(i _j:Nat):AV:= .fs 5 (ls.getD i []).length (cC (ls.getD i []))
theorem nU(ls:List (List In)){k:Nat}(hk:k<ls.length):(ls.take (k+1)).flatten=(ls.take k).flatten++ls.getD k []:=by
 rw[List.take_add_one,List.flatten_append,List.getD_eq_getElem?_getD,List.getElem?_eq_getElem hk]
 simp
theorem tY(ls:List (List In)):∀k,(ls.take k).flatten.length<=ls.flatten.length:=λk=>by
 conv=>rhs;rw[<-List.take_append_drop k ls,List.flatten_append,List.length_append]
 omega
theorem sN(ls:List (List In))(hl:ls.length<=1000)(hf:ls.flatten.length<=1000000):bR Try.prog 78 [.fs 1 ls.length (BV ls)] [.o 60 5 ls.flatten.length 0 (cC ls.flatten)]:=by
 have hadd:∀j:Nat,j<100000->IntKind.wrap .i64 ((j:Int)+1)=((j+1:Nat):Int):=λj hj=>by rw[aU (by omega)];omega
 refine aK bf ML ⟨by simp,by decide⟩ ?_
 simp only[bI]
 repeat first|with_reducible refine aw ?_|simp only[go_sem,simprocAttr]
 refine GA.loop (I:=λmm e H=>∃(k:Nat),mm=ls.length-k/\k<=ls.length/\e=aE [(0,.fs 1 ls.length (BV ls)),(3,.n .i64 (ls.take k).flatten.length),(9,.fs 1 ls.length (BV ls)),(10,.n .i64 ls.length),(11,.n .i64 k)]/\H=aN []) (Wk.mk [] [] ?_ ?_ ?_) ⟨0,rfl,Nat.zero_le _,rfl,rfl⟩ ?_
 ·simp only[bk,bh,go_sem,simprocAttr]
  repeat' refine ab ?_ ?_
  all_goals first|exact bu|skip
 ·exact .nil
 ·simp
 rintro mm e H ⟨k,rfl,hk,rfl,rfl⟩
 repeat first|with_reducible refine aw ?_|simp only[go_sem,simprocAttr]
 refine⟨λh=>?_,λh=>?_⟩
 ·have hkl:k<ls.length:=by omega
  have hk0:(0:Int)<=(k:Int):=by omega
  have ha:=hadd k (by omega)
  have hcc:BV ls k 0= .fs 5 (ls.getD k []).length (cC (ls.getD k [])):=rfl
  have hft:=nU ls hkl
  have hfl:=tY ls (k+1)
  have hft2:(ls.take (k+1)).flatten.length=(ls.take k).flatten.length+(ls.getD k []).length:=by rw[hft,List.length_append]
  have hs:IntKind.wrap .i64 (((ls.take k).flatten.length:Int)+((ls.getD k []).length:Int))=((ls.take (k+1)).flatten.length:Int):=by rw[hft2,aU (by omega)];omega
  repeat first|with_reducible refine aw ?_|simp only[hk0,h,hcc,hs,decide_true,go_sem,simprocAttr]
  refine⟨λh=>by omega,λ_=>?_⟩
  repeat first|with_reducible refine aw ?_|simp only[ha,go_sem,simprocAttr]
  refine⟨_,_,_,?_,Wk.mk [] [] ?_ ?_ ?_,k+1,rfl,by omega,rfl,rfl⟩
  ·omega
  ·simp only[bk,bh,go_sem,simprocAttr]
   repeat' refine ab ?_ ?_
   all_goals first|exact bu|skip
  ·exact .nil
  ·simp
 ·have hk':k=ls.length:=by omega
  subst hk'
  rw[List.take_length]
  repeat first|with_reducible refine aw ?_|simp only[go_sem,simprocAttr]
  refine Hi (yn _ hf) ?_
  repeat first|with_reducible refine aw ?_|simp only[go_sem,simprocAttr]
  refine GA.loop (I:=λmm e H=>∃(k:Nat),mm=ls.length-k/\k<=ls.length/\e=aE [(6,.os 0 (ls.take k).flatten.length),(25,.fs 1 ls.length (BV ls)),(26,.n .i64 ls.length),(27,.n .i64 k)]/\H=aN [aH 60 5 (ls.take k).flatten.length 0 (cC (ls.take k).flatten)]) (Wk.mk [0] [] ?_ ?_ ?_) ⟨0,rfl,Nat.zero_le _,rfl,rfl⟩ ?_
  ·simp only[bk,bh,go_sem,simprocAttr]
   repeat' refine ab ?_ ?_
   all_goals first|exact bu|skip
  ·exact .cons rfl (.k5 (hx:=by simp only[go_sem,simprocAttr]<;>rfl)) .nil
  ·simp
  rintro mm e H ⟨k,rfl,hk,rfl,rfl⟩
  repeat first|with_reducible refine aw ?_|simp only[go_sem,simprocAttr]
  refine⟨λh=>?_,λh=>?_⟩
  ·have hkl:k<ls.length:=by omega
   have hk0:(0:Int)<=(k:Int):=by omega
   have ha:=hadd k (by omega)
   have hcc:BV ls k 0= .fs 5 (ls.getD k []).length (cC (ls.getD k [])):=rfl
   have hft:=nU ls hkl
   have hfl:=tY ls (k+1)
   have hft2:(ls.take (k+1)).flatten.length=(ls.take k).flatten.length+(ls.getD k []).length:=by rw[hft,List.length_append]
   generalize hA:(ls.take k).flatten=A at*
   generalize hB:ls.getD k []=B at*
   have hl1:(A.length+B.length)*5<1099511627776:=by omega
   have hl2:(A.length+B.length)*40<=140737488355328:=by omega
   have hl3:A.length+B.length<=9223372036854775807:=by omega
   repeat first|with_reducible refine aw ?_|simp only[hk0,h,hcc,ha,hl1,hl2,hl3,decide_true,go_sem,simprocAttr]
   refine⟨_,aE [(6,.os 0 (ls.take (k+1)).flatten.length),(25,.fs 1 ls.length (BV ls)),(26,.n .i64 ls.length),(27,.n .i64 (k+1:Nat))],aN [aH 60 5 (ls.take (k+1)).flatten.length 0 (cC (ls.take (k+1)).flatten)],?_,Wk.mk (L:=[(6,.os 0 (ls.take (k+1)).flatten.length),(25,.fs 1 ls.length (BV ls)),(26,.n .i64 ls.length),(27,.n .i64 (k+1:Nat))]) [1] [] ?_ ?_ ?_,k+1,rfl,by omega,rfl,rfl⟩
   ·omega
   ·rw[hft2]
    simp only[bk,bh,go_sem,simprocAttr]
    repeat' refine ab ?_ ?_
    all_goals first|exact bu|skip
   ·rw[hft2]
    refine .cons rfl (.rows (x:=_) (by simp only[go_sem,simprocAttr];rfl) (by rfl) (by rfl) (by rfl) (by rw[app_size];show(A.length+B.length)*5<=_;simp only[cg.len];omega) (by rw[cz];exact Nat.le_refl _) (by decide) (λi j hi hj=>?_) (λi j _ hj=>by rcases iL hj with rfl|rfl|rfl|rfl|rfl<;>rfl)) .nil
    rw[iX hj hi (by omega)]
    unfold cC
    rw[hft]
    by_cases e:A.length<=i
    ·rw[if_pos e,List.getD_eq_getElem?_getD (l:=A++B),List.getElem?_append_right e,<-List.getD_eq_getElem?_getD]
    ·rw[if_neg e,aL i j hj,List.getD_eq_getElem?_getD (l:=A++B),List.getElem?_append_left (by omega),<-List.getD_eq_getElem?_getD]
   ·simp
  ·have hk':k=ls.length:=by omega
   subst hk'
   rw[List.take_length]
   repeat first|with_reducible refine aw ?_|simp only[go_sem,simprocAttr]
   exact⟨[_],rfl,dS.o (x:=_) (by simp only[go_sem,simprocAttr]) rfl rfl rfl (by decide) (Nat.le_refl _) (Nat.le_refl _) (λi j hi hj=>aL i j hj) (λi j _ hj=>cj i hj) rfl .nil⟩
def jD(kept first c:Int):Int:=IntKind.wrap .u32 (first+c-kept)
def jJ(kept first q c:Int):List In:=if kept<=c then[(38,kept+q,-1,-1,jD kept first c)] else[]
def kD(kept q c:Int):Int:=if kept<=c then kept+q else c
def Cl(kept first c:Int):List In:=if kept<=c then[(37,-1,kept+2,-1,jD kept first c)] else[]
def Ry(kept:Int)(x:In):In:=(x.1,kD kept 2 x.2.1,kD kept 0 x.2.2.1,kD kept 1 x.2.2.2.1,x.2.2.2.2)
def wY(kept first:Int)(x:In):List In:=(jJ kept first 0 x.2.2.1++jJ kept first 1 x.2.2.2.1)++([Ry kept x]++Cl kept first x.2.1)
theorem gZ(kept first q c:Int):(jJ kept first q c).length<=1:=by unfold jJ;split<;>simp
theorem tv(kept first c:Int):(Cl kept first c).length<=1:=by unfold Cl;split<;>simp
theorem tz(kept first:Int)(x:In):(wY kept first x).length<=4:=by
 unfold wY
 simp only[List.length_append,List.length_singleton]
 have:=gZ kept first 0 x.2.2.1;have:=gZ kept first 1 x.2.2.2.1;have:=tv kept first x.2.1
 omega
def gl(kept first a b:Int):Nat->List In
 |0=>[]
 |1=>jJ kept first 0 a
 |_=>jJ kept first 0 a++jJ kept first 1 b
def nv(kept q c:Int)(n k:Nat):Int:=if n<k then kD kept q c else c
theorem Ah(kept first:Int)(l0 l2:List In)(h0:l0.length<=10)(h2:l2.length<=10)(op to a b arg:Int):
  GA Try.prog 71 (aB Try.prog 45) (.seq (.reg wJ) .ret) (aE [(3,.p 0 0),(5,.fs 5 l0.length (cC l0)),(6,.fs 5 l2.length (cC l2))]) (aN [bg 0 60 [.n .i64 op,.n .i64 to,.n .i64 a,.n .i64 b,.n .u32 arg]])
   (gL [.mv (.t 4)] λv H=>∃l,v=bB l/\dS [.o 60 5 (l0++([(op,to,a,b,arg)]++l2)).length 0 (cC (l0++([(op,to,a,b,arg)]++l2)))] l H):=by
 repeat first|with_reducible refine aw ?_|simp only[go_sem,simprocAttr]
 refine ao [1] (.cons (.sl (row:=cC [(op,to,a,b,arg)]) (by simp) (by simp only[go_sem,simprocAttr]<;>rfl) (by show 0+1*5<=5;decide) (by decide) (by show 0<5;decide) (λi j hi hj=>?_) (λi j hi hj=>cj i hj)) .nil) (i7 1 (cC [(op,to,a,b,arg)])) (by simp only[go_sem,simprocAttr]) ?_
 ·obtain rfl:i=0:=by omega
  rcases iL hj with rfl|rfl|rfl|rfl|rfl<;>(rw[jz _ _ _ _ _ _ _ _ _ (by simp)];rfl)
 repeat first|with_reducible refine aw ?_|simp only[go_sem,simprocAttr]
 have hfl:[l0,[(op,to,a,b,arg)],l2].flatten=l0++([(op,to,a,b,arg)]++l2):=by simp
 refine ao [2] (.cons (.sl (row:=BV [l0,[(op,to,a,b,arg)],l2]) (by simp) (by simp only[go_sem,simprocAttr]<;>rfl) (by show 0+3*1<=3;decide) (by decide) (by show 0<3;decide) (λi j hi hj=>?_) (λi j hi hj=>rfl)) .nil) (sN [l0,[(op,to,a,b,arg)],l2] (by simp) (by rw[hfl];simp;omega)) (by simp only[go_sem,simprocAttr]) ?_
 ·obtain rfl:j=0:=by omega
  have:i=0\/i=1\/i=2:=by omega
  rcases this with rfl|rfl|rfl<;>(rw[jz _ _ _ _ _ _ _ _ _ (by simp)];rfl)
 rw[hfl]
 repeat first|with_reducible refine aw ?_|simp only[go_sem,simprocAttr]
 exact⟨[_],rfl,dS.o (x:=_) (by simp only[go_sem,simprocAttr]<;>rfl) rfl rfl rfl (by decide) (Nat.le_refl _) (Nat.le_refl _) (λi j hi hj=>aL i j hj) (λi j _ hj=>cj i hj) rfl .nil⟩
theorem pX(x:In)(kept first:Int)(h0:0<=first/\first<1000000)(h1:0<=kept/\kept<100000)(hr:(-1<=x.2.1/\x.2.1<100000)/\(-1<=x.2.2.1/\x.2.2.1<100000)/\(-1<=x.2.2.2.1/\x.2.2.2.1<100000)):
  bR Try.prog 45 [.agg [.n .i64 kept,.n .i64 first],iP x] [.o 60 5 (wY kept first x).length 0 (cC (wY kept first x))]:=by
 obtain⟨op,to,a,b,arg⟩:=x
 simp only at hr
 obtain⟨hto,hra,hrb⟩:=hr
 have hadd:∀j:Nat,j<100000->IntKind.wrap .i64 ((j:Int)+1)=((j+1:Nat):Int):=λj hj=>by rw[aU (by omega)];omega
 have hw0:IntKind.wrap .i64 (kept+0)=kept+0:=aU (by omega)
 have hw1:IntKind.wrap .i64 (kept+1)=kept+1:=aU (by omega)
 have hw2:IntKind.wrap .i64 (kept+2)=kept+2:=aU (by omega)
 have lt2i:∀{i:Nat},i<2->i=0\/i=1:=λh=>by omega
 refine aK bf Ni ⟨by simp,by decide⟩ ?_
 simp only[bI,iP]
 repeat first|with_reducible refine aw ?_|simp only[go_sem,simprocAttr]
 refine GA.wk (Wk.nil 5 5 60 (by simp only[go_sem,simprocAttr]) (by decide) (by simp only[go_sem,simprocAttr])) ?_
 refine GA.loop (I:=λmm e H=>∃(k:Nat),mm=2-k/\k<=2/\e=aE [(2,.p 0 0),(3,.p 1 0),(5,.os 3 (gl kept first a b k).length),(6,.sl0),(15,.sl 2 0 2 2),(16,.n .i64 2),(17,.n .i64 k)]/\
   H=aN [aH 60 5 (gl kept first a b k).length 0 (cC (gl kept first a b k)),bg 1 120 [.p 1 2,.p 1 3],bg 0 60 [.n .i64 op,.n .i64 to,.n .i64 (nv kept 0 a 0 k),.n .i64 (nv kept 1 b 1 k),.n .u32 arg],bg 0 83 [.n .i64 kept,.n .i64 first]]) (Wk.mk [3,2,1,0] [] ?_ ?_ ?_) ⟨0,rfl,by omega,rfl,rfl⟩ ?_
 ·simp only[bk,bh,go_sem,simprocAttr]
  repeat' refine ab ?_ ?_
  all_goals first|exact bu|skip
 ·exact .cons rfl (.rows (x:=_) (by simp only[go_sem,simprocAttr];rfl) (by rfl) (by rfl) (by rfl) (by show 0*5<=0;decide) (by exact Nat.le_refl _) (by decide) (λi j hi=>absurd (show i<0 from hi) (Nat.not_lt_zero _)) (λi j hi=>absurd (show i<0 from hi) (Nat.not_lt_zero _))) (.cons rfl (.lstw (x:=_) (by simp only[go_sem,simprocAttr]<;>rfl) (by rfl) (by rfl) (by rfl) (by rfl) (by rfl) (by rfl) (by simp) (λi hi=>by rcases lt2i hi with rfl|rfl<;>(simp only[go_sem,simprocAttr];exact Wv.p rfl))) (.cons rfl (.ls) (.cons rfl (.ls) .nil)))
 ·simp
 rintro mm e H ⟨k,rfl,hk,rfl,rfl⟩
 repeat first|with_reducible refine aw ?_|simp only[go_sem,simprocAttr]
 refine⟨λhlt=>?_,λhlt=>?_⟩
 ·have hk2:k=0\/k=1:=by omega
  rcases hk2 with rfl|rfl
  ·have hadd:=hadd 0 (by decide)
   have hcell:=mz kept first a h0 (by omega) (by omega)
   have u0:nv kept 0 a 0 0=a:=rfl
   have u1:nv kept 0 a 0 (0+1)=kD kept 0 a:=rfl
   have u2:nv kept 1 b 1 (0+1)=b:=rfl
   have u3:nv kept 0 a 0 0=a:=rfl
   repeat first|with_reducible refine aw ?_|simp only[u0,go_sem,simprocAttr]
   refine Hi hcell ?_
   by_cases hc:kept<=a
   ·have hn:kD kept 0 a=kept+0:=if_pos hc
    have hB:gl kept first a b (0+1)=gl kept first a b 0++[(38,kept+0,-1,-1,jD kept first a)]:=by
     show jJ kept first 0 a=[]++_
     have:jJ kept first 0 a=[(38,kept+0,-1,-1,jD kept first a)]:=if_pos hc
     rw[this];rfl
    have hBl:(gl kept first a b (0+1)).length=(gl kept first a b 0).length+1:=by rw[hB,List.length_append,List.length_singleton]
    have hBk:(gl kept first a b 0).length<=2:=by
     have:=gZ kept first 0 a
     show(0:Nat)<=2;decide
    generalize hX:gl kept first a b 0=X at*
    have hl1:(X.length+1)*5<1099511627776:=by omega
    have hl2:(X.length+1)*40<=140737488355328:=by omega
    have hl3:X.length<=9223372036854775806:=by omega
    repeat first|with_reducible refine aw ?_|simp only[hc,hw0,hadd,hl1,hl2,hl3,u0,u3,decide_true,go_sem,simprocAttr]
    refine⟨_,aE [(2,.p 0 0),(3,.p 1 0),(5,.os 3 (gl kept first a b (0+1)).length),(6,.sl0),(15,.sl 2 0 2 2),(16,.n .i64 2),(17,.n .i64 (0+1:Nat))],aN [aH 60 5 (gl kept first a b (0+1)).length 0 (cC (gl kept first a b (0+1))),bg 1 120 [.p 1 2,.p 1 3],bg 0 60 [.n .i64 op,.n .i64 to,.n .i64 (nv kept 0 a 0 (0+1)),.n .i64 (nv kept 1 b 1 (0+1)),.n .u32 arg],bg 0 83 [.n .i64 kept,.n .i64 first]],?_,Wk.mk (L:=[(2,.p 0 0),(3,.p 1 0),(5,.os 3 (gl kept first a b (0+1)).length),(6,.sl0),(15,.sl 2 0 2 2),(16,.n .i64 2),(17,.n .i64 (0+1:Nat))]) [5,2,1,0] [] ?_ ?_ ?_,0+1,rfl,by omega,rfl,rfl⟩
    ·omega
    ·rw[hBl]
     simp only[bk,bh,go_sem,simprocAttr]
     repeat' refine ab ?_ ?_
     all_goals first|exact bu|skip
    ·rw[hBl]
     refine .cons rfl (.snoc (by simp only[go_sem,simprocAttr]<;>rfl) (by rfl) rfl rfl (by decide) (by omega) (λi j hi hj=>?_) (λj hj=>?_) (λi j _ hj=>by rcases iL hj with rfl|rfl|rfl|rfl|rfl<;>rfl)) (.cons rfl (.lstw (x:=_) (by simp only[go_sem,simprocAttr]<;>rfl) (by rfl) (by rfl) (by rfl) (by rfl) (by rfl) (by rfl) (by simp) (λi hi=>by rcases lt2i hi with rfl|rfl<;>(simp only[go_sem,simprocAttr];exact Wv.p rfl))) (.cons rfl (.lsti (x:=_) (by simp only[go_sem,simprocAttr]<;>rfl) (by rfl) (by rfl) (by rfl) (by rfl) (by rfl) (by rfl) (by simp) (λi hi=>by rcases iL hi with rfl|rfl|rfl|rfl|rfl<;>(simp only[u1,u2,u3,hn,go_sem,simprocAttr];first|done|rfl)) (by rfl)) (.cons rfl (.ls) .nil)))
     ·unfold cC
      rw[hB,List.getD_eq_getElem?_getD,List.getElem?_append_left hi,<-List.getD_eq_getElem?_getD]
     ·unfold cC
      rw[hB,List.getD_eq_getElem?_getD,List.getElem?_append_right (Nat.le_refl _),Nat.sub_self]
      rcases iL hj with rfl|rfl|rfl|rfl|rfl<;>rfl
    ·simp
   ·have hn:kD kept 0 a=a:=if_neg hc
    have hB:gl kept first a b (0+1)=gl kept first a b 0:=by
     show jJ kept first 0 a=[]
     have:jJ kept first 0 a=[]:=if_neg hc
     rw[this]
    repeat first|with_reducible refine aw ?_|simp only[hc,hadd,u0,u3,decide_true,decide_false,go_sem,simprocAttr]
    refine⟨_,aE [(2,.p 0 0),(3,.p 1 0),(5,.os 3 (gl kept first a b (0+1)).length),(6,.sl0),(15,.sl 2 0 2 2),(16,.n .i64 2),(17,.n .i64 (0+1:Nat))],aN [aH 60 5 (gl kept first a b (0+1)).length 0 (cC (gl kept first a b (0+1))),bg 1 120 [.p 1 2,.p 1 3],bg 0 60 [.n .i64 op,.n .i64 to,.n .i64 (nv kept 0 a 0 (0+1)),.n .i64 (nv kept 1 b 1 (0+1)),.n .u32 arg],bg 0 83 [.n .i64 kept,.n .i64 first]],?_,Wk.mk (L:=[(2,.p 0 0),(3,.p 1 0),(5,.os 3 (gl kept first a b (0+1)).length),(6,.sl0),(15,.sl 2 0 2 2),(16,.n .i64 2),(17,.n .i64 (0+1:Nat))]) [3,2,1,0] [] ?_ ?_ ?_,0+1,rfl,by omega,rfl,rfl⟩
    ·omega
    ·rw[hB]
     simp only[bk,bh,go_sem,simprocAttr]
     repeat' refine ab ?_ ?_
     all_goals first|exact bu|skip
    ·rw[hB]
     exact .cons rfl (.k5 (hx:=by simp only[go_sem,simprocAttr]<;>rfl)) (.cons rfl (.lstw (x:=_) (by simp only[go_sem,simprocAttr]<;>rfl) (by rfl) (by rfl) (by rfl) (by rfl) (by rfl) (by rfl) (by simp) (λi hi=>by rcases lt2i hi with rfl|rfl<;>(simp only[go_sem,simprocAttr];exact Wv.p rfl))) (.cons rfl (.lsti (x:=_) (by simp only[go_sem,simprocAttr]<;>rfl) (by rfl) (by rfl) (by rfl) (by rfl) (by rfl) (by rfl) (by simp) (λi hi=>by rcases iL hi with rfl|rfl|rfl|rfl|rfl<;>(simp only[u1,u2,u3,hn,go_sem,simprocAttr];first|done|rfl)) (by rfl)) (.cons rfl (.ls) .nil)))
    ·simp
  ·have hadd:=hadd 1 (by decide)
   have hcell:=mz kept first b h0 (by omega) (by omega)
   have u0:nv kept 1 b 1 1=b:=rfl
   have u1:nv kept 0 a 0 (1+1)=kD kept 0 a:=rfl
   have u2:nv kept 1 b 1 (1+1)=kD kept 1 b:=rfl
   have u3:nv kept 0 a 0 1=kD kept 0 a:=rfl
   repeat first|with_reducible refine aw ?_|simp only[u0,go_sem,simprocAttr]
   refine Hi hcell ?_
   by_cases hc:kept<=b
   ·have hn:kD kept 1 b=kept+1:=if_pos hc
    have hB:gl kept first a b (1+1)=gl kept first a b 1++[(38,kept+1,-1,-1,jD kept first b)]:=by
     show jJ kept first 0 a++jJ kept first 1 b=jJ kept first 0 a++_
     have:jJ kept first 1 b=[(38,kept+1,-1,-1,jD kept first b)]:=if_pos hc
     rw[this]
    have hBl:(gl kept first a b (1+1)).length=(gl kept first a b 1).length+1:=by rw[hB,List.length_append,List.length_singleton]
    have hBk:(gl kept first a b 1).length<=2:=by
     have:=gZ kept first 0 a
     show(jJ kept first 0 a).length<=2;omega
    generalize hX:gl kept first a b 1=X at*
    have hl1:(X.length+1)*5<1099511627776:=by omega
    have hl2:(X.length+1)*40<=140737488355328:=by omega
    have hl3:X.length<=9223372036854775806:=by omega
    repeat first|with_reducible refine aw ?_|simp only[hc,hw1,hadd,hl1,hl2,hl3,u0,u3,decide_true,go_sem,simprocAttr]
    refine⟨_,aE [(2,.p 0 0),(3,.p 1 0),(5,.os 3 (gl kept first a b (1+1)).length),(6,.sl0),(15,.sl 2 0 2 2),(16,.n .i64 2),(17,.n .i64 (1+1:Nat))],aN [aH 60 5 (gl kept first a b (1+1)).length 0 (cC (gl kept first a b (1+1))),bg 1 120 [.p 1 2,.p 1 3],bg 0 60 [.n .i64 op,.n .i64 to,.n .i64 (nv kept 0 a 0 (1+1)),.n .i64 (nv kept 1 b 1 (1+1)),.n .u32 arg],bg 0 83 [.n .i64 kept,.n .i64 first]],?_,Wk.mk (L:=[(2,.p 0 0),(3,.p 1 0),(5,.os 3 (gl kept first a b (1+1)).length),(6,.sl0),(15,.sl 2 0 2 2),(16,.n .i64 2),(17,.n .i64 (1+1:Nat))]) [5,2,1,0] [] ?_ ?_ ?_,1+1,rfl,by omega,rfl,rfl⟩
    ·omega
    ·rw[hBl]
     simp only[bk,bh,go_sem,simprocAttr]
     repeat' refine ab ?_ ?_
     all_goals first|exact bu|skip
    ·rw[hBl]
     refine .cons rfl (.snoc (by simp only[go_sem,simprocAttr]<;>rfl) (by rfl) rfl rfl (by decide) (by omega) (λi j hi hj=>?_) (λj hj=>?_) (λi j _ hj=>by rcases iL hj with rfl|rfl|rfl|rfl|rfl<;>rfl)) (.cons rfl (.lstw (x:=_) (by simp only[go_sem,simprocAttr]<;>rfl) (by rfl) (by rfl) (by rfl) (by rfl) (by rfl) (by rfl) (by simp) (λi hi=>by rcases lt2i hi with rfl|rfl<;>(simp only[go_sem,simprocAttr];exact Wv.p rfl))) (.cons rfl (.lsti (x:=_) (by simp only[go_sem,simprocAttr]<;>rfl) (by rfl) (by rfl) (by rfl) (by rfl) (by rfl) (by rfl) (by simp) (λi hi=>by rcases iL hi with rfl|rfl|rfl|rfl|rfl<;>(simp only[u1,u2,u3,hn,go_sem,simprocAttr];first|done|rfl)) (by rfl)) (.cons rfl (.ls) .nil)))
     ·unfold cC
      rw[hB,List.getD_eq_getElem?_getD,List.getElem?_append_left hi,<-List.getD_eq_getElem?_getD]
     ·unfold cC
      rw[hB,List.getD_eq_getElem?_getD,List.getElem?_append_right (Nat.le_refl _),Nat.sub_self]
      rcases iL hj with rfl|rfl|rfl|rfl|rfl<;>rfl
    ·simp
   ·have hn:kD kept 1 b=b:=if_neg hc
    have hB:gl kept first a b (1+1)=gl kept first a b 1:=by
     show jJ kept first 0 a++jJ kept first 1 b=jJ kept first 0 a
     have:jJ kept first 1 b=[]:=if_neg hc
     rw[this];simp
    repeat first|with_reducible refine aw ?_|simp only[hc,hadd,u0,u3,decide_true,decide_false,go_sem,simprocAttr]
    refine⟨_,aE [(2,.p 0 0),(3,.p 1 0),(5,.os 3 (gl kept first a b (1+1)).length),(6,.sl0),(15,.sl 2 0 2 2),(16,.n .i64 2),(17,.n .i64 (1+1:Nat))],aN [aH 60 5 (gl kept first a b (1+1)).length 0 (cC (gl kept first a b (1+1))),bg 1 120 [.p 1 2,.p 1 3],bg 0 60 [.n .i64 op,.n .i64 to,.n .i64 (nv kept 0 a 0 (1+1)),.n .i64 (nv kept 1 b 1 (1+1)),.n .u32 arg],bg 0 83 [.n .i64 kept,.n .i64 first]],?_,Wk.mk (L:=[(2,.p 0 0),(3,.p 1 0),(5,.os 3 (gl kept first a b (1+1)).length),(6,.sl0),(15,.sl 2 0 2 2),(16,.n .i64 2),(17,.n .i64 (1+1:Nat))]) [3,2,1,0] [] ?_ ?_ ?_,1+1,rfl,by omega,rfl,rfl⟩
    ·omega
    ·rw[hB]
     simp only[bk,bh,go_sem,simprocAttr]
     repeat' refine ab ?_ ?_
     all_goals first|exact bu|skip
    ·rw[hB]
     exact .cons rfl (.k5 (hx:=by simp only[go_sem,simprocAttr]<;>rfl)) (.cons rfl (.lstw (x:=_) (by simp only[go_sem,simprocAttr]<;>rfl) (by rfl) (by rfl) (by rfl) (by rfl) (by rfl) (by rfl) (by simp) (λi hi=>by rcases lt2i hi with rfl|rfl<;>(simp only[go_sem,simprocAttr];exact Wv.p rfl))) (.cons rfl (.lsti (x:=_) (by simp only[go_sem,simprocAttr]<;>rfl) (by rfl) (by rfl) (by rfl) (by rfl) (by rfl) (by rfl) (by simp) (λi hi=>by rcases iL hi with rfl|rfl|rfl|rfl|rfl<;>(simp only[u1,u2,u3,hn,go_sem,simprocAttr];first|done|rfl)) (by rfl)) (.cons rfl (.ls) .nil)))
    ·simp
 ·have hk2:k=2:=by omega
  subst hk2
  have v1:nv kept 0 a 0 2=kD kept 0 a:=rfl
  have v2:nv kept 1 b 1 2=kD kept 1 b:=rfl
  have hB:gl kept first a b 2=jJ kept first 0 a++jJ kept first 1 b:=rfl
  have hBl:(jJ kept first 0 a++jJ kept first 1 b).length<=10:=by
   have:=gZ kept first 0 a;have:=gZ kept first 1 b
   rw[List.length_append];omega
  have hcell:=mz kept first to h0 (by omega) (by omega)
  have hL:wY kept first (op,to,a,b,arg)=(jJ kept first 0 a++jJ kept first 1 b)++([Ry kept (op,to,a,b,arg)]++Cl kept first to):=rfl
  have hSl:=tv kept first to
  have hXx:Ry kept (op,to,a,b,arg)=(op,kD kept 2 to,kD kept 0 a,kD kept 1 b,arg):=rfl
  rw[hXx] at hL
  rw[hB]
  generalize hX:jJ kept first 0 a++jJ kept first 1 b=X at*
  generalize wY kept first (op,to,a,b,arg)=L at*
  (try simp only[go_sem,simprocAttr])
  iterate 1 (with_reducible refine GA.go bf rfl ?_;try simp only[go_sem,simprocAttr])
  refine GA.seq ?_
  refine GA.cut' (aE [(3,.p 0 0),(5,.fs 5 X.length (cC X)),(6,.fs 5 (Cl kept first to).length (cC (Cl kept first to)))]) (aN [bg 0 60 [.n .i64 op,.n .i64 (kD kept 2 to),.n .i64 (kD kept 0 a),.n .i64 (kD kept 1 b),.n .u32 arg]]) ?_ (by rw[hL];exact Ah kept first _ _ hBl (by omega) op (kD kept 2 to) (kD kept 0 a) (kD kept 1 b) arg)
  repeat first|with_reducible refine aw ?_|simp only[go_sem,simprocAttr]
  refine Hi hcell ?_
  by_cases hc:kept<=to
  ·have hn:kD kept 2 to=kept+2:=if_pos hc
   have hS:Cl kept first to=[(37,-1,kept+2,-1,jD kept first to)]:=if_pos hc
   repeat first|with_reducible refine aw ?_|simp only[hc,hw2,decide_true,go_sem,simprocAttr]
   refine ao [4] (.cons (.sl (row:=cC [(37,-1,kept+2,-1,jD kept first to)]) (by simp) (by simp only[go_sem,simprocAttr]<;>rfl) (by show 0+1*5<=5;decide) (by decide) (by show 0<5;decide) (λi j hi hj=>?_) (λi j hi hj=>cj i hj)) .nil) (i7 1 (cC [(37,-1,kept+2,-1,jD kept first to)])) (by simp only[go_sem,simprocAttr]) ?_
   ·obtain rfl:i=0:=by omega
    rcases iL hj with rfl|rfl|rfl|rfl|rfl<;>(rw[jz _ _ _ _ _ _ _ _ _ (by simp)];rfl)
   repeat first|with_reducible refine aw ?_|simp only[go_sem,simprocAttr]
   rw[hS]
   refine Wk.mk [1] [3] ?_ ?_ ?_
   ·simp only[bk,bh,go_sem,simprocAttr]
    repeat' refine ab ?_ ?_
    all_goals first|exact bu|skip
    all_goals first|exact Wv.same rfl|exact Wv.cv (Cv.own (ty:=60) (z:=0) (by simp) (by simp only[go_sem,simprocAttr]<;>rfl) (λi j _ hj=>cj i hj))
   ·exact .cons rfl (.lsti (x:=_) (by simp only[go_sem,simprocAttr]<;>rfl) (by rfl) (by rfl) (by rfl) (by rfl) (by rfl) (by rfl) (by simp) (λi hi=>by rcases iL hi with rfl|rfl|rfl|rfl|rfl<;>(simp only[v1,v2,hn,go_sem,simprocAttr];first|done|rfl)) (by rfl)) .nil
   ·simp
  ·have hn:kD kept 2 to=to:=if_neg hc
   have hS:Cl kept first to=[]:=if_neg hc
   repeat first|with_reducible refine aw ?_|simp only[hc,decide_false,go_sem,simprocAttr]
   rw[hS]
   refine Wk.mk [1] [3] ?_ ?_ ?_
   ·simp only[bk,bh,go_sem,simprocAttr]
    repeat' refine ab ?_ ?_
    all_goals first|exact bu|skip
    all_goals first|exact Wv.same rfl|exact Wv.cv (Cv.own (ty:=60) (z:=0) (by simp) (by simp only[go_sem,simprocAttr]<;>rfl) (λi j _ hj=>cj i hj))|exact Wv.cv (.sl0 _ _)
   ·exact .cons rfl (.lsti (x:=_) (by simp only[go_sem,simprocAttr]<;>rfl) (by rfl) (by rfl) (by rfl) (by rfl) (by rfl) (by rfl) (by simp) (λi hi=>by rcases iL hi with rfl|rfl|rfl|rfl|rfl<;>(simp only[v1,v2,hn,go_sem,simprocAttr];first|done|rfl)) (by rfl)) .nil
   ·simp
abbrev B7:AV:= .agg [.sl0,.n .i64 0,.n .i64 0,.sl0]
section
variable (la:List (Bool×Int)) (regs par:Int) (cs:List In) (x:AV) (hla:la.length<1000000) (hcs:cs.length<=16384) (r n:Nat) (hr:4<=r/\r<=1024) (nm:Int->Option Int)
 (hc:bR Try.prog 27 [aP la.length (aC la) regs par cs] [.v x,.v (.n .i64 0)])
 (hcol:iw Try.prog 42 [.fs 5 cs.length (cC cs)] (λ_=>True) (λM rs N=>∃(r1:Nat) (x:dl),rs=[.v (.cv (.map (some r1))),.v (.n .i64 n)]/\N r1=some (.mp x)/\x.get=fu nm))
include hla hcs hr hc hcol
theorem zJ(hn:n<=r):bR Try.prog 17 [aP la.length (aC la) regs par cs,.n .i64 r] [.v (aP la.length (aC la) n par (cs.map (eM nm))),.v (.n .i64 0)]:=by
 have h4:¬(r:Int)<4:=by omega
 have h5:¬1024<(r:Int):=by omega
 have h6:(n:Int)<=(r:Int):=by omega
 refine aK bf Cj ⟨by simp,by decide⟩ ?_
 simp only[bI,aP] at hc ⊢
 repeat first|with_reducible refine aw ?_|simp only[go_sem,simprocAttr]
 refine sC hc ?_
 repeat first|with_reducible refine aw ?_|simp only[h4,h5,decide_true,decide_false,go_sem,simprocAttr]
 refine bN [] (.cons (.rfl (by rfl)) .nil) hcol True.intro (by simp only[AH.mark_next,ah,ay,az,am,ai,af,ag,List.length_cons,List.length_nil];decide) ?_
 rintro rs N ⟨r1,mx,rfl,hN,hget⟩ hfree
 repeat first|with_reducible refine aw ?_|simp only[h6,decide_true,go_sem,simprocAttr]
 refine bN [] (.cons (.rfl (by rfl)) (.cons (.rfl (by rfl)) (.cons (.rfl (by rfl)) .nil))) (kn r1 nm hla fX (by omega)) ⟨mx,?_,hget⟩ (by simp only[AH.mark_next,ah,ay,az,am,ai,av,af,ag,List.length_cons,List.length_nil];decide) ?_
 ·show jF (λ_=>none) N r1=_
  exact(eJ rfl).trans hN
 rintro rs N2 ⟨rfl,rfl⟩ hfree2
 simp only[aP]
 repeat first|with_reducible refine aw ?_|simp only[go_sem,simprocAttr]
 exact⟨[_,_],rfl,dS.v rfl rfl (dS.v rfl rfl .nil)⟩
def oo(nm:Int->Option Int)(kept first:Int)(cs:List In):List In:=(cs.map λx=>wY kept first (eM nm x)).flatten
omit hla hcs hr hc hcol in
theorem tr(kept first:Int):(oo nm kept first cs).length<=4*cs.length:=by
 unfold oo
 induction cs with
 |nil=>simp
 |cons x cs ih=>
  have:=tz kept first (eM nm x)
  simp only[List.map_cons,List.flatten_cons,List.length_append,List.length_cons]
  omega
omit hla hcs hr hc hcol in
theorem wS(kept first:Int)(k:Nat)(hk:k<cs.length):oo nm kept first (cs.take (k+1))=oo nm kept first (cs.take k)++wY kept first (eM nm (cs.getD k (0,0,0,0,0))):=by
 unfold oo
 rw[List.take_add_one,List.map_append,List.flatten_append,List.getD_eq_getElem?_getD,List.getElem?_eq_getElem hk]
 simp
theorem zI(hn:r<n)(hn2:n<=100000)(hpar:0<=par/\par<=1024)(hrg:∀y ∈ cs,(-1<=fN nm y.2.1/\fN nm y.2.1<100000)/\(-1<=fN nm y.2.2.1/\fN nm y.2.2.1<100000)/\(-1<=fN nm y.2.2.2.1/\fN nm y.2.2.2.1<100000)):
  bR Try.prog 17 [aP la.length (aC la) regs par cs,.n .i64 r] (if 1024<par+n-(r-3)\/16384<(oo nm (r-3) par cs).length then[.v B7,.v (.n .i64 6)] else[.v (aP la.length (aC la) r (par+n-(r-3)) (oo nm (r-3) par cs)),.v (.n .i64 0)]):=by
 have h4:¬(r:Int)<4:=by omega
 have h5:¬1024<(r:Int):=by omega
 have h6:¬(n:Int)<=(r:Int):=by omega
 have hw1:IntKind.wrap .i64 ((r:Int)-3)=(r:Int)-3:=aU (by omega)
 have hw2:IntKind.wrap .i64 (par+(n:Int))=par+n:=aU (by omega)
 have hw3:IntKind.wrap .i64 (par+(n:Int)-((r:Int)-3))=par+n-(r-3):=aU (by omega)
 have hadd:∀j:Nat,j<100000->IntKind.wrap .i64 ((j:Int)+1)=((j+1:Nat):Int):=λj hj=>by rw[aU (by omega)];omega
 have hC:=kx (na:=la.length) (ra:=aC la) (regs:=regs) (par:=par) (cs:=cs) hla fX (by omega)
 refine aK bf Cj ⟨by simp,by decide⟩ ?_
 simp only[bI,aP] at hc hC ⊢
 repeat first|with_reducible refine aw ?_|simp only[go_sem,simprocAttr]
 refine sC hc ?_
 repeat first|with_reducible refine aw ?_|simp only[h4,h5,decide_true,decide_false,go_sem,simprocAttr]
 refine bN [] (.cons (.rfl (by rfl)) .nil) hcol True.intro (by simp only[AH.mark_next,ah,ay,az,am,ai,af,ag,List.length_cons,List.length_nil];decide) ?_
 rintro rs N ⟨r1,mx,rfl,hN,hget⟩ hfree
 repeat first|with_reducible refine aw ?_|simp only[h6,hw1,decide_false,go_sem,simprocAttr]
 refine ao [] (.cons (.rfl (by rfl)) .nil) hC (by simp only[AH.mark_next,ah,ay,az,am,ai,av,af,ag,List.length_cons,List.length_nil];decide) ?_
 (try simp only[go_sem,simprocAttr])
 iterate 1 (with_reducible refine GA.go bf rfl ?_;try simp only[go_sem,simprocAttr])
 refine GA.mixm bf 5 (by simp only[eC,go_sem,simprocAttr]) ?_
 repeat first|with_reducible refine aw ?_|simp only[hw2,hw3,go_sem,simprocAttr]
 refine⟨.inr (by decide),?_⟩
 have hN1:jF (λ_=>none) N r1=some (.mp mx):=(eJ rfl).trans hN
 refine GA.wk (Wk.mkO (ob:=jF (λ_=>none) N) (L:=[(2,.p 0 0),(4,.p 1 0),(8,.cv (.map (some r1))),(10,.p 2 0),(11,.p 3 0)]) (bl:=[bg 0 25 [.fs 2 la.length (aC la),.n .i64 r,.n .i64 (par+n-(r-3)),.sl0],bg 0 83 [.n .i64 (r-3),.n .i64 par],bg 0 25 [.sl0,.n .i64 0,.n .i64 0,.sl0],bg 0 25 [.fs 2 la.length (aC la),.n .i64 regs,.n .i64 par,.fs 5 cs.length (cC cs)]]) [5,2,1,0] [3] ?_ ?_ ?_ (λr x h=>h)) ?_
 ·simp only[bk,bh,go_sem,simprocAttr]
  repeat' refine ab ?_ ?_
  all_goals first|exact bu|skip
 ·exact .cons rfl (.lstw (x:=_) (by simp only[go_sem,simprocAttr]<;>rfl) (by rfl) (by rfl) (by rfl) (by rfl) (by rfl) (by rfl) (by simp) (λi hi=>(by rcases iu hi with rfl|rfl|rfl|rfl<;>(simp only[go_sem,simprocAttr];first|exact Wv.same rfl|exact Wv.os rfl|exact Wv.cv (Cv.own (ty:=102) (z:=0) (by simp) (by simp only[go_sem,simprocAttr]) fX)|exact Wv.cv (Cv.own (ty:=60) (z:=0) (by simp) (by simp only[go_sem,simprocAttr]) (λi j _ hj=>cj i hj)))))) (.cons rfl (.lsti (x:=_) (by simp only[go_sem,simprocAttr]<;>rfl) (by rfl) (by rfl) (by rfl) (by rfl) (by rfl) (by rfl) (by simp) (λi hi=>(by have:i=0\/i=1:=(by simp at hi;omega);rcases this with rfl|rfl<;>simp only[go_sem,simprocAttr])) (by rfl)) (.cons rfl .ls (.cons rfl .ls .nil)))
 ·simp
 refine GA.wk (Wk.nilb 3 3 5 60 (x:=bg 0 25 [.fs 2 la.length (aC la),.n .i64 r,.n .i64 (par+n-(r-3)),.sl0]) (by simp only[go_sem,simprocAttr]) (by simp only[go_sem,simprocAttr]) (by decide) (by decide) (by simp only[go_sem,simprocAttr]) rfl (by simp only[go_sem,simprocAttr])) ?_
 repeat first|with_reducible refine aw ?_|simp only[go_sem,simprocAttr]
 refine GA.loop (I:=λmm e H=>∃(k:Nat) (ob:Nat->Option OB) (mx:dl),mm=cs.length-k/\k<=cs.length/\ob r1=some (.mp mx)/\mx.get=fu nm/\e=aE [(4,.p 1 0),(8,.cv (.map (some r1))),(10,.p 2 0),(11,.p 3 0),(62,.fs 5 cs.length (cC cs)),(63,.n .i64 cs.length),(64,.n .i64 k)]/\
   H=ba ob [aH 60 5 (oo nm (r-3) par (cs.take k)).length 0 (cC (oo nm (r-3) par (cs.take k))),bg 0 25 [.fs 2 la.length (aC la),.n .i64 r,.n .i64 (par+n-(r-3)),.os 4 (oo nm (r-3) par (cs.take k)).length],bg 0 83 [.n .i64 (r-3),.n .i64 par],bg 0 25 [.sl0,.n .i64 0,.n .i64 0,.sl0],bg 0 25 [.fs 2 la.length (aC la),.n .i64 regs,.n .i64 par,.fs 5 cs.length (cC cs)]]) (Wk.mkS [4,3,2,1,0] [] ?_ ?_ ?_) ⟨0,_,mx,rfl,Nat.zero_le _,?_,hget,rfl,rfl⟩ ?_
 ·simp only[bk,bh,go_sem,simprocAttr]
  repeat' refine ab ?_ ?_
  all_goals first|exact bu|skip
 ·exact .cons rfl (.rows (x:=_) (by simp only[go_sem,simprocAttr];rfl) (by rfl) (by rfl) (by rfl) (by show 0*5<=0;decide) (by exact Nat.le_refl _) (by decide) (λi j hi=>absurd (show i<0 from hi) (Nat.not_lt_zero _)) (λi j hi=>absurd (show i<0 from hi) (Nat.not_lt_zero _))) (.cons rfl (.lstw (x:=_) (by simp only[go_sem,simprocAttr]<;>rfl) (by rfl) (by rfl) (by rfl) (by rfl) (by rfl) (by rfl) (by simp) (λi hi=>(by rcases iu hi with rfl|rfl|rfl|rfl<;>(simp only[go_sem,simprocAttr];first|exact Wv.same rfl|exact Wv.os rfl|exact Wv.cv (Cv.own (ty:=102) (z:=0) (by simp) (by simp only[go_sem,simprocAttr]) fX)|exact Wv.cv (Cv.own (ty:=60) (z:=0) (by simp) (by simp only[go_sem,simprocAttr]) (λi j _ hj=>cj i hj)))))) (.cons rfl .ls (.cons rfl .ls (.cons rfl .ls .nil))))
 ·simp
 ·exact hN1
 clear hN1 hN hget hfree
 rintro mm e H ⟨k,ob,mx,rfl,hk,hob,hget,rfl,rfl⟩
 repeat first|with_reducible refine aw ?_|simp only[go_sem,simprocAttr]
 refine⟨λh=>?_,λh=>?_⟩
 ·have hkl:k<cs.length:=by omega
  have hk0:(0:Int)<=(k:Int):=by omega
  have ha:=hadd k (by omega)
  have hcc0:=ww cs k
  have hcc1:=CB cs k
  have hcc2:=CA cs k
  have hcc3:=Cz cs k
  have hcc4:=Cy cs k
  have hxm:cs.getD k (0,0,0,0,0) ∈ cs:=by rw[List.getD_eq_getElem?_getD,List.getElem?_eq_getElem hkl];exact List.getElem_mem hkl
  have htk:=wS cs nm (r-3) par k hkl
  have htl:=tr (cs.take k) nm (r-3) par
  have htl2:(cs.take k).length<=16384:=by rw[List.length_take];omega
  have hrx:=hrg _ hxm
  generalize cs.getD k (0,0,0,0,0)=y at hcc0 hcc1 hcc2 hcc3 hcc4 htk hrx
  have hrw:=fS (pX (eM nm y) (r-3) par (by omega) (by omega) hrx) (by rfl)
  have hrl:=tz (r-3) par (eM nm y)
  have hrep:=jc y r1 nm
  obtain⟨op,to,a,b,arg⟩:=y
  have hSl:(oo nm (r-3) par (cs.take (k+1))).length=(oo nm (r-3) par (cs.take k)).length+(wY (r-3) par (eM nm (op,to,a,b,arg))).length:=by rw[htk,List.length_append]
  generalize hX:oo nm (r-3) par (cs.take k)=X at*
  generalize hY:wY (r-3) par (eM nm (op,to,a,b,arg))=Y at*
  have hl1:(X.length+Y.length)*5<1099511627776:=by omega
  have hl2:(X.length+Y.length)*40<=140737488355328:=by omega
  have hl3:X.length+Y.length<=9223372036854775807:=by omega
  simp only[iP,eM] at hrep hrw
  repeat first|with_reducible refine aw ?_|simp only[hk0,h,hcc0,hcc1,hcc2,hcc3,hcc4,decide_true,go_sem,simprocAttr]
  refine bN [] (.cons (.rfl (by rfl)) (.cons (.rfl (by rfl)) .nil)) hrep ⟨mx,?_,hget⟩ (by simp only[AH.mark_next,ah,ay,az,am,ai,av,af,ag,List.length_cons,List.length_nil];decide) ?_
  ·exact hob
  rintro rs N2 ⟨rfl,rfl⟩ hfree2
  clear hfree2
  simp only[List.map_cons,List.map_nil,RT.fz] at hrw
  repeat first|with_reducible refine aw ?_|simp only[go_sem,simprocAttr]
  refine ao [] (.cons (.rfl (by rfl)) (.cons (.rfl (by rfl)) .nil)) hrw (by simp only[AH.mark_next,ah,ay,az,am,ai,av,af,ag,List.length_cons,List.length_nil];decide) ?_
  repeat first|with_reducible refine aw ?_|simp only[ha,hl1,hl2,hl3,decide_true,go_sem,simprocAttr]
  refine⟨_,aE [(4,.p 1 0),(8,.cv (.map (some r1))),(10,.p 2 0),(11,.p 3 0),(62,.fs 5 cs.length (cC cs)),(63,.n .i64 cs.length),(64,.n .i64 (k+1:Nat))],ba ob [aH 60 5 (oo nm (r-3) par (cs.take (k+1))).length 0 (cC (oo nm (r-3) par (cs.take (k+1)))),bg 0 25 [.fs 2 la.length (aC la),.n .i64 r,.n .i64 (par+n-(r-3)),.os 4 (oo nm (r-3) par (cs.take (k+1))).length],bg 0 83 [.n .i64 (r-3),.n .i64 par],bg 0 25 [.sl0,.n .i64 0,.n .i64 0,.sl0],bg 0 25 [.fs 2 la.length (aC la),.n .i64 regs,.n .i64 par,.fs 5 cs.length (cC cs)]],?_,?_,k+1,ob,mx,rfl,by omega,hob,hget,rfl,rfl⟩
  ·omega
  rw[hSl,htk]
  refine Wk.mkO [6,3,2,1,0] [] ?_ ?_ ?_ (λq y hq=>by simp only[go_sem,simprocAttr];exact hq)
  ·simp only[bk,bh,go_sem,simprocAttr]
   repeat' refine ab ?_ ?_
   all_goals first|exact bu|skip
  ·refine .cons rfl (.rows (x:=_) (by simp only[go_sem,simprocAttr];rfl) (by rfl) (by rfl) (by rfl) (by rw[app_size];show(X.length+Y.length)*5<=_;simp only[cg.len];omega) (by rw[cz];exact Nat.le_refl _) (by decide) (λi j hi hj=>?_) (λi j _ hj=>by rcases iL hj with rfl|rfl|rfl|rfl|rfl<;>rfl)) (.cons rfl (.lstw (x:=_) (by simp only[go_sem,simprocAttr]<;>rfl) (by rfl) (by rfl) (by rfl) (by rfl) (by rfl) (by rfl) (by simp) (λi hi=>(by rcases iu hi with rfl|rfl|rfl|rfl<;>(simp only[go_sem,simprocAttr];first|exact Wv.same rfl|exact Wv.os rfl|exact Wv.cv (Cv.own (ty:=102) (z:=0) (by simp) (by simp only[go_sem,simprocAttr]) fX)|exact Wv.cv (Cv.own (ty:=60) (z:=0) (by simp) (by simp only[go_sem,simprocAttr]) (λi j _ hj=>cj i hj)))))) (.cons rfl .ls (.cons rfl .ls (.cons rfl .ls .nil))))
   rw[iX hj hi (by omega)]
   unfold cC
   by_cases e:X.length<=i
   ·rw[if_pos e,List.getD_eq_getElem?_getD (l:=X++Y),List.getElem?_append_right e,<-List.getD_eq_getElem?_getD]
   ·rw[if_neg e,aL i j hj,List.getD_eq_getElem?_getD (l:=X++Y),List.getElem?_append_left (by omega),<-List.getD_eq_getElem?_getD]
  ·simp
 ·have hkk:k=cs.length:=by omega
  subst hkk
  rw[List.take_length]
  have hsl:=tr cs nm (r-3) par
  generalize oo nm (r-3) par cs=X at*
  refine GA.wk (Wk.mkS (L:=[(4,.p 1 0),(11,.p 2 0)]) (bl:=[bg 0 25 [.fs 2 la.length (aC la),.n .i64 r,.n .i64 (par+n-(r-3)),.fs 5 X.length (cC X)],bg 0 25 [.sl0,.n .i64 0,.n .i64 0,.sl0],bg 0 25 [.fs 2 la.length (aC la),.n .i64 regs,.n .i64 par,.fs 5 cs.length (cC cs)]]) [3,1,0] [4] ?_ ?_ ?_) ?_
  ·simp only[bk,bh,go_sem,simprocAttr]
   repeat' refine ab ?_ ?_
   all_goals first|exact bu|skip
  ·exact .cons rfl (.lstw (x:=_) (by simp only[go_sem,simprocAttr]<;>rfl) (by rfl) (by rfl) (by rfl) (by rfl) (by rfl) (by rfl) (by simp) (λi hi=>(by rcases iu hi with rfl|rfl|rfl|rfl<;>(simp only[go_sem,simprocAttr];first|exact Wv.same rfl|exact Wv.os rfl|exact Wv.cv (Cv.own (ty:=102) (z:=0) (by simp) (by simp only[go_sem,simprocAttr]) fX)|exact Wv.cv (Cv.own (ty:=60) (z:=0) (by simp) (by simp only[go_sem,simprocAttr]) (λi j _ hj=>cj i hj)))))) (.cons rfl .ls (.cons rfl .ls .nil))
  ·simp
  by_cases hs1:1024<par+n-(r-3)
  ·rw[if_pos (Or.inl hs1)]
   repeat first|with_reducible refine aw ?_|simp only[hs1,decide_true,go_sem,simprocAttr]
   exact⟨[_,_],rfl,dS.v rfl rfl (dS.v rfl rfl .nil)⟩
  by_cases hs2:16384<X.length
  ·rw[if_pos (Or.inr hs2)]
   have hs3:(16384:Int)<(X.length:Int):=by omega
   repeat first|with_reducible refine aw ?_|simp only[hs1,hs3,decide_true,decide_false,go_sem,simprocAttr]
   exact⟨[_,_],rfl,dS.v rfl rfl (dS.v rfl rfl .nil)⟩
  rw[if_neg (by omega)]
  have hs3:¬(16384:Int)<(X.length:Int):=by omega
  repeat first|with_reducible refine aw ?_|simp only[hs1,hs3,decide_true,decide_false,go_sem,simprocAttr]
  exact⟨[_,_],rfl,dS.v rfl rfl (dS.v rfl rfl .nil)⟩
end
end Go.Proofs.Yteopfmnnhlhbmaa