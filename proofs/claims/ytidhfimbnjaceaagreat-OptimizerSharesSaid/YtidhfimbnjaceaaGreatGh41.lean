/- A part of the proof of OptimizerShares: FvD. No condition. -/
import Derived.Test.YtidhfimbnjaceaaGreatGh33
import Derived.Test.YtidhfimbnjaceaaGreatGh37
set_option linter.unusedSimpArgs false
set_option linter.unusedVariables false
set_option linter.constructorNameAsVariable false
set_option maxRecDepth 100000
set_option maxHeartbeats 4000000
namespace Go.Proofs.YtidhfimbnjaceaaGreat
open Go.RowKit
def fO (st:List (List In)) (i _j:Nat):AV:= .fs 5 (st.reverse.getD i []).length (cC (st.reverse.getD i []))
theorem dm (st:List (List In)) (i j:Nat):(fO st i j).pu 3=true:=rfl
theorem jX (st:List (List In)) (t:List In) (i j:Nat) (hi:i<st.length):fO (t::st) i j=fO st i j:=by
 unfold fO;rw[List.reverse_cons,aK (by simpa using hi)]
theorem mw (st:List (List In)) (t:List In) (j:Nat):fO (t::st) st.length j= .fs 5 t.length (cC t):=by
 unfold fO;rw[List.reverse_cons]
 have:=aL (l:=st.reverse) (x:=t) (d:=[])
 rw[List.length_reverse] at this
 rw[this]
def je (n m k:Nat) (l:List In):Prop:=l.length<=k/\∀f ∈ l,xd n m f
structure qi (n m k:Nat) (s:sg (List In)):Prop where
 out:s.out.length<=k
 st:s.st.length<=k
 fk:je n m k s.k
 kst:∀t ∈ s.st,je n m k t
theorem je.mono {n m k k':Nat} {l:List In} (h:je n m k l) (hk:k<=k'):je n m k' l:=⟨Nat.le_trans h.1 hk,h.2⟩
theorem je.filter {n m k:Nat} {l:List In} (h:je n m k l) (p:In->Bool):je n m k (l.filter p):=⟨Nat.le_trans (List.length_filter_le _ _) h.1,λf hf=>h.2 f (List.mem_filter.1 hf).1⟩
def P3 (k xs:List In):List In:=dQ (iv xs) (jc xs) k
theorem sy {n m:Nat} {cs:List In} {pt:List Int} {k i:Nat} {op:Int} {l:List In} {st:List (List In)} {q:List In×List (List In)} (h1:st.length<=k) (h2:je n m k l) (h3:∀t ∈ st,je n m k t)
  (h:C3 P3 ij cs pt i op l st=some q):q.2.length<=k+1/\je n m k q.1/\∀t ∈ q.2,je n m k t:=by
 unfold C3 at h
 split at h
 ·cases h
  refine⟨by simp;omega,h2,λt ht=>?_⟩
  rcases List.mem_cons.1 ht with rfl|ht
  ·exact h2
  ·exact h3 t ht
 split at h
 ·split at h
  ·rename_i t r
   cases h
   refine⟨by simp at h1 ⊢;omega,h3 t (List.mem_cons_self ..),λt' ht=>?_⟩
   rcases List.mem_cons.1 ht with rfl|ht
   ·exact h2
   ·exact h3 t' (List.mem_cons_of_mem _ ht)
  ·cases h
 split at h
 ·split at h
  ·cases h;exact⟨by simp only;omega,h2.filter _,h3⟩
  ·cases h
 split at h
 ·split at h
  ·split at h
   ·cases h;exact⟨by simp only;omega,h2.filter _,h3⟩
   ·split at h
    ·rename_i t r
     cases h
     exact⟨by simp at h1 ⊢;omega,h2.filter _,λt' ht=>h3 t' (List.mem_cons_of_mem _ ht)⟩
    ·cases h
  ·cases h
 cases h
 exact⟨by simp only;omega,h2,h3⟩
theorem qu {n m k:Nat} {x:In} {s:sg (List In)} {q:List In×List (List In)} (h:qi n m k s) (hx:dv x.1=true->xd n m x) (h1:q.2.length<=k+1) (h2:je n m k q.1) (h3:∀t ∈ q.2,je n m k t):qi n m (k+1) (oX sF x s q):=by
 have ho:=h.out
 unfold oX sF
 split
 ·rename_i r hr
  split at hr
  ·cases hr
  cases hr
  refine⟨by simp;omega,h1,?_,λt ht=>(h3 t ht).mono (by omega)⟩
  simp only
  have hf:=h2.filter (λf=> !cF (iv [x]) (jc [x]) f)
  split
  ·rename_i hc
   refine⟨by rw[List.length_append];have:=hf.1;simp only[List.length_cons,List.length_nil,dQ];omega,λf hf'=>?_⟩
   rcases List.mem_append.1 hf' with h'|h'
   ·exact hf.2 f h'
   ·rw[List.mem_singleton] at h';subst h';exact hx hc.1
  ·rw[List.append_nil];exact hf.mono (by omega)
 ·exact⟨by simp only;omega,h1,h2.mono (by omega),λt ht=>(h3 t ht).mono (by omega)⟩
theorem ny (H:AH) (b:Nat):min H.low b<=(H.kill b).low:=by
 unfold AH.kill
 split
 ·exact Nat.le_refl _
 ·exact Nat.min_le_left _ _
theorem rQ {x:AB} {L:List In} {y:In} {l:List AV} (hl:l.length=5) (hn:L.length<1000000) (h:∀j,j<5->l[j]?.getD .u=pX y j) {i j:Nat} (hi:i<L.length+1) (hj:j<5):
  ((x.app 0 (.fn (L.length*5) λi=>cC L (i / 5) (i%5))).app (L.length*5) (.li l)).get (i*5+j)=cC (L++[y]) i j:=by
 rw[AB.app_get _ _ _ _ (by simp only[dp.len];omega) (by simp only[dp.len];omega)]
 by_cases h2:i<L.length
 ·rw[if_neg (by omega),AB.app_get _ _ _ _ (by simp only[dp.len];omega) (by simp only[dp.len];omega),if_pos (by omega),Nat.sub_zero]
  show cC L ((i*5+j) / 5) ((i*5+j)%5)=_
  rw[show(i*5+j) / 5=i by omega,show(i*5+j)%5=j by omega]
  unfold cC
  rw[aK h2]
 ·obtain rfl:i=L.length:=by omega
  rw[if_pos (by omega)]
  show l[L.length*5+j-L.length*5]?.getD .u=_
  rw[show L.length*5+j-L.length*5=j by omega,h j hj]
  unfold cC
  rw[aL]
theorem oy {na:Nat} {ra:Nat->Nat->AV} {regs:Nat} {par:Int} {cs:List In} {pt:List Int} {xc p2 p3:AV} {fin:sg (List In)} (hna:na<1000000) (hra:∀i j,i<na->j<2->(ra i j).cell=true) (hcs:cs.length<100000) (hr:regs<1000000)
  (hck:a7 Tryz.prog 26 [ag na ra regs par cs] [.v xc,.v (.n .i64 0)])
  (hpt:a7 Tryz.prog 27 [.fs 5 cs.length (cC cs)] [.v (.fs 1 pt.length (iC .i64 pt)),.v p2,.v p3]) (hptl:pt.length=cs.length)
  (hin:∀x ∈ cs,(0<=x.1/\x.1<39)/\bf x.1 x.2.1<regs) (hin4:∀x ∈ cs,x.1=4->0<=x.2.2.2.2/\x.2.2.2.2<na) (hinE:∀x ∈ cs,dv x.1=true->xd regs na x) (hgo:v5 P3 ij sF cs pt cs 0 ⟨[],[],[]⟩=some fin):
  a7 Tryz.prog 16 [ag na ra regs par cs] [.a [.v (.fs 2 na ra),.v (.n .i64 regs),.v (.n .i64 par),.o 37 5 fin.out.length 0 (cC fin.out)],.v (.n .i64 0)]:=by
 have hin':=hin
 have hcp:=qD (na:=na) (ra:=ra) (regs:=regs) (par:=par) (cs:=cs) hna hra (by omega)
 refine ah aa wL ⟨by simp,by decide⟩ ?_
 simp only[aW,ag] at hck hcp ⊢
 repeat (first|(with_reducible refine GA.go aa rfl ?_)|simp only[go_sem,simprocAttr])
 refine ab [] (.cons (.rfl (by rfl)) .nil) hck (by simp only[go_sem,simprocAttr]) ?_
 repeat (first|(with_reducible refine GA.go aa rfl ?_)|simp only[decide_true,go_sem,simprocAttr])
 refine ab [] (.cons (.rfl (by rfl)) .nil) hpt (by simp only[go_sem,simprocAttr]) ?_
 repeat (first|(with_reducible refine GA.go aa rfl ?_)|simp only[go_sem,simprocAttr])
 refine ab [] (.cons (.rfl (by rfl)) .nil) hcp (by simp only[go_sem,simprocAttr]) ?_
 repeat (first|(with_reducible refine GA.go aa rfl ?_)|simp only[go_sem,simprocAttr])
 refine GA.wk (Wk.mk (L:=[(1,.p 0 0),(2,.p 1 0),(3,.n .i64 0),(6,.fs 1 pt.length (iC .i64 pt)),(9,.p 2 0),(10,.fs 5 0 (cC [])),(11,.sl0),(12,.n .i64 0)]) (bl:=[ax 0 25 [.fs 2 na ra,.n .i64 regs,.n .i64 par,.sl0],ax 0 25 [.sl0,.n .i64 0,.n .i64 0,.sl0],ax 0 25 [.fs 2 na ra,.n .i64 regs,.n .i64 par,.fs 5 cs.length (cC cs)]]) [4,1,0] [2] ?_ ?_ ?_) ?_
 ·simp only[aP,aR,go_sem,simprocAttr]
  repeat' refine ae ?_ ?_
  all_goals first|exact bB|skip
  exact .cv (.sl0 _ _)
 ·exact(.cons rfl (.lstw (x:=_) (by simp only[go_sem,simprocAttr]<;>rfl) (by rfl) (by rfl) (by rfl) (by rfl) (by rfl) (by rfl) (by simp) (λi hi=>(by rcases lt4 hi with rfl|rfl|rfl|rfl<;>(simp only[go_sem,simprocAttr];first|exact Wv.same rfl|exact Wv.os rfl|exact Wv.cv (Cv.own (ty:=93) (z:=0) (by simp) (by simp only[go_sem,simprocAttr]) hra))))) (.cons rfl (.ls) (.cons rfl (.ls) .nil)))
 ·simp
 refine GA.wk (Wk.nilb 2 3 5 37 (x:=ax 0 25 [.fs 2 na ra,.n .i64 regs,.n .i64 par,.sl0]) (by simp only[go_sem,simprocAttr]) (by simp only[go_sem,simprocAttr]) (by decide) (by decide) (by simp only[go_sem,simprocAttr]) rfl (by simp only[go_sem,simprocAttr])) ?_
 refine GA.wk (Wk.nil 11 1 65 (by simp only[go_sem,simprocAttr]) (by decide) (by simp only[go_sem,simprocAttr])) ?_
 simp only[cr,go_sem,simprocAttr]
 refine GA.loop (I:=λmm e H=>∃(i:Nat) (s:sg (List In)),mm=cs.length-i/\i<=cs.length/\qi regs na i s/\v5 P3 ij sF cs pt (cs.drop i) i s=some fin/\e=aI [(1,.p 0 0),(2,.p 1 0),(3,.n .i64 0),(6,.fs 1 pt.length (iC .i64 pt)),(9,.p 2 0),(10,.fs 5 s.k.length (cC s.k)),(11,.os 4 s.st.length),(12,.n .i64 i)]/\H=am [ar 65 1 s.st.length 0 (fO s.st),ar 37 5 s.out.length 0 (cC s.out),ax 0 25 [.fs 2 na ra,.n .i64 regs,.n .i64 par,.os 3 s.out.length],ax 0 25 [.sl0,.n .i64 0,.n .i64 0,.sl0],ax 0 25 [.fs 2 na ra,.n .i64 regs,.n .i64 par,.fs 5 cs.length (cC cs)]]) (Wk.mk [4,3,2,1,0] [] ?_ ?_ ?_) ⟨0,⟨[],[],[]⟩,rfl,by omega,⟨by simp,by simp,⟨by simp,by simp⟩,by simp⟩,hgo,rfl,rfl⟩ ?_
 ·simp only[aP,aR,go_sem,simprocAttr]
  repeat' refine ae ?_ ?_
  all_goals first|exact bB|skip
 ·exact(.cons rfl (.rows (by simp only[go_sem,simprocAttr];rfl) rfl rfl rfl (by simp) (by decide) (by decide) (λi j h=>by simp at h) (λi j h=>by simp at h)) (.cons rfl (.rows (by simp only[go_sem,simprocAttr];rfl) rfl rfl rfl (by simp) (by decide) (by decide) (λi j h=>by simp at h) (λi j h=>by simp at h)) (.cons rfl (.w4) (.cons rfl (.ls) (.cons rfl (.ls) .nil)))))
 ·simp
 rintro mm e H ⟨k,⟨out,l,st⟩,rfl,hk,hinv,hs,rfl,rfl⟩
 have⟨ho,hst,hl,hlst⟩:=hinv
 simp only at ho hst hl hlst
 repeat (first|(with_reducible refine GA.go aa rfl ?_)|simp only[go_sem,simprocAttr])
 refine⟨λh=>?_,λh=>?_⟩
 ·have hkn:k<cs.length:=by omega
  have h0:(0:Int)<=(k:Int):=by omega
  have hk1:k+1<=cs.length:=hkn
  have hkp:k<pt.length:=by omega
  have hkpi:(k:Int)<(pt.length:Int):=by omega
  have hm:cs.getD k (0,0,0,0,0) ∈ cs:=by rw[List.getD_eq_getElem?_getD,List.getElem?_eq_getElem hkn];exact List.getElem_mem _
  rw[bJ (d:=(0,0,0,0,0)) hkn,v5] at hs
  have htd:(cs.take (k+1)).drop k=[cs.getD k (0,0,0,0,0)]:=by
   rw[cW (d:=(0,0,0,0,0)) hkn,List.drop_append_of_le_length (by rw[List.length_take];omega),List.drop_eq_nil_of_le (by rw[List.length_take];omega)];rfl
  obtain⟨s2,hsw,hs⟩:=Option.bind_eq_some_iff.1 hs
  have hcc0:=iu cs k
  have hcc1:=kH cs k
  have hcc2:=lX cs k
  have hcc3:=lW cs k
  have hcc4:=lu cs k
  have hcall:=iY (n:=regs) (m:=na) (w:=iv ((cs.take (k+1)).drop k)) (ch:=jc ((cs.take (k+1)).drop k))
  generalize cs.getD k (0,0,0,0,0)=x at hsw hcc0 hcc1 hcc2 hcc3 hcc4 hm htd
  obtain⟨hxo,hxw⟩:=hin x hm
  have hxE:=hinE x hm
  unfold nJ at hsw
  obtain⟨qq,hsw,hfin⟩:=Option.map_eq_some_iff.1 hsw
  obtain⟨hq1,hq2,hq3⟩:=sy hst hl hlst hsw
  have key:qi regs na (k+1) s2:=hfin ▸ qu hinv hxE hq1 hq2 hq3
  obtain⟨opc,to,a,b,arg⟩:=x
  simp only at hsw hcc0 hcc1 hcc2 hcc3 hcc4 hxo hxw hxE
  (try simp only[h0,h,hcc0,hcc1,hcc2,hcc3,hcc4,go_sem,simprocAttr])
  iterate 11 (with_reducible refine GA.go aa rfl ?_;try simp only[h0,h,hcc0,hcc1,hcc2,hcc3,hcc4,go_sem,simprocAttr])
  have hls:(st.length+1)*1<1099511627776/\(st.length+1)*24<=140737488355328/\st.length+1<=9223372036854775807/\st.length*1+1<1099511627776/\st.length+1<1099511627776:=by omega
  have hll:=hl.1
  refine GA.wk (Wk.mk (L:=[(1,.p 0 0),(2,.p 1 0),(3,.n .i64 0),(6,.fs 1 pt.length (iC .i64 pt)),(9,.p 2 0),(10,.fs 5 l.length (cC l)),(11,.os 4 st.length),(12,.n .i64 k),(13,.p 5 0),(14,.n .i64 st.length),(52,.n .i64 opc)]) (bl:=[ax 0 37 [.n .i64 opc,.n .i64 to,.n .i64 a,.n .i64 b,.n .u32 arg],ar 65 1 st.length 0 (fO st),ar 37 5 out.length 0 (cC out),ax 0 25 [.fs 2 na ra,.n .i64 regs,.n .i64 par,.os 3 out.length],ax 0 25 [.sl0,.n .i64 0,.n .i64 0,.sl0],ax 0 25 [.fs 2 na ra,.n .i64 regs,.n .i64 par,.fs 5 cs.length (cC cs)]]) [5,4,3,2,1,0] [] ?_ ?_ ?_) ?_
  ·simp only[aP,aR,go_sem,simprocAttr]
   repeat' refine ae ?_ ?_
   all_goals first|exact bB|skip
  ·exact(.cons rfl (.lsti (x:=_) (by simp only[go_sem,simprocAttr]<;>rfl) (by rfl) (by rfl) (by rfl) (by rfl) (by rfl) (by rfl) (by simp) (λi hi=>by rcases bZ hi with rfl|rfl|rfl|rfl|rfl<;>simp only[go_sem,simprocAttr]) (by rfl)) (.cons rfl (.keep (by simp only[go_sem,simprocAttr]) rfl (by decide) (λi j _ hj=>dm _ _ _)) (.cons rfl (.k5) (.cons rfl (.w4) (.cons rfl (.ls) (.cons rfl (.ls) .nil))))))
  ·simp
  refine GA.cutQ (aI [(1,.p 0 0),(2,.p 1 0),(3,.n .i64 0),(6,.fs 1 pt.length (iC .i64 pt)),(9,.p 2 0),(10,.fs 5 qq.1.length (cC qq.1)),(11,.os 4 qq.2.length),(12,.n .i64 k),(13,.p 5 0)]) (am [ax 0 37 [.n .i64 opc,.n .i64 to,.n .i64 a,.n .i64 b,.n .u32 arg],ar 65 1 qq.2.length 0 (fO qq.2),ar 37 5 out.length 0 (cC out),ax 0 25 [.fs 2 na ra,.n .i64 regs,.n .i64 par,.os 3 out.length],ax 0 25 [.sl0,.n .i64 0,.n .i64 0,.sl0],ax 0 25 [.fs 2 na ra,.n .i64 regs,.n .i64 par,.fs 5 cs.length (cC cs)]]) ?_ ?_
  rotate_left
  ·intro e' H' hw
   refine GA.wk hw ?_
   clear hsw
   have hql:=hq2.1
   have hol:(out.length+1)*5<1099511627776/\(out.length+1)*40<=140737488355328/\out.length+1<=9223372036854775807/\out.length*5+5<1099511627776:=by omega
   have endd:∀(yop yto ya yb yarg:Int) (L:List In) (e1:Tr AV) (H1:AH) (Q:AE->Tr AV->AH->Prop),s2=⟨out++[(yop,yto,ya,yb,yarg)],L,qq.2⟩->Wk 206 e1 H1 (aI [(1,.p 0 0),(2,.p 1 0),(3,.n .i64 0),(6,.fs 1 pt.length (iC .i64 pt)),(9,.p 2 0),(10,.fs 5 L.length (cC L)),(11,.os 4 qq.2.length),(12,.n .i64 k),(16,.p 6 0)]) (am [ax 0 37 [.n .i64 yop,.n .i64 yto,.n .i64 ya,.n .i64 yb,.n .u32 yarg],ax 0 37 [.n .i64 opc,.n .i64 to,.n .i64 a,.n .i64 b,.n .u32 arg],ar 65 1 qq.2.length 0 (fO qq.2),ar 37 5 out.length 0 (cC out),ax 0 25 [.fs 2 na ra,.n .i64 regs,.n .i64 par,.os 3 out.length],ax 0 25 [.sl0,.n .i64 0,.n .i64 0,.sl0],ax 0 25 [.fs 2 na ra,.n .i64 regs,.n .i64 par,.fs 5 cs.length (cC cs)]])->(∀e' H',Wk 206 e' H' (aI [(1,.p 0 0),(2,.p 1 0),(3,.n .i64 0),(6,.fs 1 pt.length (iC .i64 pt)),(9,.p 2 0),(10,.fs 5 s2.k.length (cC s2.k)),(11,.os 4 s2.st.length),(12,.n .i64 k)]) (am [ar 65 1 s2.st.length 0 (fO s2.st),ar 37 5 s2.out.length 0 (cC s2.out),ax 0 25 [.fs 2 na ra,.n .i64 regs,.n .i64 par,.os 3 s2.out.length],ax 0 25 [.sl0,.n .i64 0,.n .i64 0,.sl0],ax 0 25 [.fs 2 na ra,.n .i64 regs,.n .i64 par,.fs 5 cs.length (cC cs)]])->Q .normal e' H')->GA Tryz.prog 206 (aj Tryz.prog 16) (.reg og) e1 H1 Q:=by
    intro yop yto ya yb yarg L e1 H1 Q hs2 hw1 hq
    refine GA.wk hw1 (GA.cutQ _ _ ?_ hq)
    subst hs2
    repeat (first|(with_reducible refine GA.go aa rfl ?_)|simp only[hol.1,hol.2.1,hol.2.2.1,hol.2.2.2,decide_true,go_sem,simprocAttr])
    refine Wk.mk [4,8,2,1,0] [] ?_ ?_ ?_
    ·simp only[aP,aR,go_sem,simprocAttr]
     repeat' refine ae ?_ ?_
     all_goals first|exact bB|skip
    ·refine(.cons rfl (.keep (by simp only[go_sem,simprocAttr]) rfl (by decide) (λi j _ hj=>dm _ _ _)) (.cons rfl (.snoc (by simp only[go_sem,simprocAttr]<;>rfl) (by simp) (by rfl) rfl (by decide) (by omega) (λi j hi _=>by unfold cC;rw[aK hi]) (λj hj=>?_) (λi j _ hj=>by rcases bZ hj with rfl|rfl|rfl|rfl|rfl<;>rfl)) (.cons rfl (.w4) (.cons rfl (.ls) (.cons rfl (.ls) .nil)))))
     unfold cC;rw[aL];rcases bZ hj with rfl|rfl|rfl|rfl|rfl<;>rfl
    ·simp
   have hadd:IntKind.wrap .i64 ((k:Int)+1)=((k+1:Nat):Int):=by rw[cG (by omega)];omega
   have mid:∀(yop yto ya yb yarg ix:Int) (e1:Tr AV) (H1:AH) (Q:AE->Tr AV->AH->Prop),Wk 206 e1 H1 (aI [(1,.p 0 0),(2,.p 1 0),(3,.n .i64 0),(6,.fs 1 pt.length (iC .i64 pt)),(9,.p 2 0),(10,.fs 5 qq.1.length (cC qq.1)),(11,.os 4 qq.2.length),(12,.n .i64 k),(13,.p 5 0),(15,.n .i64 ix),(16,.p 6 0)]) (am [ax 0 37 [.n .i64 yop,.n .i64 yto,.n .i64 ya,.n .i64 yb,.n .u32 yarg],ax 0 37 [.n .i64 opc,.n .i64 to,.n .i64 a,.n .i64 b,.n .u32 arg],ar 65 1 qq.2.length 0 (fO qq.2),ar 37 5 out.length 0 (cC out),ax 0 25 [.fs 2 na ra,.n .i64 regs,.n .i64 par,.os 3 out.length],ax 0 25 [.sl0,.n .i64 0,.n .i64 0,.sl0],ax 0 25 [.fs 2 na ra,.n .i64 regs,.n .i64 par,.fs 5 cs.length (cC cs)]])->s2=⟨out++[(yop,yto,ya,yb,yarg)],dQ (iv [(opc,to,a,b,arg)]) (jc [(opc,to,a,b,arg)]) qq.1++(if dv opc=true/\ix<0/\to≠a/\to≠b then[(opc,to,a,b,arg)] else[]),qq.2⟩->(∀e' H',Wk 206 e' H' (aI [(1,.p 0 0),(2,.p 1 0),(3,.n .i64 0),(6,.fs 1 pt.length (iC .i64 pt)),(9,.p 2 0),(10,.fs 5 s2.k.length (cC s2.k)),(11,.os 4 s2.st.length),(12,.n .i64 k)]) (am [ar 65 1 s2.st.length 0 (fO s2.st),ar 37 5 s2.out.length 0 (cC s2.out),ax 0 25 [.fs 2 na ra,.n .i64 regs,.n .i64 par,.os 3 s2.out.length],ax 0 25 [.sl0,.n .i64 0,.n .i64 0,.sl0],ax 0 25 [.fs 2 na ra,.n .i64 regs,.n .i64 par,.fs 5 cs.length (cC cs)]])->Q .normal e' H')->
     GA Tryz.prog 206 (aj Tryz.prog 16) (.seq (.mix sr) (.seq (.seq (.reg so) (.cond (.t 191) (.seq (.reg sk) (.frk sq sj)) .skip)) (.reg og))) e1 H1 Q:=by
    intro yop yto ya yb yarg ix e1 H1 Q hw1 hs2 hq
    refine GA.wk hw1 ?_
    repeat (first|(with_reducible refine GA.go aa rfl ?_)|simp only[hadd,go_sem,simprocAttr])
    refine ab [] (.cons (.rfl (by rfl)) (.cons (.rfl (by rfl)) (.cons (.rfl (by rfl)) .nil))) (hY na ra regs par cs k (k+1) (by omega) (by omega) (by omega) hr hin') (by simp only[go_sem,simprocAttr]) ?_
    repeat (first|(with_reducible refine GA.go aa rfl ?_)|simp only[go_sem,simprocAttr])
    refine ab [] (.cons (.rfl (by rfl)) (.cons (.rfl (by rfl)) (.cons (.rfl (by rfl)) .nil))) (gG na ra regs par cs k (k+1) (by omega) (by omega) (by omega) hna hin4) (by simp only[go_sem,simprocAttr]) ?_
    repeat (first|(with_reducible refine GA.go aa rfl ?_)|simp only[go_sem,simprocAttr])
    refine ab [7,8] (fargs:=[.fs 5 qq.1.length (cC qq.1),.fs 1 regs (bF (iv ((cs.take (k+1)).drop k))),.fs 1 na (bF (jc ((cs.take (k+1)).drop k)))]) (.cons (.rfl (by rfl)) (.cons (Cv.own (ty:=4) (z:=0) (by simp) (by simp only[go_sem,simprocAttr]<;>rfl) (λ_ _ _ _=>rfl)) (.cons (Cv.own (ty:=4) (z:=0) (by simp) (by simp only[go_sem,simprocAttr]<;>rfl) (λ_ _ _ _=>rfl)) .nil))) (iY qq.1 _ _ (by omega) hq2.2) (by simp only[go_sem,simprocAttr]) ?_
    simp only[htd]
    have hL:=(hq2.filter (λf=> !cF (iv [(opc,to,a,b,arg)]) (jc [(opc,to,a,b,arg)]) f)).1
    change (dQ (iv [(opc,to,a,b,arg)]) (jc [(opc,to,a,b,arg)]) qq.1).length<=k at hL
    generalize dQ (iv [(opc,to,a,b,arg)]) (jc [(opc,to,a,b,arg)]) qq.1=L at hs2 hL ⊢
    simp only[go_sem,simprocAttr]
    refine GA.wk (Wk.mk (L:=[(1,.p 0 0),(2,.p 1 0),(3,.n .i64 0),(6,.fs 1 pt.length (iC .i64 pt)),(9,.p 2 0),(10,.fs 5 L.length (cC L)),(11,.os 4 qq.2.length),(12,.n .i64 k),(13,.p 5 0),(15,.n .i64 ix),(16,.p 6 0)]) (bl:=[ax 0 37 [.n .i64 yop,.n .i64 yto,.n .i64 ya,.n .i64 yb,.n .u32 yarg],ax 0 37 [.n .i64 opc,.n .i64 to,.n .i64 a,.n .i64 b,.n .u32 arg],ar 65 1 qq.2.length 0 (fO qq.2),ar 37 5 out.length 0 (cC out),ax 0 25 [.fs 2 na ra,.n .i64 regs,.n .i64 par,.os 3 out.length],ax 0 25 [.sl0,.n .i64 0,.n .i64 0,.sl0],ax 0 25 [.fs 2 na ra,.n .i64 regs,.n .i64 par,.fs 5 cs.length (cC cs)]]) [6,5,4,3,2,1,0] [9] ?_ ?_ ?_) ?_
    ·simp only[aP,aR,go_sem,simprocAttr]
     repeat' refine ae ?_ ?_
     all_goals first|exact bB|skip
     exact .cv (Cv.own (ty:=72) (z:=0) (by simp) (by simp only[go_sem,simprocAttr]<;>rfl) (λi j _ hj=>bj i hj))
    ·exact(.cons rfl (.lsti (x:=_) (by simp only[go_sem,simprocAttr]<;>rfl) (by rfl) (by rfl) (by rfl) (by rfl) (by rfl) (by rfl) (by simp) (λi hi=>by rcases bZ hi with rfl|rfl|rfl|rfl|rfl<;>simp only[go_sem,simprocAttr]) (by rfl)) (.cons rfl (.lsti (x:=_) (by simp only[go_sem,simprocAttr]<;>rfl) (by rfl) (by rfl) (by rfl) (by rfl) (by rfl) (by rfl) (by simp) (λi hi=>by rcases bZ hi with rfl|rfl|rfl|rfl|rfl<;>simp only[go_sem,simprocAttr]) (by rfl)) (.cons rfl (.keep (by simp only[go_sem,simprocAttr]) rfl (by decide) (λi j _ hj=>dm _ _ _)) (.cons rfl (.k5) (.cons rfl (.w4) (.cons rfl (.ls) (.cons rfl (.ls) .nil)))))))
    ·simp
    repeat (first|(with_reducible refine GA.go aa rfl ?_)|simp only[go_sem,simprocAttr])
    refine ab [] (.cons (.rfl (by rfl)) .nil) (f9 opc) (by simp only[go_sem,simprocAttr]) ?_
    cases he:dv opc
    ·rw[if_neg (by simp[he]),List.append_nil] at hs2
     (try simp only[he,decide_false,go_sem,simprocAttr])
     iterate 2 (with_reducible refine GA.go aa rfl ?_;try simp only[he,decide_false,go_sem,simprocAttr])
     refine endd yop yto ya yb yarg L _ _ _ hs2 (Wk.mk [6,5,4,3,2,1,0] [] ?_ ?_ ?_) hq
     ·simp only[aP,aR,go_sem,simprocAttr]
      repeat' refine ae ?_ ?_
      all_goals first|exact bB|skip
     ·exact(.cons rfl (.lsti (x:=_) (by simp only[go_sem,simprocAttr]<;>rfl) (by rfl) (by rfl) (by rfl) (by rfl) (by rfl) (by rfl) (by simp) (λi hi=>by rcases bZ hi with rfl|rfl|rfl|rfl|rfl<;>simp only[go_sem,simprocAttr]) (by rfl)) (.cons rfl (.lsti (x:=_) (by simp only[go_sem,simprocAttr]<;>rfl) (by rfl) (by rfl) (by rfl) (by rfl) (by rfl) (by rfl) (by simp) (λi hi=>by rcases bZ hi with rfl|rfl|rfl|rfl|rfl<;>simp only[go_sem,simprocAttr]) (by rfl)) (.cons rfl (.keep (by simp only[go_sem,simprocAttr]) rfl (by decide) (λi j _ hj=>dm _ _ _)) (.cons rfl (.k5) (.cons rfl (.w4) (.cons rfl (.ls) (.cons rfl (.ls) .nil)))))))
     ·simp
    cases d0:decide (ix<0)
    ·have h0':¬ix<0:=by simpa using d0
     rw[if_neg (λh=>h0' h.2.1),List.append_nil] at hs2
     (try simp only[he,d0,decide_true,decide_false,go_sem,simprocAttr])
     iterate 2 (with_reducible refine GA.go aa rfl ?_;try simp only[he,d0,decide_true,decide_false,go_sem,simprocAttr])
     refine endd yop yto ya yb yarg L _ _ _ hs2 (Wk.mk [6,5,4,3,2,1,0] [] ?_ ?_ ?_) hq
     ·simp only[aP,aR,go_sem,simprocAttr]
      repeat' refine ae ?_ ?_
      all_goals first|exact bB|skip
     ·exact(.cons rfl (.lsti (x:=_) (by simp only[go_sem,simprocAttr]<;>rfl) (by rfl) (by rfl) (by rfl) (by rfl) (by rfl) (by rfl) (by simp) (λi hi=>by rcases bZ hi with rfl|rfl|rfl|rfl|rfl<;>simp only[go_sem,simprocAttr]) (by rfl)) (.cons rfl (.lsti (x:=_) (by simp only[go_sem,simprocAttr]<;>rfl) (by rfl) (by rfl) (by rfl) (by rfl) (by rfl) (by rfl) (by simp) (λi hi=>by rcases bZ hi with rfl|rfl|rfl|rfl|rfl<;>simp only[go_sem,simprocAttr]) (by rfl)) (.cons rfl (.keep (by simp only[go_sem,simprocAttr]) rfl (by decide) (λi j _ hj=>dm _ _ _)) (.cons rfl (.k5) (.cons rfl (.w4) (.cons rfl (.ls) (.cons rfl (.ls) .nil)))))))
     ·simp
    have h0':ix<0:=by simpa using d0
    cases d1:decide (to=a)
    rotate_left
    ·have h1':to=a:=by simpa using d1
     rw[if_neg (λh=>h.2.2.1 h1'),List.append_nil] at hs2
     (try simp only[he,d0,d1,decide_true,decide_false,go_sem,simprocAttr])
     iterate 2 (with_reducible refine GA.go aa rfl ?_;try simp only[he,d0,d1,decide_true,decide_false,go_sem,simprocAttr])
     refine endd yop yto ya yb yarg L _ _ _ hs2 (Wk.mk [6,5,4,3,2,1,0] [] ?_ ?_ ?_) hq
     ·simp only[aP,aR,go_sem,simprocAttr]
      repeat' refine ae ?_ ?_
      all_goals first|exact bB|skip
     ·exact(.cons rfl (.lsti (x:=_) (by simp only[go_sem,simprocAttr]<;>rfl) (by rfl) (by rfl) (by rfl) (by rfl) (by rfl) (by rfl) (by simp) (λi hi=>by rcases bZ hi with rfl|rfl|rfl|rfl|rfl<;>simp only[go_sem,simprocAttr]) (by rfl)) (.cons rfl (.lsti (x:=_) (by simp only[go_sem,simprocAttr]<;>rfl) (by rfl) (by rfl) (by rfl) (by rfl) (by rfl) (by rfl) (by simp) (λi hi=>by rcases bZ hi with rfl|rfl|rfl|rfl|rfl<;>simp only[go_sem,simprocAttr]) (by rfl)) (.cons rfl (.keep (by simp only[go_sem,simprocAttr]) rfl (by decide) (λi j _ hj=>dm _ _ _)) (.cons rfl (.k5) (.cons rfl (.w4) (.cons rfl (.ls) (.cons rfl (.ls) .nil)))))))
     ·simp
    have h1':¬to=a:=by simpa using d1
    cases d2:decide (to=b)
    rotate_left
    ·have h2':to=b:=by simpa using d2
     rw[if_neg (λh=>h.2.2.2 h2'),List.append_nil] at hs2
     (try simp only[he,d0,d1,d2,decide_true,decide_false,go_sem,simprocAttr])
     iterate 2 (with_reducible refine GA.go aa rfl ?_;try simp only[he,d0,d1,d2,decide_true,decide_false,go_sem,simprocAttr])
     refine endd yop yto ya yb yarg L _ _ _ hs2 (Wk.mk [6,5,4,3,2,1,0] [] ?_ ?_ ?_) hq
     ·simp only[aP,aR,go_sem,simprocAttr]
      repeat' refine ae ?_ ?_
      all_goals first|exact bB|skip
     ·exact(.cons rfl (.lsti (x:=_) (by simp only[go_sem,simprocAttr]<;>rfl) (by rfl) (by rfl) (by rfl) (by rfl) (by rfl) (by rfl) (by simp) (λi hi=>by rcases bZ hi with rfl|rfl|rfl|rfl|rfl<;>simp only[go_sem,simprocAttr]) (by rfl)) (.cons rfl (.lsti (x:=_) (by simp only[go_sem,simprocAttr]<;>rfl) (by rfl) (by rfl) (by rfl) (by rfl) (by rfl) (by rfl) (by simp) (λi hi=>by rcases bZ hi with rfl|rfl|rfl|rfl|rfl<;>simp only[go_sem,simprocAttr]) (by rfl)) (.cons rfl (.keep (by simp only[go_sem,simprocAttr]) rfl (by decide) (λi j _ hj=>dm _ _ _)) (.cons rfl (.k5) (.cons rfl (.w4) (.cons rfl (.ls) (.cons rfl (.ls) .nil)))))))
     ·simp
    have h2':¬to=b:=by simpa using d2
    rw[if_pos ⟨he,h0',h1',h2'⟩] at hs2
    (try simp only[he,d0,d1,d2,decide_true,decide_false,go_sem,simprocAttr])
    iterate 3 (with_reducible refine GA.go aa rfl ?_;try simp only[he,d0,d1,d2,decide_true,decide_false,go_sem,simprocAttr])
    have hlm:L.length*5<1099511627776/\L.length*40<=140737488355328/\L.length<=9223372036854775807/\(L.length+1)*5<1099511627776/\(L.length+1)*40<=140737488355328/\L.length+1<=9223372036854775807/\L.length*5+5<1099511627776:=by omega
    have hLl:(L++[(opc,to,a,b,arg)]).length=L.length+1:=by simp
    refine GA.cutQ (aI [(1,.p 0 0),(2,.p 1 0),(3,.n .i64 0),(6,.fs 1 pt.length (iC .i64 pt)),(9,.p 2 0),(10,.fs 5 (L.length+1) (cC (L++[(opc,to,a,b,arg)]))),(11,.os 4 qq.2.length),(12,.n .i64 k),(16,.p 6 0)]) (am [ax 0 37 [.n .i64 yop,.n .i64 yto,.n .i64 ya,.n .i64 yb,.n .u32 yarg],ax 0 37 [.n .i64 opc,.n .i64 to,.n .i64 a,.n .i64 b,.n .u32 arg],ar 65 1 qq.2.length 0 (fO qq.2),ar 37 5 out.length 0 (cC out),ax 0 25 [.fs 2 na ra,.n .i64 regs,.n .i64 par,.os 3 out.length],ax 0 25 [.sl0,.n .i64 0,.n .i64 0,.sl0],ax 0 25 [.fs 2 na ra,.n .i64 regs,.n .i64 par,.fs 5 cs.length (cC cs)]]) ?_ (λe' H' hw=>endd yop yto ya yb yarg (L++[(opc,to,a,b,arg)]) _ _ _ hs2 (by rw[hLl];exact hw) hq)
    refine GA.frkm aa 7 (by simp only[eG,go_sem,simprocAttr]) ?_
    simp only[hlm.1,hlm.2.1,hlm.2.2.1,hlm.2.2.2.1,hlm.2.2.2.2.1,hlm.2.2.2.2.2.1,hlm.2.2.2.2.2.2,decide_true,go_sem,simprocAttr]
    repeat' refine ae ?_ ?_
    all_goals first
     |decide
     |exact Nat.le_trans (by simp only[go_sem,simprocAttr];decide) (ny _ _)
     |(refine Wk.mk [6,5,4,3,2,1,0] [9] ?_ ?_ ?_
       ·simp only[aP,aR,go_sem,simprocAttr]
        repeat' refine ae ?_ ?_
        all_goals first|trivial|exact Wv.same rfl|exact Wv.p rfl|exact Wv.os rfl|exact Wv.n (by omega)|skip
        refine Wv.cv (Cv.os (x:=_) (by simp) (by simp only[go_sem,simprocAttr]<;>rfl) (by simp only[go_sem,simprocAttr]<;>first|done|omega) (λi j hi hj=>rQ rfl (by omega) (λj hj=>by rcases bZ hj with rfl|rfl|rfl|rfl|rfl<;>rfl) hi hj) (λi j _ hj=>bj i hj))
       ·exact(.cons rfl (.lsti (x:=_) (by simp only[go_sem,simprocAttr]<;>rfl) (by rfl) (by rfl) (by rfl) (by rfl) (by rfl) (by rfl) (by simp) (λi hi=>by rcases bZ hi with rfl|rfl|rfl|rfl|rfl<;>simp only[go_sem,simprocAttr]) (by rfl)) (.cons rfl (.lsti (x:=_) (by simp only[go_sem,simprocAttr]<;>rfl) (by rfl) (by rfl) (by rfl) (by rfl) (by rfl) (by rfl) (by simp) (λi hi=>by rcases bZ hi with rfl|rfl|rfl|rfl|rfl<;>simp only[go_sem,simprocAttr]) (by rfl)) (.cons rfl (.keep (by simp only[go_sem,simprocAttr]) rfl (by decide) (λi j _ hj=>dm _ _ _)) (.cons rfl (.k5) (.cons rfl (.w4) (.cons rfl (.ls) (.cons rfl (.ls) .nil)))))))
       ·simp)
   have hmid:∀(ix:Int) (y:In),sb (opc,to,a,b,arg) qq.1=ix->¬(0<=ix/\(qq.1.getD ix.toNat dt).2.1=to)->y=(if 0<=ix then(36,to,(qq.1.getD ix.toNat dt).2.1,-1,0) else(opc,to,a,b,arg))->
     s2=⟨out++[y],dQ (iv [(opc,to,a,b,arg)]) (jc [(opc,to,a,b,arg)]) qq.1++(if dv opc=true/\ix<0/\to≠a/\to≠b then[(opc,to,a,b,arg)] else[]),qq.2⟩:=by
    intro ix y h1 h2 h3
    rw[<-hfin]
    unfold oX sF
    simp only
    rw[h1,if_neg h2,h3]
   repeat (first|(with_reducible refine GA.go aa rfl ?_)|simp only[go_sem,simprocAttr])
   refine ab [] (.cons (.rfl (by rfl)) .nil) (f9 opc) (by simp only[go_sem,simprocAttr]) ?_
   have hfi:=nN qq.1 (opc,to,a,b,arg) (by omega)
   have hif:=ko (λg=>ct g (opc,to,a,b,arg)) qq.1 0
   cases he:dv opc
   ·have hix:sb (opc,to,a,b,arg) qq.1= -1:=by unfold sb;rw[if_neg (by simp[he])]
    have hs2:=hmid (-1) (opc,to,a,b,arg) hix (by omega) (by rw[if_neg (by omega)])
    (try simp only[he,decide_true,decide_false,go_sem,simprocAttr])
    iterate 14 (with_reducible refine GA.go aa rfl ?_;try simp only[he,decide_true,decide_false,go_sem,simprocAttr])
    refine mid opc to a b arg (-1) _ _ _ (Wk.mk [6,5,4,3,2,1,0] [] ?_ ?_ ?_) hs2 ?_
    ·simp only[aP,aR,go_sem,simprocAttr]
     repeat' refine ae ?_ ?_
     all_goals first|exact bB|skip
    ·exact(.cons rfl (.lsti (x:=_) (by simp only[go_sem,simprocAttr]<;>rfl) (by rfl) (by rfl) (by rfl) (by rfl) (by rfl) (by rfl) (by simp) (λi hi=>by rcases bZ hi with rfl|rfl|rfl|rfl|rfl<;>simp only[go_sem,simprocAttr]) (by rfl)) (.cons rfl (.lsti (x:=_) (by simp only[go_sem,simprocAttr]<;>rfl) (by rfl) (by rfl) (by rfl) (by rfl) (by rfl) (by rfl) (by simp) (λi hi=>by rcases bZ hi with rfl|rfl|rfl|rfl|rfl<;>simp only[go_sem,simprocAttr]) (by rfl)) (.cons rfl (.keep (by simp only[go_sem,simprocAttr]) rfl (by decide) (λi j _ hj=>dm _ _ _)) (.cons rfl (.k5) (.cons rfl (.w4) (.cons rfl (.ls) (.cons rfl (.ls) .nil)))))))
    ·simp
    intro e' H' hw
    refine GA.wk hw ?_
    repeat (first|(with_reducible refine GA.go aa rfl ?_)|simp only[hadd,go_sem,simprocAttr])
    refine⟨_,_,_,?_,Wk.mk [4,3,2,1,0] [] ?_ ?_ ?_,k+1,s2,rfl,by omega,key,hs,rfl,rfl⟩
    ·omega
    ·simp only[aP,aR,go_sem,simprocAttr]
     repeat' refine ae ?_ ?_
     all_goals first|exact bB|skip
    ·exact(.cons rfl (.keep (by simp only[go_sem,simprocAttr]) rfl (by decide) (λi j _ hj=>dm _ _ _)) (.cons rfl (.k5) (.cons rfl (.w4) (.cons rfl (.ls) (.cons rfl (.ls) .nil)))))
    ·simp
   have hix:sb (opc,to,a,b,arg) qq.1=cQ (λg=>ct g (opc,to,a,b,arg)) qq.1 0:=by unfold sb;rw[if_pos he]
   generalize cQ (λg=>ct g (opc,to,a,b,arg)) qq.1 0=ix at hfi hif hix
   simp only[aQ] at hfi
   repeat (first|(with_reducible refine GA.go aa rfl ?_)|simp only[he,decide_true,go_sem,simprocAttr])
   refine ab [] (.cons (.rfl (by rfl)) (.cons (.rfl (by rfl)) .nil)) hfi (by simp only[go_sem,simprocAttr]) ?_
   by_cases hi:0<=ix
   rotate_left
   ·have hs2:=hmid ix (opc,to,a,b,arg) hix (by omega) (by rw[if_neg hi])
    (try simp only[hi,decide_true,decide_false,go_sem,simprocAttr])
    iterate 12 (with_reducible refine GA.go aa rfl ?_;try simp only[hi,decide_true,decide_false,go_sem,simprocAttr])
    refine mid opc to a b arg ix _ _ _ (Wk.mk [6,5,4,3,2,1,0] [] ?_ ?_ ?_) hs2 ?_
    ·simp only[aP,aR,go_sem,simprocAttr]
     repeat' refine ae ?_ ?_
     all_goals first|exact bB|skip
    ·exact(.cons rfl (.lsti (x:=_) (by simp only[go_sem,simprocAttr]<;>rfl) (by rfl) (by rfl) (by rfl) (by rfl) (by rfl) (by rfl) (by simp) (λi hi=>by rcases bZ hi with rfl|rfl|rfl|rfl|rfl<;>simp only[go_sem,simprocAttr]) (by rfl)) (.cons rfl (.lsti (x:=_) (by simp only[go_sem,simprocAttr]<;>rfl) (by rfl) (by rfl) (by rfl) (by rfl) (by rfl) (by rfl) (by simp) (λi hi=>by rcases bZ hi with rfl|rfl|rfl|rfl|rfl<;>simp only[go_sem,simprocAttr]) (by rfl)) (.cons rfl (.keep (by simp only[go_sem,simprocAttr]) rfl (by decide) (λi j _ hj=>dm _ _ _)) (.cons rfl (.k5) (.cons rfl (.w4) (.cons rfl (.ls) (.cons rfl (.ls) .nil)))))))
    ·simp
    intro e' H' hw
    refine GA.wk hw ?_
    repeat (first|(with_reducible refine GA.go aa rfl ?_)|simp only[hadd,go_sem,simprocAttr])
    refine⟨_,_,_,?_,Wk.mk [4,3,2,1,0] [] ?_ ?_ ?_,k+1,s2,rfl,by omega,key,hs,rfl,rfl⟩
    ·omega
    ·simp only[aP,aR,go_sem,simprocAttr]
     repeat' refine ae ?_ ?_
     all_goals first|exact bB|skip
    ·exact(.cons rfl (.keep (by simp only[go_sem,simprocAttr]) rfl (by decide) (λi j _ hj=>dm _ _ _)) (.cons rfl (.k5) (.cons rfl (.w4) (.cons rfl (.ls) (.cons rfl (.ls) .nil)))))
    ·simp
   obtain⟨q,rfl⟩:∃q:Nat,ix=(q:Int):=⟨ix.toNat,by omega⟩
   have hq0:(q:Int)<(qq.1.length:Int):=by omega
   have hbq:=kH qq.1 q
   have hbq':(qq.1.getD q dt).2.1=(qq.1.getD q (0,0,0,0,0)).2.1:=rfl
   have hsF:(qq.1.getD q (0,0,0,0,0)).2.1=to->s2=⟨out,qq.1,qq.2⟩:=by
    intro h1
    rw[<-hfin]
    unfold oX sF
    simp only
    rw[hix,if_pos ⟨hi,by rw[Int.toNat_natCast];exact h1⟩]
   have hmq:=hmid q (36,to,(qq.1.getD q (0,0,0,0,0)).2.1,-1,0) hix
   rw[Int.toNat_natCast,hbq'] at hmq
   generalize (qq.1.getD q (0,0,0,0,0)).2.1=z at hbq hsF hmq
   by_cases hz:z=to
   ·have hs2:=hsF hz
    repeat (first|(with_reducible refine GA.go aa rfl ?_)|simp only[hi,hq0,hbq,hz,hadd,decide_true,go_sem,simprocAttr])
    subst hs2
    refine⟨_,_,_,?_,Wk.mk [4,3,2,1,0] [] ?_ ?_ ?_,k+1,_,rfl,by omega,key,hs,rfl,rfl⟩
    ·omega
    ·simp only[aP,aR,go_sem,simprocAttr]
     repeat' refine ae ?_ ?_
     all_goals first|exact bB|skip
    ·exact(.cons rfl (.keep (by simp only[go_sem,simprocAttr]) rfl (by decide) (λi j _ hj=>dm _ _ _)) (.cons rfl (.k5) (.cons rfl (.w4) (.cons rfl (.ls) (.cons rfl (.ls) .nil)))))
    ·simp
   ·have hs2:=hmq (λh=>hz h.2) (by rw[if_pos hi])
    (try simp only[hi,hq0,hbq,hz,decide_true,decide_false,go_sem,simprocAttr])
    iterate 12 (with_reducible refine GA.go aa rfl ?_;try simp only[hi,hq0,hbq,hz,decide_true,decide_false,go_sem,simprocAttr])
    refine mid 36 to z (-1) 0 q _ _ _ (Wk.mk [6,5,4,3,2,1,0] [] ?_ ?_ ?_) hs2 ?_
    ·simp only[aP,aR,go_sem,simprocAttr]
     repeat' refine ae ?_ ?_
     all_goals first|exact bB|skip
    ·exact(.cons rfl (.lsti (x:=_) (by simp only[go_sem,simprocAttr]<;>rfl) (by rfl) (by rfl) (by rfl) (by rfl) (by rfl) (by rfl) (by simp) (λi hi=>by rcases bZ hi with rfl|rfl|rfl|rfl|rfl<;>simp only[go_sem,simprocAttr]) (by rfl)) (.cons rfl (.lsti (x:=_) (by simp only[go_sem,simprocAttr]<;>rfl) (by rfl) (by rfl) (by rfl) (by rfl) (by rfl) (by rfl) (by simp) (λi hi=>by rcases bZ hi with rfl|rfl|rfl|rfl|rfl<;>simp only[go_sem,simprocAttr]) (by rfl)) (.cons rfl (.keep (by simp only[go_sem,simprocAttr]) rfl (by decide) (λi j _ hj=>dm _ _ _)) (.cons rfl (.k5) (.cons rfl (.w4) (.cons rfl (.ls) (.cons rfl (.ls) .nil)))))))
    ·simp
    intro e' H' hw
    refine GA.wk hw ?_
    repeat (first|(with_reducible refine GA.go aa rfl ?_)|simp only[hadd,go_sem,simprocAttr])
    refine⟨_,_,_,?_,Wk.mk [4,3,2,1,0] [] ?_ ?_ ?_,k+1,s2,rfl,by omega,key,hs,rfl,rfl⟩
    ·omega
    ·simp only[aP,aR,go_sem,simprocAttr]
     repeat' refine ae ?_ ?_
     all_goals first|exact bB|skip
    ·exact(.cons rfl (.keep (by simp only[go_sem,simprocAttr]) rfl (by decide) (λi j _ hj=>dm _ _ _)) (.cons rfl (.k5) (.cons rfl (.w4) (.cons rfl (.ls) (.cons rfl (.ls) .nil)))))
    ·simp
  clear key hs hfin
  unfold C3 at hsw
  repeat (first|(with_reducible refine GA.go aa rfl ?_)|simp only[go_sem,simprocAttr])
  refine⟨λh1=>?_,λh1=>?_⟩
  ·rw[if_pos h1] at hsw
   cases hsw
   repeat (first|(with_reducible refine GA.go aa rfl ?_)|simp only[hls.1,hls.2.1,hls.2.2.1,hls.2.2.2.1,hls.2.2.2.2,decide_true,go_sem,simprocAttr])
   refine Wk.mk [5,7,3,2,1,0] [] ?_ ?_ ?_
   ·simp only[aP,aR,go_sem,simprocAttr]
    repeat' refine ae ?_ ?_
    all_goals first|exact bB|skip
   ·refine(.cons rfl (.lsti (x:=_) (by simp only[go_sem,simprocAttr]<;>rfl) (by rfl) (by rfl) (by rfl) (by rfl) (by rfl) (by rfl) (by simp) (λi hi=>by rcases bZ hi with rfl|rfl|rfl|rfl|rfl<;>simp only[go_sem,simprocAttr]) (by rfl)) (.cons rfl (.snocw (by simp only[go_sem,simprocAttr]<;>rfl) (by simp) (by rfl) rfl (by decide) (by omega) (λi j hi _=>jX _ _ _ _ hi) (λi j _ _=>dm _ _ _) (λj hj=>?_)) (.cons rfl (.k5) (.cons rfl (.w4) (.cons rfl (.ls) (.cons rfl (.ls) .nil))))))
    rw[mw]
    cases Nat.lt_one_iff.1 hj
    exact Wv.same rfl
   ·simp
  rw[if_neg h1] at hsw
  repeat (first|(with_reducible refine GA.go aa rfl ?_)|simp only[go_sem,simprocAttr])
  refine⟨λh2=>?_,λh2=>?_⟩
  ·rw[if_pos h2] at hsw
   cases st with
   |nil=>cases hsw
   |cons t r=>
   simp only at hsw
   cases hsw
   have hrl:r.length<=k:=by simp only[List.length_cons] at hst;omega
   have hsub:IntKind.wrap .i64 (((r.length+1:Nat):Int)-1)=(r.length:Int):=by rw[cG (by omega)];omega
   have hz0:(0:Int)<=(r.length:Int):=by omega
   have hz1:(r.length:Int)<((r.length+1:Nat):Int):=by omega
   have hz2:r.length<r.length+1/\r.length+1<=r.length+1:=by omega
   have hg0:(ar 65 1 (r.length+1) 0 (fO (t::r))).get r.length= .fs 5 t.length (cC t):=by
    have:=aX (ty:=65) (n:=r.length+1) (z:=0) (row:=fO (t::r)) r.length 0 (by decide:0<1)
    rw[mw,Nat.mul_one] at this
    exact this
   repeat (first|(with_reducible refine GA.go aa rfl ?_)|simp only[hsub,hz0,hz1,hz2.1,hz2.2,hg0,decide_true,go_sem,simprocAttr])
   refine Wk.mk [5,4,3,2,1,0] [] ?_ ?_ ?_
   ·simp only[aP,aR,go_sem,simprocAttr]
    repeat' refine ae ?_ ?_
    all_goals first|exact bB|skip
   ·refine(.cons rfl (.lsti (x:=_) (by simp only[go_sem,simprocAttr]<;>rfl) (by rfl) (by rfl) (by rfl) (by rfl) (by rfl) (by rfl) (by simp) (λi hi=>by rcases bZ hi with rfl|rfl|rfl|rfl|rfl<;>simp only[go_sem,simprocAttr]) (by rfl)) (.cons rfl (.putw (n:=r.length+1) (q:=r.length) (by simp only[go_sem,simprocAttr]<;>rfl) (by simp) rfl (by omega) rfl (by decide) (by omega) (λi j hi hne hj=>?_) (λi j _ _=>dm _ _ _) (λj hj=>?_)) (.cons rfl (.k5) (.cons rfl (.w4) (.cons rfl (.ls) (.cons rfl (.ls) .nil))))))
    ·rw[jX _ _ _ _ (by omega),jX _ _ _ _ (by omega)]
    ·rw[mw]
     cases Nat.lt_one_iff.1 hj
     exact Wv.same rfl
   ·simp
  rw[if_neg h2] at hsw
  repeat (first|(with_reducible refine GA.go aa rfl ?_)|simp only[go_sem,simprocAttr])
  refine⟨λh3=>?_,λh3=>?_⟩
  ·rw[if_pos h3] at hsw
   split at hsw
   rotate_left
   ·cases hsw
   rename_i hrg
   obtain⟨q,hq⟩:∃q:Nat,pt.getD k 0=(q:Int):=⟨(pt.getD k 0).toNat,by omega⟩
   rw[hq] at hrg hsw
   rw[Int.toNat_natCast] at hsw
   cases hsw
   have hpk:iC .i64 pt k 0= .n .i64 (q:Int):=by unfold iC;rw[hq]
   repeat (first|(with_reducible refine GA.go aa rfl ?_)|simp only[h0,hkpi,hpk,go_sem,simprocAttr])
   refine ab [] (.cons (.rfl (by rfl)) (.cons (.rfl (by rfl)) (.cons (.rfl (by rfl)) .nil))) (hY na ra regs par cs k q (by omega) (by omega) (by omega) hr hin') (by simp only[go_sem,simprocAttr]) ?_
   repeat (first|(with_reducible refine GA.go aa rfl ?_)|simp only[go_sem,simprocAttr])
   refine ab [] (.cons (.rfl (by rfl)) (.cons (.rfl (by rfl)) (.cons (.rfl (by rfl)) .nil))) (gG na ra regs par cs k q (by omega) (by omega) (by omega) hna hin4) (by simp only[go_sem,simprocAttr]) ?_
   repeat (first|(with_reducible refine GA.go aa rfl ?_)|simp only[go_sem,simprocAttr])
   refine ab [6,7] (fargs:=[.fs 5 l.length (cC l),.fs 1 regs (bF (iv ((cs.take q).drop k))),.fs 1 na (bF (jc ((cs.take q).drop k)))]) (.cons (.rfl (by rfl)) (.cons (Cv.own (ty:=4) (z:=0) (by simp) (by simp only[go_sem,simprocAttr]<;>rfl) (λ_ _ _ _=>rfl)) (.cons (Cv.own (ty:=4) (z:=0) (by simp) (by simp only[go_sem,simprocAttr]<;>rfl) (λ_ _ _ _=>rfl)) .nil))) (iY l _ _ (by omega) hl.2) (by simp only[go_sem,simprocAttr]) ?_
   repeat (first|(with_reducible refine GA.go aa rfl ?_)|simp only[go_sem,simprocAttr])
   refine Wk.mk [5,4,3,2,1,0] [8] ?_ ?_ ?_
   ·simp only[aP,aR,go_sem,simprocAttr]
    repeat' refine ae ?_ ?_
    all_goals first|exact bB|skip
    exact .cv (Cv.own (ty:=72) (z:=0) (by simp) (by simp only[go_sem,simprocAttr]<;>rfl) (λi j _ hj=>bj i hj))
   ·exact(.cons rfl (.lsti (x:=_) (by simp only[go_sem,simprocAttr]<;>rfl) (by rfl) (by rfl) (by rfl) (by rfl) (by rfl) (by rfl) (by simp) (λi hi=>by rcases bZ hi with rfl|rfl|rfl|rfl|rfl<;>simp only[go_sem,simprocAttr]) (by rfl)) (.cons rfl (.keep (by simp only[go_sem,simprocAttr]) rfl (by decide) (λi j _ hj=>dm _ _ _)) (.cons rfl (.k5) (.cons rfl (.w4) (.cons rfl (.ls) (.cons rfl (.ls) .nil))))))
   ·simp
  rw[if_neg h3] at hsw
  repeat (first|(with_reducible refine GA.go aa rfl ?_)|simp only[go_sem,simprocAttr])
  refine⟨λh4=>?_,λh4=>?_⟩
  ·rw[if_pos h4] at hsw
   split at hsw
   rotate_left
   ·cases hsw
   rename_i hrg
   obtain⟨q,hq⟩:∃q:Nat,pt.getD k 0=(q:Int):=⟨(pt.getD k 0).toNat,by omega⟩
   rw[hq] at hrg hsw
   rw[Int.toNat_natCast] at hsw
   have hpk:iC .i64 pt k 0= .n .i64 (q:Int):=by unfold iC;rw[hq]
   have hq0:(0:Int)<=(q:Int):=by omega
   have hq2':(q:Int)<(cs.length:Int):=by omega
   have hcq:=iu cs q
   repeat (first|(with_reducible refine GA.go aa rfl ?_)|simp only[h0,hkpi,hpk,hq0,hq2',hcq,go_sem,simprocAttr])
   refine⟨λh5=>?_,λh5=>?_⟩
   ·rw[if_pos (show(cs.getD q dt).1=29 from h5)] at hsw
    cases hsw
    repeat (first|(with_reducible refine GA.go aa rfl ?_)|simp only[h0,hkpi,hpk,go_sem,simprocAttr])
    refine ab [] (.cons (.rfl (by rfl)) (.cons (.rfl (by rfl)) (.cons (.rfl (by rfl)) .nil))) (hY na ra regs par cs q k (by omega) (by omega) (by omega) hr hin') (by simp only[go_sem,simprocAttr]) ?_
    repeat (first|(with_reducible refine GA.go aa rfl ?_)|simp only[go_sem,simprocAttr])
    refine ab [] (.cons (.rfl (by rfl)) (.cons (.rfl (by rfl)) (.cons (.rfl (by rfl)) .nil))) (gG na ra regs par cs q k (by omega) (by omega) (by omega) hna hin4) (by simp only[go_sem,simprocAttr]) ?_
    repeat (first|(with_reducible refine GA.go aa rfl ?_)|simp only[go_sem,simprocAttr])
    refine ab [6,7] (fargs:=[.fs 5 l.length (cC l),.fs 1 regs (bF (iv ((cs.take k).drop q))),.fs 1 na (bF (jc ((cs.take k).drop q)))]) (.cons (.rfl (by rfl)) (.cons (Cv.own (ty:=4) (z:=0) (by simp) (by simp only[go_sem,simprocAttr]<;>rfl) (λ_ _ _ _=>rfl)) (.cons (Cv.own (ty:=4) (z:=0) (by simp) (by simp only[go_sem,simprocAttr]<;>rfl) (λ_ _ _ _=>rfl)) .nil))) (iY l _ _ (by omega) hl.2) (by simp only[go_sem,simprocAttr]) ?_
    repeat (first|(with_reducible refine GA.go aa rfl ?_)|simp only[go_sem,simprocAttr])
    refine Wk.mk [5,4,3,2,1,0] [8] ?_ ?_ ?_
    ·simp only[aP,aR,go_sem,simprocAttr]
     repeat' refine ae ?_ ?_
     all_goals first|exact bB|skip
     exact .cv (Cv.own (ty:=72) (z:=0) (by simp) (by simp only[go_sem,simprocAttr]<;>rfl) (λi j _ hj=>bj i hj))
    ·exact(.cons rfl (.lsti (x:=_) (by simp only[go_sem,simprocAttr]<;>rfl) (by rfl) (by rfl) (by rfl) (by rfl) (by rfl) (by rfl) (by simp) (λi hi=>by rcases bZ hi with rfl|rfl|rfl|rfl|rfl<;>simp only[go_sem,simprocAttr]) (by rfl)) (.cons rfl (.keep (by simp only[go_sem,simprocAttr]) rfl (by decide) (λi j _ hj=>dm _ _ _)) (.cons rfl (.k5) (.cons rfl (.w4) (.cons rfl (.ls) (.cons rfl (.ls) .nil))))))
    ·simp
   ·rw[if_neg (show ¬(cs.getD q dt).1=29 from h5)] at hsw
    cases st with
    |nil=>cases hsw
    |cons t r=>
    simp only at hsw
    cases hsw
    have hrl:r.length<=k:=by simp only[List.length_cons] at hst;omega
    have hsub:IntKind.wrap .i64 (((r.length+1:Nat):Int)-1)=(r.length:Int):=by rw[cG (by omega)];omega
    have hz0:(0:Int)<=(r.length:Int):=by omega
    have hz1:(r.length:Int)<((r.length+1:Nat):Int):=by omega
    have hz2:r.length<r.length+1/\r.length+1<=r.length+1:=by omega
    have hg0:(ar 65 1 (r.length+1) 0 (fO (t::r))).get r.length= .fs 5 t.length (cC t):=by
     have:=aX (ty:=65) (n:=r.length+1) (z:=0) (row:=fO (t::r)) r.length 0 (by decide:0<1)
     rw[mw,Nat.mul_one] at this
     exact this
    have hz3:(r.length:Int)<=((r.length+1:Nat):Int):=by omega
    repeat (first|(with_reducible refine GA.go aa rfl ?_)|simp only[hsub,hz0,hz1,hz2.1,hz2.2,hg0,go_sem,simprocAttr])
    refine ab [] (.cons (.rfl (by rfl)) (.cons (.rfl (by rfl)) .nil)) (lw l t (by omega) (by have:=(hlst t (List.mem_cons_self ..)).1;omega)) (by simp only[go_sem,simprocAttr]) ?_
    repeat (first|(with_reducible refine GA.go aa rfl ?_)|simp only[hsub,hz0,hz3,Int.le_refl,go_sem,simprocAttr])
    refine Wk.mk [5,4,3,2,1,0] [6] ?_ ?_ ?_
    ·simp only[aP,aR,go_sem,simprocAttr]
     repeat' refine ae ?_ ?_
     all_goals first|exact bB|skip
     exact .cv (Cv.own (ty:=72) (z:=0) (by simp) (by simp only[go_sem,simprocAttr]<;>rfl) (λi j _ hj=>bj i hj))
    ·exact(.cons rfl (.lsti (x:=_) (by simp only[go_sem,simprocAttr]<;>rfl) (by rfl) (by rfl) (by rfl) (by rfl) (by rfl) (by rfl) (by simp) (λi hi=>by rcases bZ hi with rfl|rfl|rfl|rfl|rfl<;>simp only[go_sem,simprocAttr]) (by rfl)) (.cons rfl (.pop (n:=r.length+1) (by simp only[go_sem,simprocAttr]<;>rfl) rfl (by decide) (by omega) (λi j hi _=>jX _ _ _ _ hi) (λi j _ _=>dm _ _ _)) (.cons rfl (.k5) (.cons rfl (.w4) (.cons rfl (.ls) (.cons rfl (.ls) .nil))))))
    ·simp
  rw[if_neg h4] at hsw
  cases hsw
  repeat (first|(with_reducible refine GA.go aa rfl ?_)|simp only[go_sem,simprocAttr])
  refine Wk.mk [5,4,3,2,1,0] [] ?_ ?_ ?_
  ·simp only[aP,aR,go_sem,simprocAttr]
   repeat' refine ae ?_ ?_
   all_goals first|exact bB|skip
  ·exact(.cons rfl (.lsti (x:=_) (by simp only[go_sem,simprocAttr]<;>rfl) (by rfl) (by rfl) (by rfl) (by rfl) (by rfl) (by rfl) (by simp) (λi hi=>by rcases bZ hi with rfl|rfl|rfl|rfl|rfl<;>simp only[go_sem,simprocAttr]) (by rfl)) (.cons rfl (.keep (by simp only[go_sem,simprocAttr]) rfl (by decide) (λi j _ hj=>dm _ _ _)) (.cons rfl (.k5) (.cons rfl (.w4) (.cons rfl (.ls) (.cons rfl (.ls) .nil))))))
  ·simp
 ·have hkn:k=cs.length:=by omega
  subst hkn
  rw[List.drop_length,v5] at hs
  cases hs
  repeat (first|(with_reducible refine GA.go aa rfl ?_)|simp only[go_sem,simprocAttr])
  refine⟨[_,_],rfl,.a (by simp) (.v rfl rfl (.v rfl rfl (.v rfl rfl (.o (x:=_) (by simp only[go_sem,simprocAttr];rfl) (by rfl) (by rfl) (by rfl) (by rfl) (by decide) (Nat.le_refl _) (Nat.le_refl _) (λi j _ hj=>aX i j hj) (λi j _ hj=>bj i hj) .nil)))) rfl (.v rfl rfl .nil)⟩
end Go.Proofs.YtidhfimbnjaceaaGreat