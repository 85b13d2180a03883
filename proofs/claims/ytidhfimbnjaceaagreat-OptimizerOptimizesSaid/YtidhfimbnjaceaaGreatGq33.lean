/- A part of the proof of OptimizerOptimizes: LkA LkB PsA PsB AwA AwB AwC LaB LkC LkD FrE PrD LkF PrE PrF. No condition. -/
import Derived.Test.YtidhfimbnjaceaaGreatGq12
import Derived.Test.YtidhfimbnjaceaaGreatGq17
import Derived.Test.YtidhfimbnjaceaaGreatGq32
import Derived.Test.YtidhfimbnjaceaaGreatGq10
import Derived.Test.YtidhfimbnjaceaaGreatGq13
import Derived.Test.YtidhfimbnjaceaaGreatGq11
set_option linter.unusedSimpArgs false
set_option linter.unusedVariables false
set_option linter.constructorNameAsVariable false
set_option maxRecDepth 100000
set_option maxHeartbeats 4000000
namespace Go.Proofs.YtidhfimbnjaceaaGreat
open Go.RowKit
/-! ### code that Check accepts-/
structure oC(la:List (Bool×Int))(regs par:Int)(cs:List In):Prop where
 nA:la.length<=8
 nregs:0<=regs/\regs<=1024
 ncs:cs.length<=16384
 ins:∀x ∈ cs,dM regs par la.length (cO x)=0
 nest:(bp (cs.map cO) 0 []).2=false
theorem kY{regs spills nA:Int}:∀(l:List RI) (k:Nat),cz regs spills nA l k=none->∀i ∈ l,dM regs spills nA i=0
 |[],_,_,i,hi=>by cases hi
 |x::l,k,h,i,hi=>by
  unfold cz at h
  split at h
  ·cases h
  rename_i h0
  rcases List.mem_cons.1 hi with rfl|hi
  ·exact Classical.not_not.1 h0
  ·exact kY l (k+1) h i hi
theorem mP{regs spills nA:Int}:∀(l:List RI) (k:Nat) (r:Int×Int),cz regs spills nA l k=some r->r.2≠0
 |[],_,_,h=>by cases h
 |x::l,k,r,h=>by
  unfold cz at h
  split at h
  ·rename_i h0;cases h;exact h0
  ·exact mP l (k+1) r h
theorem cq{la:List (Bool×Int)}{regs par:Int}{cs:List In}(h:(eX la regs par cs).2=0):oC la regs par cs:=by
 unfold eX bT at h
 split at h
 ·simp at h
 rename_i h8
 split at h
 ·simp at h
 split at h
 ·simp at h
 rename_i hr
 split at h
 ·simp at h
 rename_i hc
 rw[List.length_map] at h8 hc
 split at h
 ·rename_i r hr;exact absurd h (mP _ _ _ hr)
 rename_i hi
 split at h
 ·simp at h
 rename_i hn
 rw[List.length_map] at hi
 refine⟨by omega,by omega,by omega,λx hx=>kY _ _ hi _ (List.mem_map.2 ⟨x,hx,rfl⟩),by simpa using hn⟩
theorem oC.tree{la:List (Bool×Int)}{regs par:Int}{cs:List In}(h:oC la regs par cs):∃t:T,cs.map cO=t.flat/\t.wf false 8:=nU _ h.nest
theorem l6:∀op:Nat,op<39->(bL op).getD 1 false=cP op/\(bL op).getD 2 false=ee op/\(bL op).getD 3 false=eu op:=by decide
structure mY(regs par nA:Int)(x:In):Prop where
 op:0<=x.1/\x.1<39
 to:if(bL x.1.toNat).getD 1 false=true then 0<=x.2.1/\x.2.1<regs else x.2.1= -1
 a:if ua x.1=true then 0<=x.2.2.1/\x.2.2.1<regs else x.2.2.1= -1
 b:if rV x.1=true then 0<=x.2.2.2.1/\x.2.2.2.1<regs else x.2.2.2.1= -1
 arg:x.2.2.2.2<=bZ nA par x.1
 isop:dS x.1=true
theorem oK{regs n:Int}{u:Bool}(h:¬aE regs n u=false):if u=true then 0<=n/\n<regs else n= -1:=by
 have h1:aE regs n u=true:=by simpa using h
 unfold aE at h1
 split at h1
 ·rename_i hu;rw[if_pos hu];simpa using h1
 ·rename_i hu;rw[if_neg hu];simpa using h1
theorem xf{regs par nA:Int}{x:In}(h:dM regs par nA (cO x)=0):mY regs par nA x:=by
 unfold dM at h
 split at h
 ·simp at h
 rename_i h1
 split at h
 ·simp at h
 rename_i h2
 simp only[not_or] at h2
 obtain⟨g1,g2,g3,g4⟩:=h2
 have h1':dS x.1=true:=by simpa [cO] using h1
 have hop:0<=x.1/\x.1<39:=by
  simp only[dS,decide_eq_true_eq] at h1'
  omega
 obtain⟨k,hk⟩:∃k:Nat,x.1=(k:Int):=⟨x.1.toNat,by omega⟩
 obtain⟨s1,s2,s3⟩:=l6 k (by omega)
 have e:x.1.toNat=k:=by omega
 refine⟨hop,?_,?_,?_,?_,h1'⟩
 ·rw[e,s1,<-hk];exact oK g1
 ·unfold ua;rw[e,s2,<-hk];exact oK g2
 ·unfold rV;rw[e,s3,<-hk];exact oK g3
 ·have:(cO x).arg<=bZ nA par (cO x).op:=by omega
  exact this
theorem mY.ok{regs:Nat}{par nA:Int}{x:In}(h:mY regs par nA x)(harg:0<=x.2.2.2.2/\x.2.2.2.2<4294967296):lA regs x:=by
 refine⟨h.op,λhu=>?_,λhu=>?_,?_,harg⟩
 ·have:=h.a;rwa [if_pos hu] at this
 ·have:=h.b;rwa [if_pos hu] at this
 ·have:=h.to
  unfold ar
  split
  ·rename_i hu;rw[if_pos hu] at this;exact this.2
  ·omega
theorem AQ(cs:List In)(b:Nat):(cs.getD b dj).1=a8 (cs.map cO) b:=(mj cs b).symm
/-! ### the blocks-/
def dh(cs:List In)(pt:List Int)(i:Nat)(op:Int)(d:Nat):Option Nat:=
 if op=27 then some (d+1)
 else if op=28 then(if 0<d then some d else none)
 else if op=29 then(if(i:Int)<=pt.getD i 0/\pt.getD i 0<=cs.length then some d else none)
 else if op=31 then(if 0<=pt.getD i 0/\pt.getD i 0<=i then(if(cs.getD (pt.getD i 0).toNat dj).1=29 then some d else if 0<d then some (d-1) else none) else none)
 else some d
def fF(cs:List In)(pt:List Int):Nat->Nat->Nat->Option Nat
 |0,_,d=>some d
 |n+1,k,d=>(dh cs pt k (cs.getD k dj).1 d).bind (fF cs pt n (k+1))
def vV(pt:List Int)(k:Nat)(l:List Int):Prop:=∀j,j<l.length->pt.getD (k+j) 0=l.getD j 0
theorem vV.head{pt:List Int}{k:Nat}{x:Int}{l:List Int}(h:vV pt k (x::l)):pt.getD k 0=x:=by simpa using h 0 (by simp)
theorem vV.tail{pt:List Int}{k:Nat}{x:Int}{l:List Int}(h:vV pt k (x::l)):vV pt (k+1) l:=λj hj=>by
 have:=h (j+1) (by simp;omega)
 rw[show k+(j+1)=k+1+j by omega] at this
 simpa using this
theorem vV.left{pt:List Int}{k:Nat}{a b:List Int}(h:vV pt k (a++b)):vV pt k a:=λj hj=>by
 rw[h j (by rw[List.length_append];omega),List.getD_eq_getElem?_getD,List.getElem?_append_left hj,<-List.getD_eq_getElem?_getD]
theorem vV.right{pt:List Int}{k:Nat}{a b:List Int}(h:vV pt k (a++b)):vV pt (k+a.length) b:=λj hj=>by
 have:=h (a.length+j) (by rw[List.length_append];omega)
 rw[show k+(a.length+j)=k+a.length+j by omega] at this
 rw[this,List.getD_eq_getElem?_getD,List.getElem?_append_right (by omega),show a.length+j-a.length=j by omega,<-List.getD_eq_getElem?_getD]
theorem fi{cs:List In}{pt:List Int}:∀(t:T) (w:Bool) (dd k:Nat) (e:Int) (m d:Nat),je (cs.map cO) k t.flat->vV pt k (t.rq k e)->t.wf w dd->k+t.size<=cs.length->
  fF cs pt (t.size+m) k d=fF cs pt m (k+t.size) d
 |.nil,w,dd,k,e,m,d,hc,hp,hw,hl=>by simp[T.size]
 |.plain i r,w,dd,k,e,m,d,hc,hp,hw,hl=>by
  obtain⟨⟨h1,h2,h3,h4⟩,h5,hr⟩:=hw
  have hi:(cs.getD k dj).1=i.op:=by rw[AQ];show((cs.map cO).getD k default).op=_;rw[hc.head]
  simp only[T.size] at hl ⊢
  rw[show r.size+1+m=(r.size+m)+1 by omega,fF,hi]
  unfold dh
  rw[if_neg h1,if_neg h2,if_neg h3,if_neg h4,Option.bind_some,fi r w dd (k+1) e m d hc.tail hp.tail hr (by omega),show k+1+r.size=k+(r.size+1) by omega]
 |.ite i a j r,w,dd,k,e,m,d,hc,hp,hw,hl=>by
  obtain⟨h1,h2,h3,ha,hr⟩:=hw
  simp only[T.flat] at hc
  simp only[T.rq] at hp
  have hi:(cs.getD k dj).1=27:=by rw[AQ];show((cs.map cO).getD k default).op=_;rw[hc.head,h1]
  have hcj:=hc.tail.right
  rw[a.flat_length] at hcj
  have hj:(cs.getD (k+1+a.size) dj).1=31:=by rw[AQ];show((cs.map cO).getD (k+1+a.size) default).op=_;rw[hcj.head,h2]
  have hpj:=hp.tail.right
  rw[a.rq_length] at hpj
  simp only[T.size] at hl ⊢
  rw[show a.size+r.size+2+m=(a.size+(r.size+m+1))+1 by omega,fF,hi]
  unfold dh
  rw[if_pos rfl,Option.bind_some,fi a w (dd-1) (k+1) e (r.size+m+1) (d+1) hc.tail.left hp.tail.left ha (by omega),fF,hj]
  unfold dh
  rw[if_neg (by decide),if_neg (by decide),if_neg (by decide),if_pos rfl,hpj.head,if_pos (by omega),Int.toNat_natCast,hi,if_neg (by decide),if_pos (by omega),Option.bind_some,Nat.add_sub_cancel,
   fi r w dd (k+1+a.size+1) e m d hcj.tail (by have:=hpj.tail;rw[show k+a.size+2=k+1+a.size+1 by omega] at this;exact this) hr (by omega),show k+1+a.size+1+r.size=k+(a.size+r.size+2) by omega]
 |.loop i a j r,w,dd,k,e,m,d,hc,hp,hw,hl=>by
  obtain⟨h1,h2,h3,ha,hr⟩:=hw
  simp only[T.flat] at hc
  simp only[T.rq] at hp
  have hi:(cs.getD k dj).1=29:=by rw[AQ];show((cs.map cO).getD k default).op=_;rw[hc.head,h1]
  have hcj:=hc.tail.right
  rw[a.flat_length] at hcj
  have hj:(cs.getD (k+1+a.size) dj).1=31:=by rw[AQ];show((cs.map cO).getD (k+1+a.size) default).op=_;rw[hcj.head,h2]
  have hpj:=hp.tail.right
  rw[a.rq_length] at hpj
  simp only[T.size] at hl ⊢
  rw[show a.size+r.size+2+m=(a.size+(r.size+m+1))+1 by omega,fF,hi]
  unfold dh
  rw[if_neg (by decide),if_neg (by decide),if_pos rfl,hp.head,if_pos (by omega),Option.bind_some,fi a true (dd-1) (k+1) _ (r.size+m+1) d hc.tail.left hp.tail.left ha (by omega),fF,hj]
  unfold dh
  rw[if_neg (by decide),if_neg (by decide),if_neg (by decide),if_pos rfl,hpj.head,if_pos (by omega),Int.toNat_natCast,hi,if_pos rfl,Option.bind_some,
   fi r w dd (k+1+a.size+1) e m d hcj.tail (by have:=hpj.tail;rw[show k+a.size+2=k+1+a.size+1 by omega] at this;exact this) hr (by omega),show k+1+a.size+1+r.size=k+(a.size+r.size+2) by omega]
 |.ite2 i a x b j r,w,dd,k,e,m,d,hc,hp,hw,hl=>by
  obtain⟨h1,hx,h2,h3,ha,hb,hr⟩:=hw
  simp only[T.flat] at hc
  simp only[T.rq] at hp
  have hi:(cs.getD k dj).1=27:=by rw[AQ];show((cs.map cO).getD k default).op=_;rw[hc.head,h1]
  have hcx:=hc.tail.right
  rw[a.flat_length] at hcx
  have hxo:(cs.getD (k+1+a.size) dj).1=28:=by rw[AQ];show((cs.map cO).getD (k+1+a.size) default).op=_;rw[hcx.head,hx]
  have hcj:=hcx.tail.right
  rw[b.flat_length] at hcj
  have hj:(cs.getD (k+1+a.size+1+b.size) dj).1=31:=by rw[AQ];show((cs.map cO).getD (k+1+a.size+1+b.size) default).op=_;rw[hcj.head,h2]
  have hpx:=hp.tail.right
  rw[a.rq_length] at hpx
  have hpj:=hpx.tail.right
  rw[b.rq_length] at hpj
  simp only[T.size] at hl ⊢
  rw[show a.size+b.size+r.size+3+m=(a.size+(b.size+(r.size+m+1)+1))+1 by omega,fF,hi]
  unfold dh
  rw[if_pos rfl,Option.bind_some,fi a w (dd-1) (k+1) e (b.size+(r.size+m+1)+1) (d+1) hc.tail.left hp.tail.left ha (by omega),fF,hxo]
  unfold dh
  have r3:k+a.size+2=k+1+a.size+1:=by omega
  have r4:k+a.size+b.size+3=k+1+a.size+1+b.size+1:=by omega
  rw[if_neg (by decide),if_pos rfl,if_pos (by omega),Option.bind_some,fi b w (dd-1) (k+1+a.size+1) e (r.size+m+1) (d+1) hcx.tail.left (by have:=hpx.tail.left;rw[r3] at this;exact this) hb (by omega),fF,hj]
  unfold dh
  rw[if_neg (by decide),if_neg (by decide),if_neg (by decide),if_pos rfl,hpj.head,if_pos (by omega),Int.toNat_natCast,hi,if_neg (by decide),if_pos (by omega),Option.bind_some,Nat.add_sub_cancel,
   fi r w dd (k+1+a.size+1+b.size+1) e m d hcj.tail (by have:=hpj.tail;rw[r4] at this;exact this) hr (by omega),show k+1+a.size+1+b.size+1+r.size=k+(a.size+b.size+r.size+3) by omega]
theorem Us{cs:List In}{t:T}(ht:cs.map cO=t.flat)(hw:t.wf false 8):fF cs (t.rq 0 0) cs.length 0 0=some 0:=by
 have hl:cs.length=t.size:=by rw[<-t.flat_length,<-ht,List.length_map]
 have:=fi (cs:=cs) (pt:=t.rq 0 0) t false 8 0 0 0 0 (λj hj=>by rw[ht,Nat.zero_add]) (λj hj=>by rw[Nat.zero_add]) hw (by omega)
 rw[hl]
 exact this
/-! ### two walks-/
def xk{S:Type}(f:Nat->In->S->Option S):List In->Nat->S->Option S
 |[],_,s=>some s
 |x::l,i,s=>(f i x s).bind (xk f l (i+1))
theorem j6{F:Type}(D:In->F->Bool)(E:F->F->Bool)(V:In->List F->In×Bool×List F)(cs:List In)(pt:List Int):∀(l:List In) (i:Nat) (s:oz F),bV D E V cs pt l i s=xk (b6 D E V cs pt) l i s
 |[],i,s=>rfl
 |x::l,i,s=>by
  unfold bV xk
  congr 1
  funext s
  exact j6 D E V cs pt l (i+1) s
theorem AW(cs:List In)(pt:List Int):∀(l:List In) (i:Nat) (s:yU),AJ cs pt l i s=xk (fc cs pt) l i s
 |[],i,s=>rfl
 |x::l,i,s=>by
  unfold AJ xk
  congr 1
  funext s
  exact AW cs pt l (i+1) s
theorem zG{S1 S2:Type}{cs:List In}{pt:List Int}{f1:Nat->In->S1->Option S1}{f2:Nat->In->S2->Option S2}(R:Nat->Nat->S1->S2->Prop)
  (h:∀i d d' s1 s2,i<cs.length->dh cs pt i (cs.getD i dj).1 d=some d'->R i d s1 s2->∃a b,f1 i (cs.getD i dj) s1=some a/\f2 i (cs.getD i dj) s2=some b/\R (i+1) d' a b):
  ∀(n k d d':Nat) (s1:S1) (s2:S2),k+n=cs.length->fF cs pt n k d=some d'->R k d s1 s2->∃a b,xk f1 (cs.drop k) k s1=some a/\xk f2 (cs.drop k) k s2=some b/\R cs.length d' a b
 |0,k,d,d',s1,s2,hk,hs,hR=>by
  have:k=cs.length:=by omega
  subst this
  rw[fF] at hs
  cases hs
  rw[List.drop_length]
  exact⟨s1,s2,rfl,rfl,hR⟩
 |n+1,k,d,d',s1,s2,hk,hs,hR=>by
  rw[fF] at hs
  obtain⟨d1,h1,h2⟩:=Option.bind_eq_some_iff.1 hs
  obtain⟨a,b,e1,e2,hR'⟩:=h k d d1 s1 s2 (by omega) h1 hR
  rw[bw (d:=dj) (by omega),xk,xk,e1,e2,Option.bind_some,Option.bind_some]
  exact zG R h n (k+1) d1 d' a b (by omega) h2 hR'
inductive rI{α β:Type}(R:α->β->Prop):List α->List β->Prop
 |nil:rI R [] []
 |cons {a:α} {b:β} {l:List α} {m:List β} (h:R a b) (t:rI R l m):rI R (a::l) (b::m)
theorem gu{α:Type}(p:α->Bool):∀(l:List α) (k:Nat),(idx p l k<0/\∀f ∈ l,p f=false)\/(∃j,j<l.length/\idx p l k=((k+j:Nat):Int)/\∃f,l[j]? =some f/\p f=true)
 |[],k=> .inl ⟨by simp[idx],λf hf=>by cases hf⟩
 |x::l,k=>by
  unfold idx
  split
  ·rename_i hp
   exact .inr ⟨0,by simp,by simp,x,rfl,hp⟩
  ·rename_i hp
   rcases gu p l (k+1) with⟨h1,h2⟩|⟨j,h1,h2,f,h3,h4⟩
   ·refine .inl ⟨h1,λf hf=>?_⟩
    rcases List.mem_cons.1 hf with rfl|hf
    ·simpa using hp
    ·exact h2 f hf
   ·exact .inr ⟨j+1,by simp;omega,by rw[h2];congr 1;omega,f,by simpa using h3,h4⟩
def KR(regs:Nat)(fs:List (Int×Int))(k:(Nat->Bool)×(Nat->Int)):Prop:=∀r n,(r,n) ∈ fs↔∃q:Nat,r=(q:Int)/\q<regs/\k.1 q=true/\k.2 q=n
theorem KR.idx{regs:Nat}{fs:List (Int×Int)}{k:(Nat->Bool)×(Nat->Int)}(h:KR regs fs k){q:Nat}(hq:q<regs):
  if k.1 q=true then ¬Proofs.YtidhfimbnjaceaaGreat.idx (λf=>decide (f.1=(q:Int))) fs 0<0/\(fs.getD (Proofs.YtidhfimbnjaceaaGreat.idx (λf=>decide (f.1=(q:Int))) fs 0).toNat (0,0)).2=k.2 q else Proofs.YtidhfimbnjaceaaGreat.idx (λf=>decide (f.1=(q:Int))) fs 0<0:=by
 rcases gu (λf:Int×Int=>decide (f.1=(q:Int))) fs 0 with⟨h1,h2⟩|⟨j,h1,h2,f,h3,h4⟩
 ·split
  ·rename_i hk
   have:=h2 ((q:Int),k.2 q) ((h _ _).2 ⟨q,rfl,hq,hk,rfl⟩)
   simp at this
  ·exact h1
 ·have hm:f ∈ fs:=List.mem_of_getElem? h3
  obtain⟨q',e1,e2,e3,e4⟩:=(h f.1 f.2).1 hm
  simp only[decide_eq_true_eq] at h4
  have:q'=q:=by omega
  subst this
  rw[if_pos e3,h2]
  refine⟨by omega,?_⟩
  rw[Int.toNat_natCast,Nat.zero_add,List.getD_eq_getElem?_getD,h3]
  exact e4.symm
theorem vk{regs:Nat}{fs:List (Int×Int)}{is:Nat->Bool}{v:Nat->Int}{x:In}(h:KR regs fs (is,v))(hx:lA regs x):b9 iX fs x=bk is v x:=by
 unfold b9 bk
 by_cases h1:(!bI x.1&& !decide (x.1=36))=true
 ·rw[if_pos h1,if_pos h1]
 rw[if_neg h1,if_neg h1]
 have hua:ua x.1=true:=by
  unfold ua
  cases ha:bI x.1
  ·have:x.1=36:=by simpa [ha] using h1
   rw[this];exact tm.1
  ·obtain⟨g1,g2⟩:=fE ha
   exact pU x.1.toNat (by omega) (by omega) (by omega)
 obtain⟨a1,a2⟩:=hx.a hua
 obtain⟨qa,hqa⟩:∃q:Nat,x.2.2.1=(q:Int):=⟨x.2.2.1.toNat,by omega⟩
 have hA:=h.idx (q:=qa) (by omega)
 simp only at hA
 have hrd:cD x.1 x.2.2.1 x.2.2.2.1=x.2.2.1::(if rV x.1=true then[x.2.2.2.1] else[]):=by
  unfold cD
  unfold ua at hua
  rw[if_pos hua]
  rfl
 rw[hrd,hua,hqa,Int.toNat_natCast]
 cases hub:rV x.1
 ·simp only[Bool.false_eq_true,if_false,cB,Bool.true_and,Bool.false_and]
  by_cases hia:is qa=true
  ·rw[if_pos hia] at hA
   simp only[if_neg hA.1,hA.2,hia,Bool.not_true,Bool.false_eq_true,if_false,Option.map_some]
   rfl
  ·rw[if_neg hia] at hA
   simp only[if_pos hA,show is qa=false by simpa using hia,Bool.not_false,if_true]
 ·obtain⟨b1,b2⟩:=hx.b hub
  obtain⟨qb,hqb⟩:∃q:Nat,x.2.2.2.1=(q:Int):=⟨x.2.2.2.1.toNat,by omega⟩
  have hB:=h.idx (q:=qb) (by omega)
  simp only at hB
  rw[hqb,Int.toNat_natCast]
  simp only[if_true,cB,Bool.true_and]
  by_cases hia:is qa=true
  ·rw[if_pos hia] at hA
   simp only[if_neg hA.1,hA.2,hia,Bool.not_true,Bool.false_eq_true,if_false]
   by_cases hib:is qb=true
   ·rw[if_pos hib] at hB
    simp only[if_neg hB.1,hB.2,hib,Bool.not_true,Bool.false_eq_true,if_false,Option.map_some]
    rfl
   ·rw[if_neg hib] at hB
    simp only[if_pos hB,show is qb=false by simpa using hib,Bool.not_false,if_true,Option.map_none]
  ·rw[if_neg hia] at hA
   simp only[if_pos hA,show is qa=false by simpa using hia,Bool.not_false,if_true]
def DK(x:In)(f:Int×Int):Bool:=decide (ar x.1 x.2.1=f.1)
def EK(f g:Int×Int):Bool:=decide (f.1=g.1)&&decide (f.2=g.2)
def VK(x:In)(fs:List (Int×Int)):In×Bool×List (Int×Int):=(b9 iX fs x,true,cw (b9 iX fs x))
theorem KR.wo{regs:Nat}{fs:List (Int×Int)}{is:Nat->Bool}{v:Nat->Int}(h:KR regs fs (is,v))(xs:List In):KR regs (eH DK fs xs) (λr=>is r&& !fg xs r,v):=by
 intro r n
 unfold eH
 rw[List.mem_filter,h r n]
 simp only[DK]
 constructor
 ·rintro ⟨⟨q,rfl,h1,h2,h3⟩,h4⟩
  exact⟨q,rfl,h1,by rw[show is q=true from h2];exact h4,h3⟩
 ·rintro ⟨q,rfl,h1,h2,h3⟩
  simp only[Bool.and_eq_true] at h2
  exact⟨⟨q,rfl,h1,h2.1,h3⟩,h2.2⟩
theorem KR.bo{regs:Nat}{fs t:List (Int×Int)}{is is2:Nat->Bool}{v v2:Nat->Int}(h:KR regs fs (is,v))(h2:KR regs t (is2,v2)):KR regs (ow EK fs t) (λr=>is r&&is2 r&&decide (v r=v2 r),v):=by
 intro r n
 unfold ow
 rw[List.mem_filter,h r n]
 simp only[EK,List.any_eq_true,Bool.and_eq_true,decide_eq_true_eq]
 constructor
 ·rintro ⟨⟨q,rfl,h3,h4,rfl⟩,g,hg,e1,e2⟩
  have:((q:Int),v q) ∈ t:=by
   have:g=((q:Int),v q):=Prod.ext e1.symm e2.symm
   rwa [this] at hg
  obtain⟨q',e3,e4,e5,e6⟩:=(h2 _ _).1 this
  have:q'=q:=by omega
  subst this
  exact⟨q',rfl,h3,⟨⟨h4,e5⟩,e6.symm⟩,rfl⟩
 ·rintro ⟨q,rfl,h3,⟨⟨h4,h5⟩,h6⟩,h7⟩
  refine⟨⟨q,rfl,h3,h4,h7⟩,((q:Int),n),(h2 _ _).2 ⟨q,rfl,h3,h5,?_⟩,rfl,rfl⟩
  show v2 q=n
  rw[<-h6];exact h7
theorem KR.put{regs:Nat}{fs:List (Int×Int)}{is:Nat->Bool}{v:Nat->Int}(h:KR regs fs (is,v)){y:In}(hw:ar y.1 y.2.1<regs)(h0:0<=ar y.1 y.2.1):KR regs (eH DK fs [y]++cw y) (upd is (ar y.1 y.2.1).toNat (decide (y.1=0)),upd v (ar y.1 y.2.1).toNat y.2.2.2.2):=by
 obtain⟨q0,hq0⟩:∃q:Nat,ar y.1 y.2.1=(q:Int):=⟨(ar y.1 y.2.1).toNat,by omega⟩
 have hwo:=h.wo [y]
 have hnew:∀r n,(r,n) ∈ cw y↔y.1=0/\r=(q0:Int)/\n=y.2.2.2.2:=by
  intro r n
  unfold cw
  by_cases hy:y.1=0
  ·have:ar y.1 y.2.1=y.2.1:=by rw[hy];unfold ar;rw[show((0:Int).toNat)=0 from rfl,if_pos HC]
   rw[if_pos hy,List.mem_singleton,Prod.mk.injEq,<-hq0,this]
   exact⟨λh=>⟨hy,h⟩,λh=>h.2⟩
  ·rw[if_neg hy]
   exact⟨λh=>(by cases h),λh=>absurd h.1 hy⟩
 intro r n
 rw[List.mem_append,hwo r n,hnew r n,hq0,Int.toNat_natCast]
 simp only[upd,fg,List.any_cons,List.any_nil,Bool.or_false,hq0,Bool.and_eq_true,Bool.not_eq_true',decide_eq_false_iff_not]
 constructor
 ·rintro (⟨q,rfl,h1,⟨h2,h3⟩,h4⟩|⟨h1,rfl,rfl⟩)
  ·have:q≠q0:=by omega
   exact⟨q,rfl,h1,by rw[if_neg this];exact h2,by rw[if_neg this];exact h4⟩
  ·exact⟨q0,rfl,by omega,by rw[if_pos rfl];simpa using h1,by rw[if_pos rfl]⟩
 ·rintro ⟨q,rfl,h1,h2,h3⟩
  by_cases hq:q=q0
  ·rw[if_pos hq] at h2 h3
   exact .inr ⟨by simpa using h2,by rw[hq],h3.symm⟩
  ·rw[if_neg hq] at h2 h3
   exact .inl ⟨q,rfl,h1,⟨h2,by omega⟩,h3⟩
theorem KR.none{regs:Nat}{fs:List (Int×Int)}{k:(Nat->Bool)×(Nat->Int)}(h:KR regs fs k){y:In}(hw:ar y.1 y.2.1<0):eH DK fs [y]=fs:=by
 unfold eH
 rw[List.filter_eq_self]
 intro f hf
 obtain⟨q,e,_⟩:=(h f.1 f.2).1 hf
 simp only[DK,List.any_cons,List.any_nil,Bool.or_false,Bool.not_eq_true',decide_eq_false_iff_not]
 omega
structure FR(regs:Nat)(cs:List In)(i d:Nat)(s:oz (Int×Int))(r:yU):Prop where
 out:s.out++cs.drop i=r.out
 len:s.out.length=i
 k:KR regs s.fs (r.is,r.v)
 d:s.op.length=d
 st:rI (KR regs) s.op r.st
theorem tZ{op to:Int}(h:op=27\/op=28\/op=29\/op=31):ar op to= -1:=by
 rcases h with rfl|rfl|rfl|rfl<;>rfl
theorem qN{fs:List (Int×Int)}{x:In}(h:x.1=27\/x.1=28\/x.1=29\/x.1=31):b9 iX fs x=x/\cw x=[]:=by
 have h1:(!bI x.1&& !decide (x.1=36))=true:=by
  rcases h with h|h|h|h<;>rw[h]<;>rfl
 refine⟨by unfold b9;rw[if_pos h1],?_⟩
 unfold cw
 rw[if_neg (by omega)]
theorem xJ{cs:List In}{i:Nat}{out:List In}(hl:out.length=i)(hi:i<cs.length)(y:In):(out++cs.drop i).set i y=out++[y]++cs.drop (i+1):=by
 rw[bw (d:=dj) hi,List.set_append_right _ _ (by omega),hl,Nat.sub_self,List.set_cons_zero]
 simp
theorem vr{cs:List In}{i:Nat}{out:List In}(hi:i<cs.length):out++cs.drop i=out++[cs.getD i dj]++cs.drop (i+1):=by
 rw[bw (d:=dj) hi]
 simp
theorem vl{regs:Nat}{cs:List In}{pt:List Int}(hin:∀x ∈ cs,lA regs x)(hto:∀x ∈ cs,(bL x.1.toNat).getD 1 false=true->0<=x.2.1)
  (hap:∀op a b:Int,(0<=a/\a<4294967296)->(0<=b/\b<4294967296)->0<=(iX op a b).1/\(iX op a b).1<4294967296)
  (i d d':Nat) (s1:oz (Int×Int)) (s2:yU) (hi:i<cs.length) (hs:dh cs pt i (cs.getD i dj).1 d=some d') (hv:∃k,y8 cs.length k s2) (hR:FR regs cs i d s1 s2):
  ∃a b,b6 DK EK VK cs pt i (cs.getD i dj) s1=some a/\fc cs pt i (cs.getD i dj) s2=some b/\FR regs cs (i+1) d' a b:=by
 obtain⟨out,fs,op⟩:=s1
 obtain⟨rout,is,v,st⟩:=s2
 obtain⟨h1,h2,h3,h4,h5⟩:=hR
 obtain⟨kk,hinv⟩:=hv
 simp only at h1 h2 h3 h4 h5
 have hmem:cs.getD i dj ∈ cs:=by rw[List.getD_eq_getElem?_getD,List.getElem?_eq_getElem hi];exact List.getElem_mem _
 have hx:=hin _ hmem
 have htx:=hto _ hmem
 have hfe:=vk h3 hx
 have hkeep:=vr (cs:=cs) (i:=i) (out:=out) hi
 have hset:=λy=>xJ (cs:=cs) (i:=i) (out:=out) h2 hi y
 generalize cs.getD i dj=x at hs hx htx hfe hkeep ⊢
 have hlen:(out++[x]).length=i+1:=by simp[h2]
 have structural:∀{q:List (Int×Int)×List (List (Int×Int))} {is':Nat->Bool} {v':Nat->Int} {st':List ((Nat->Bool)×(Nat->Int))},(x.1=27\/x.1=28\/x.1=29\/x.1=31)->cZ DK EK cs pt i x.1 fs op=some q->KR regs q.1 (is',v')->q.2.length=d'->rI (KR regs) q.2 st'->fc cs pt i x ⟨rout,is,v,st⟩=some ⟨rout,is',v',st'⟩->
   ∃a b,b6 DK EK VK cs pt i x ⟨out,fs,op⟩=some a/\fc cs pt i x ⟨rout,is,v,st⟩=some b/\FR regs cs (i+1) d' a b:=by
  intro q is' v' st' hst hq hk hd hall hr
  refine⟨⟨out++[x],q.1,q.2⟩,_,?_,hr,⟨?_,hlen,hk,hd,hall⟩⟩
  ·unfold b6
   have hf:=qN (fs:=fs) hst
   simp only[VK,hf.1,if_true]
   rw[hq]
   simp only[Option.map_some]
   rw[hk.none (by rw[tZ hst];decide),hf.2,List.append_nil]
  ·show out++[x]++cs.drop (i+1)=rout
   rw[<-h1];exact hkeep.symm
 unfold dh at hs
 by_cases c27:x.1=27
 ·rw[if_pos c27] at hs
  cases hs
  exact structural (q:=(fs,fs::op)) (.inl c27) (by unfold cZ;rw[if_pos c27]) h3 (by simp[h4]) (.cons h3 h5) (by unfold fc;rw[if_pos c27])
 rw[if_neg c27] at hs
 by_cases c28:x.1=28
 ·rw[if_pos c28] at hs
  split at hs
  rotate_left
  ·cases hs
  cases hs
  cases h5 with
  |nil=>simp at h4;omega
  |@cons t k r r2 ht hr=>
   exact structural (q:=(t,fs::r)) (.inr (.inl c28)) (by unfold cZ;rw[if_neg c27,if_pos c28]) ht (by simpa using h4) (.cons h3 hr) (by unfold fc;rw[if_neg c27,if_pos c28])
 rw[if_neg c28] at hs
 by_cases c29:x.1=29
 ·rw[if_pos c29] at hs
  split at hs
  rotate_left
  ·cases hs
  rename_i hp
  cases hs
  exact structural (q:=(eH DK fs ((cs.take (pt.getD i 0).toNat).drop i),op)) (.inr (.inr (.inl c29))) (by unfold cZ;rw[if_neg c27,if_neg c28,if_pos c29,if_pos hp]) (h3.wo _) h4 h5 (by unfold fc;rw[if_neg c27,if_neg c28,if_pos c29,if_pos hp])
 rw[if_neg c29] at hs
 by_cases c31:x.1=31
 ·rw[if_pos c31] at hs
  split at hs
  rotate_left
  ·cases hs
  rename_i hp
  split at hs
  ·rename_i hb
   cases hs
   exact structural (q:=(eH DK fs ((cs.take i).drop (pt.getD i 0).toNat),op)) (.inr (.inr (.inr c31))) (by unfold cZ;rw[if_neg c27,if_neg c28,if_neg c29,if_pos c31,if_pos hp,if_pos hb]) (h3.wo _) h4 h5 (by unfold fc;rw[if_neg c27,if_neg c28,if_neg c29,if_pos c31,if_pos hp,if_pos (show(cs.getD (pt.getD i 0).toNat (0,0,0,0,0)).1=29 from hb)])
  ·rename_i hb
   split at hs
   rotate_left
   ·cases hs
   cases hs
   cases h5 with
   |nil=>simp at h4;omega
   |@cons t k r r2 ht hr=>
    exact structural (q:=(ow EK fs t,r)) (.inr (.inr (.inr c31))) (by unfold cZ;rw[if_neg c27,if_neg c28,if_neg c29,if_pos c31,if_pos hp,if_neg hb]) (h3.bo ht) (by simp at h4 ⊢;omega) hr (by unfold fc;rw[if_neg c27,if_neg c28,if_neg c29,if_pos c31,if_pos hp,if_neg (show ¬(cs.getD (pt.getD i 0).toNat (0,0,0,0,0)).1=29 from hb)])
 rw[if_neg c31] at hs
 cases hs
 have hw:b6 DK EK VK cs pt i x ⟨out,fs,op⟩=some ⟨out++[bk is v x],eH DK fs [bk is v x]++cw (bk is v x),op⟩:=by
  unfold b6
  simp only[VK,hfe,if_true]
  unfold cZ
  rw[if_neg c27,if_neg c28,if_neg c29,if_neg c31]
  rfl
 have hrng:=(kq (is:=is) hx hap hinv.v).2.1
 have hrs:fc cs pt i x ⟨rout,is,v,st⟩=if 0<=ar (bk is v x).1 (bk is v x).2.1 then
   some ⟨rout.set i (bk is v x),upd is (ar (bk is v x).1 (bk is v x).2.1).toNat (decide ((bk is v x).1=0)),upd v (ar (bk is v x).1 (bk is v x).2.1).toNat (bk is v x).2.2.2.2,st⟩
   else some ⟨rout.set i (bk is v x),is,v,st⟩:=by
  unfold fc;rw[if_neg c27,if_neg c28,if_neg c29,if_neg c31]
 by_cases h0:0<=ar (bk is v x).1 (bk is v x).2.1
 ·rw[if_pos h0] at hrs
  refine⟨_,_,hw,hrs,?_,by simp[h2],h3.put hrng h0,h4,h5⟩
  show out++[bk is v x]++cs.drop (i+1)=rout.set i (bk is v x)
  rw[<-h1];exact(hset _).symm
 ·rw[if_neg h0] at hrs
  have hnew:cw (bk is v x)=[]:=by
   unfold cw
   split
   ·rename_i hy
    exfalso
    apply h0
    rw[hy]
    unfold ar
    rw[show((0:Int).toNat)=0 from rfl,if_pos HC]
    have:(bk is v x).2.1=x.2.1:=by
     unfold bk
     repeat' split
     all_goals rfl
    rw[this]
    apply htx
    unfold bk at hy
    by_cases g:(!bI x.1&& !decide (x.1=36))=true
    ·rw[if_pos g] at hy
     rw[hy];rfl
    ·obtain⟨k,hk⟩:∃k:Nat,x.1=(k:Int):=⟨x.1.toNat,by have:=hx.op;omega⟩
     rw[hk,Int.toNat_natCast]
     refine pS k (by have:=hx.op;omega) ?_
     simp only[Bool.and_eq_true,Bool.not_eq_true',decide_eq_false_iff_not,not_and,Classical.not_not] at g
     cases ha:bI x.1
     ·have:=g ha;omega
     ·have:=fE ha;omega
   ·rfl
  refine⟨_,_,hw,hrs,?_,by simp[h2],?_,h4,h5⟩
  ·show out++[bk is v x]++cs.drop (i+1)=rout.set i (bk is v x)
   rw[<-h1];exact(hset _).symm
  ·show KR regs (eH DK fs [bk is v x]++cw (bk is v x)) (is,v)
   rw[hnew,h3.none (by omega),List.append_nil]
   exact h3
theorem jy(n:Nat)(r m:Int):(r,m) ∈ cy n↔∃q:Nat,r=(q:Int)/\q<n/\m=0:=by
 unfold cy
 simp only[List.mem_map,List.mem_range,Prod.mk.injEq]
 constructor
 ·rintro ⟨q,h1,h2,h3⟩;exact⟨q,h2.symm,h1,h3.symm⟩
 ·rintro ⟨q,h1,h2,h3⟩;exact⟨q,h2,h1.symm,h3.symm⟩
theorem vm{regs:Nat}{cs:List In}{pt:List Int}(hin:∀x ∈ cs,lA regs x)(hto:∀x ∈ cs,(bL x.1.toNat).getD 1 false=true->0<=x.2.1)
  (hap:∀op a b:Int,(0<=a/\a<4294967296)->(0<=b/\b<4294967296)->0<=(iX op a b).1/\(iX op a b).1<4294967296)
  (hsh:fF cs pt cs.length 0 0=some 0):∃a b,bV DK EK VK cs pt cs 0 ⟨[],cy regs,[]⟩=some a/\AJ cs pt cs 0 ⟨cs,λ_=>true,λ_=>0,[]⟩=some b/\a.out=b.out/\b.out.length=cs.length:=by
 obtain⟨a,b,e1,e2,hR,hv⟩:=zG (cs:=cs) (pt:=pt) (f1:=b6 DK EK VK cs pt) (f2:=fc cs pt) (λi d s r=>FR regs cs i d s r/\y8 cs.length i r) (λi d d' s1 s2 hi hs ⟨hR,hv⟩=>by
   obtain⟨a,b,e1,e2,e3⟩:=vl hin hto hap i d d' s1 s2 hi hs ⟨_,hv⟩ hR
   have hmem:cs.getD i dj ∈ cs:=by rw[List.getD_eq_getElem?_getD,List.getElem?_eq_getElem hi];exact List.getElem_mem _
   exact⟨a,b,e1,e2,e3,nQ hv (hin _ hmem) hap e2⟩) cs.length 0 0 0 ⟨[],cy regs,[]⟩ ⟨cs,λ_=>true,λ_=>0,[]⟩ (by omega) hsh
   ⟨⟨rfl,rfl,λr n=>by
    rw[jy]
    constructor
    ·rintro ⟨q,h1,h2,h3⟩;exact⟨q,h1,h2,rfl,h3.symm⟩
    ·rintro ⟨q,h1,h2,_,h3⟩;exact⟨q,h1,h2,h3.symm⟩,rfl,.nil⟩,⟨rfl,Nat.le_refl _,λi=>by simp,λt ht=>by cases ht⟩⟩
 rw[List.drop_zero] at e1 e2
 refine⟨a,b,by rw[j6];exact e1,by rw[AW];exact e2,?_⟩
 have:=hR.out
 rw[List.drop_length,List.append_nil] at this
 exact⟨this,hv.out⟩
def et(cs:List In):Prop:=∀x ∈ cs,0<=x.2.2.2.2/\x.2.2.2.2<4294967296
theorem oC.inC{la:List (Bool×Int)}{regs par:Int}{cs:List In}(h:oC la regs par cs):∀x ∈ cs,mY regs par la.length x:=λx hx=>xf (h.ins x hx)
theorem oC.inOk{la:List (Bool×Int)}{regs:Nat}{par:Int}{cs:List In}(h:oC la regs par cs)(ha:et cs):∀x ∈ cs,lA regs x:=λx hx=>(h.inC x hx).ok (ha x hx)
theorem oC.opOk{la:List (Bool×Int)}{regs par:Int}{cs:List In}(h:oC la regs par cs):∀x ∈ cs,Proofs.YtidhfimbnjaceaaGreat.opOk x:=λx hx=>(h.inC x hx).op
theorem oC.to{la:List (Bool×Int)}{regs par:Int}{cs:List In}(h:oC la regs par cs):∀x ∈ cs,(bL x.1.toNat).getD 1 false=true->0<=x.2.1:=λx hx hs=>by
 have:=(h.inC x hx).to
 rw[if_pos hs] at this
 exact this.1
def oS(cs:List In):List Int:=(eU cs).getD []
theorem oC.pt{la:List (Bool×Int)}{regs par:Int}{cs:List In}(h:oC la regs par cs):eU cs=some (oS cs)/\(oS cs).length=cs.length/\fF cs (oS cs) cs.length 0 0=some 0/\∃t:T,cs.map cO=t.flat/\t.wf false 8/\oS cs=t.rq 0 0:=by
 obtain⟨t,ht,hw⟩:=h.tree
 have hp:=su ht hw
 have he:oS cs=t.rq 0 0:=by unfold oS;rw[hp];rfl
 rw[he]
 have hl:cs.length=t.size:=by rw[<-t.flat_length,<-ht,List.length_map]
 exact⟨hp,by rw[T.rq_length,hl],Us ht hw,t,ht,hw,rfl⟩
theorem fu{F:Type}(D:In->F->Bool)(E:F->F->Bool)(V:In->List F->In×Bool×List F){cs:List In}{pt:List Int}(hV:∀x ∈ cs,(x.1=27\/x.1=28\/x.1=29\/x.1=31)->∀fs,(V x fs).2.1=true)(hsh:fF cs pt cs.length 0 0=some 0)(fs0:List F):
  ∃s,bV D E V cs pt cs 0 ⟨[],fs0,[]⟩=some s:=by
 obtain⟨a,b,e1,_,_⟩:=zG (cs:=cs) (pt:=pt) (f1:=b6 D E V cs pt) (f2:=λ_ _ (s:Unit)=>some s) (λi d s _=>s.op.length=d) (λi d d' s1 s2 hi hs hR=>by
  have hmem:cs.getD i dj ∈ cs:=by rw[List.getD_eq_getElem?_getD,List.getElem?_eq_getElem hi];exact List.getElem_mem _
  have hv:=hV _ hmem
  generalize cs.getD i dj=x at hs hv ⊢
  obtain⟨out,fs,op⟩:=s1
  simp only at hR
  have hsw:∃q,cZ D E cs pt i x.1 fs op=some q/\q.2.length=d':=by
   unfold dh at hs
   unfold cZ
   by_cases c27:x.1=27
   ·rw[if_pos c27] at hs ⊢;cases hs;exact⟨_,rfl,by simp[hR]⟩
   rw[if_neg c27] at hs ⊢
   by_cases c28:x.1=28
   ·rw[if_pos c28] at hs ⊢
    split at hs
    rotate_left
    ·cases hs
    cases hs
    cases op with
    |nil=>simp at hR;omega
    |cons t r=>exact⟨_,rfl,by simpa using hR⟩
   rw[if_neg c28] at hs ⊢
   by_cases c29:x.1=29
   ·rw[if_pos c29] at hs ⊢
    split at hs
    rotate_left
    ·cases hs
    rename_i hp
    cases hs
    rw[if_pos hp]
    exact⟨_,rfl,hR⟩
   rw[if_neg c29] at hs ⊢
   by_cases c31:x.1=31
   ·rw[if_pos c31] at hs ⊢
    split at hs
    rotate_left
    ·cases hs
    rename_i hp
    rw[if_pos hp]
    split at hs
    ·rename_i hb
     cases hs
     rw[if_pos hb]
     exact⟨_,rfl,hR⟩
    ·rename_i hb
     rw[if_neg hb]
     split at hs
     rotate_left
     ·cases hs
     cases hs
     cases op with
     |nil=>simp at hR;omega
     |cons t r=>exact⟨_,rfl,by simp at hR ⊢;omega⟩
   rw[if_neg c31] at hs ⊢
   cases hs
   exact⟨_,rfl,hR⟩
  by_cases hr:(V x fs).2.1=true
  ·obtain⟨q,hq,hl⟩:=hsw
   refine⟨_,s2,by unfold b6;simp only[hr,if_true,hq,Option.map_some];rfl,rfl,hl⟩
  ·refine⟨_,s2,by unfold b6;rw[if_neg hr],rfl,?_⟩
   have hns:¬(x.1=27\/x.1=28\/x.1=29\/x.1=31):=λh=>hr (hv h fs)
   unfold dh at hs
   rw[if_neg (by omega),if_neg (by omega),if_neg (by omega),if_neg (by omega)] at hs
   cases hs
   exact hR) cs.length 0 0 0 ⟨[],fs0,[]⟩ () (by omega) hsh rfl
 rw[List.drop_zero] at e1
 exact⟨a,by rw[j6];exact e1⟩
/-! ### Fold-/
def dE(regs:Nat)(cs:List In):List In:=((bV DK EK VK cs (oS cs) cs 0 ⟨[],cy regs,[]⟩).map (·.out)).getD []
theorem ml{fs:List (Int×Int)}(hf:∀f ∈ fs,0<=f.2/\f.2<4294967296):∀{rs vs:List Int},cB fs rs=some vs->∀v ∈ vs,0<=v/\v<4294967296
 |[],vs,h,v,hv=>by simp[cB] at h;subst h;cases hv
 |r::rs,vs,h,v,hv=>by
  rw[cB] at h
  split at h
  ·cases h
  rename_i hi
  obtain⟨ws,hw,rfl⟩:=Option.map_eq_some_iff.1 h
  rcases List.mem_cons.1 hv with rfl|hv
  ·rcases gu (λf:Int×Int=>decide (f.1=r)) fs 0 with⟨h1,_⟩|⟨j,h1,h2,f,h3,_⟩
   ·exact absurd h1 hi
   ·rw[h2,Int.toNat_natCast,Nat.zero_add,List.getD_eq_getElem?_getD,h3]
    exact hf f (List.mem_of_getElem? h3)
  ·exact ml hf hw v hv
theorem xl{vs:List Int}(h:∀v ∈ vs,0<=v/\v<4294967296)(i:Nat):0<=vs.getD i 0/\vs.getD i 0<4294967296:=by
 rw[List.getD_eq_getElem?_getD]
 cases hi:vs[i]? with
 |none=>simp
 |some v=>exact h v (List.mem_of_getElem? hi)
theorem jx{fs:List (Int×Int)}{x:In}(hf:∀f ∈ fs,0<=f.2/\f.2<4294967296)(hx:Proofs.YtidhfimbnjaceaaGreat.opOk x)(harg:0<=x.2.2.2.2/\x.2.2.2.2<4294967296):Proofs.YtidhfimbnjaceaaGreat.opOk (b9 iX fs x)/\0<=(b9 iX fs x).2.2.2.2/\(b9 iX fs x).2.2.2.2<4294967296:=by
 unfold b9
 split
 ·exact⟨hx,harg⟩
 split
 ·exact⟨hx,harg⟩
 ·rename_i vs hv
  have hr:=xl (ml hf hv)
  split
  ·split
   ·exact⟨⟨by simp,by simp⟩,pD _ _ _ (hr 0) (hr 1)⟩
   ·exact⟨hx,harg⟩
  ·exact⟨⟨by simp,by simp⟩,hr 0⟩
theorem oe{la:List (Bool×Int)}{na:Nat}{ra:Nat->Nat->AV}{regs:Nat}{par:Int}{cs:List In}(h:oC la regs par cs)(ha:et cs):a7 Tryz.prog 25 [ae na ra regs par cs] [.v (.fs 5 (dE regs cs).length (cC (dE regs cs)))]:=by
 obtain⟨hp,hpl,hsh,_⟩:=h.pt
 have hr:=h.nregs
 have hn:=h.ncs
 obtain⟨s,hs⟩:=fu DK EK VK (λx hx _ fs=>rfl) hsh (cy regs)
 have he:dE regs cs=s.out:=by unfold dE;rw[hs];rfl
 rw[he]
 refine xw rfl (by omega) ?_
 refine fY (rs:=[.o 37 5 s.out.length 0 (cC s.out)]) ?_ rfl
 refine t9 (n0:=regs) (pf:=λf=>0<=f.2/\f.2<4294967296) DK VK 56 58 cs (cy regs) (oS cs) s ?_ ?_ ?_ ?_ (by omega) h.opOk (by rw[gc];exact Nat.le_refl _) (by omega) ?_ hp hpl hs
 ·intro x hx f
  obtain⟨op,to,a,b,arg⟩:=x
  exact vp op to a b arg f hx
 ·intro x hx fs hl hf
  exact vo iX (λop a b h h1 h2=>vE op a b h h1 h2) fs x hl hf (h.opOk x hx)
 ·intro x hx fs hf
  have hk:=jx hf (h.opOk x hx) (ha x hx)
  simp only[VK,cw]
  split
  ·refine⟨by simp,λf hm=>?_⟩
   rw[List.mem_singleton.1 hm]
   exact hk.2
  ·exact⟨by simp,λf hm=>by cases hm⟩
 ·intro x hx fs hf
  exact(jx hf (h.opOk x hx) (ha x hx)).1
 ·intro f hf
  obtain⟨q,_,_,h3⟩:=(jy regs f.1 f.2).1 hf
  omega
/-! ### Copies-/
def fT(cs:List In):List In:=((bV kc (λf g=>decide (f.1=g.1)&&decide (f.2=g.2)) eW cs (oS cs) cs 0 ⟨[],[],[]⟩).map (·.out)).getD []
theorem qU{la:List (Bool×Int)}{na:Nat}{ra:Nat->Nat->AV}{regs par:Int}{cs:List In}(h:oC la regs par cs):a7 Tryz.prog 36 [ae na ra regs par cs] [.v (.fs 5 (fT cs).length (cC (fT cs)))]:=by
 obtain⟨hp,hpl,hsh,_⟩:=h.pt
 have hn:=h.ncs
 obtain⟨s,hs⟩:=fu kc (λf g=>decide (f.1=g.1)&&decide (f.2=g.2)) eW (λx hx hst fs=>by
  unfold eW fZ
  rw[if_neg (by omega)]) hsh []
 have he:fT cs=s.out:=by unfold fT;rw[hs];rfl
 rw[he]
 exact fY (sW (by omega) h.opOk hp hpl hs) rfl
/-! ### Share-/
def fR(cs:List In):List In:=((bV kb dL dZ cs (oS cs) cs 0 ⟨[],[],[]⟩).map (·.out)).getD []
theorem mJ{op:Int}(h:op=27\/op=28\/op=29\/op=31):di op=false:=by
 rcases h with rfl|rfl|rfl|rfl<;>rfl
theorem qe{la:List (Bool×Int)}{na:Nat}{ra:Nat->Nat->AV}{regs par:Int}{cs:List In}(h:oC la regs par cs):a7 Tryz.prog 41 [ae na ra regs par cs] [.v (.fs 5 (fR cs).length (cC (fR cs)))]:=by
 obtain⟨hp,hpl,hsh,_⟩:=h.pt
 have hn:=h.ncs
 obtain⟨s,hs⟩:=fu kb dL dZ (λx hx hst fs=>by
  unfold dZ
  rw[mJ hst]
  rfl) hsh []
 have he:fR cs=s.out:=by unfold fR;rw[hs];rfl
 rw[he]
 exact fY (ud (by omega) h.opOk hp hpl hs) rfl
/-! ### Prune-/
def jY(fuel regs:Nat)(cs:List In):Option Lv:=rounds cs (oS cs) regs fuel (λ_ _=>false)
def fI(fuel regs:Nat)(cs:List In):List In:=match jY fuel regs cs with
 |some L=>gz (cL L cs 0).length (cL L cs 0)
 |none=>[]
theorem od{cs:List In}{pt:List Int}{i:Nat}(hi:i<cs.length)(hp: -1<=pt.getD i 0/\pt.getD i 0<cs.length):∀nx ∈ ff cs pt i,0<=nx/\nx<=cs.length:=by
 intro nx hm
 unfold ff at hm
 split at hm
 ·simp only[List.mem_singleton] at hm;omega
 split at hm
 ·simp only[List.mem_cons,List.mem_singleton,List.not_mem_nil,or_false] at hm;omega
 ·simp only[List.mem_singleton] at hm;omega
/-! ### the exported functions-/
theorem kZ{la:List (Bool×Int)}:∀i j,i<la.length->j<2->(aC la i j).cell=true:=λi j _ hj=>by
 have:j=0\/j=1:=by omega
 rcases this with rfl|rfl<;>rfl
theorem j9{la:List (Bool×Int)}{regs par:Int}{cs cs2:List In}{g:FuncId}(h:oC la regs par cs)(hz:(eX la regs par cs).2=0)(ha:et cs)(hl:cs2.length<=cs.length)(hg:a7 Tryz.prog g [ae la.length (aC la) regs par cs] [.v (.fs 5 cs2.length (cC cs2))]):
  a7 Tryz.prog 24 [ae la.length (aC la) regs par cs,.f g [] []] [.v (ae la.length (aC la) regs par cs2),.v (.n .i64 0)]:=by
 have hn:=h.ncs
 have hA:=h.nA
 have hc:=ou la regs par cs (by omega) (by omega) ha
 rw[hz] at hc
 exact qY hc hg (iQ (by omega) kZ (by omega))
theorem xD{la:List (Bool×Int)}{regs par:Int}{cs:List In}{g:FuncId}(hla:la.length<1000000)(hcs:cs.length<1000000)(hz:¬(eX la regs par cs).2=0)(ha:et cs):
  a7 Tryz.prog 24 [ae la.length (aC la) regs par cs,.f g [] []] [.v eP,.v (.n .i64 (eX la regs par cs).2)]:=
 qZ hz (ou la regs par cs hla hcs ha)
theorem jB{F:Type}{D:In->F->Bool}{E:F->F->Bool}{V:In->List F->In×Bool×List F}{cs:List In}{pt:List Int}:∀(l:List In) (i:Nat) (s s2:oz F),bV D E V cs pt l i s=some s2->s2.out.length<=s.out.length+l.length
 |[],_,s,s2,h=>by cases h;simp
 |x::l,i,s,s2,h=>by
  rw[bV] at h
  obtain⟨s1,h1,h2⟩:=Option.bind_eq_some_iff.1 h
  have:=jB l (i+1) s1 s2 h2
  have h3:s1.out.length<=s.out.length+1:=by
   unfold b6 at h1
   split at h1
   ·obtain⟨q,_,rfl⟩:=Option.map_eq_some_iff.1 h1
    simp
   ·cases h1;omega
  simp only[List.length_cons]
  omega
theorem kE{regs:Nat}{cs:List In}:(dE regs cs).length<=cs.length:=by
 unfold dE
 cases h:bV DK EK VK cs (oS cs) cs 0 ⟨[],cy regs,[]⟩ with
 |none=>simp
 |some s=>simpa using jB _ _ _ _ h
theorem mO{cs:List In}:(fT cs).length<=cs.length:=by
 unfold fT
 cases h:bV kc (λf g=>decide (f.1=g.1)&&decide (f.2=g.2)) eW cs (oS cs) cs 0 ⟨[],[],[]⟩ with
 |none=>simp
 |some s=>simpa using jB _ _ _ _ h
theorem l8{cs:List In}:(fR cs).length<=cs.length:=by
 unfold fR
 cases h:bV kb dL dZ cs (oS cs) cs 0 ⟨[],[],[]⟩ with
 |none=>simp
 |some s=>simpa using jB _ _ _ _ h
theorem vQ{la:List (Bool×Int)}{regs:Nat}{par:Int}{cs:List In}(hz:(eX la regs par cs).2=0)(ha:et cs):a7 Tryz.prog 10 [ae la.length (aC la) regs par cs] [.v (ae la.length (aC la) regs par (dE regs cs)),.v (.n .i64 0)]:=
 yZ (j9 (cq hz) hz ha kE (oe (cq hz) ha))
theorem rG{la:List (Bool×Int)}{regs par:Int}{cs:List In}(hz:(eX la regs par cs).2=0)(ha:et cs):a7 Tryz.prog 13 [ae la.length (aC la) regs par cs] [.v (ae la.length (aC la) regs par (fT cs)),.v (.n .i64 0)]:=
 ti (j9 (cq hz) hz ha mO (qU (cq hz)))
theorem td{la:List (Bool×Int)}{regs par:Int}{cs:List In}(hz:(eX la regs par cs).2=0)(ha:et cs):a7 Tryz.prog 15 [ae la.length (aC la) regs par cs] [.v (ae la.length (aC la) regs par (fR cs)),.v (.n .i64 0)]:=
 vM (j9 (cq hz) hz ha l8 (qe (cq hz)))
/-! ### partners-/
theorem gV{n:Int}:∀(t:T) (k:Nat) (e:Int),(-1<=e/\e<n)->((k+t.size:Nat):Int)<=n->∀x ∈ t.rq k e,-1<=x/\x<n
 |.nil,k,e,he,hk,x,hx=>by cases hx
 |.plain i r,k,e,he,hk,x,hx=>by
  simp only[T.rq,List.mem_cons] at hx
  simp only[T.size] at hk
  rcases hx with rfl|hx
  ·split<;>omega
  ·exact gV r (k+1) e he (by omega) x hx
 |.ite i a j r,k,e,he,hk,x,hx=>by
  simp only[T.rq,List.mem_cons,List.mem_append] at hx
  simp only[T.size] at hk
  rcases hx with rfl|hx|rfl|hx
  ·omega
  ·exact gV a (k+1) e he (by omega) x hx
  ·omega
  ·exact gV r _ e he (by omega) x hx
 |.ite2 i a y b j r,k,e,he,hk,x,hx=>by
  simp only[T.rq,List.mem_cons,List.mem_append] at hx
  simp only[T.size] at hk
  rcases hx with rfl|hx|rfl|hx|rfl|hx
  ·omega
  ·exact gV a (k+1) e he (by omega) x hx
  ·omega
  ·exact gV b _ e he (by omega) x hx
  ·omega
  ·exact gV r _ e he (by omega) x hx
 |.loop i a j r,k,e,he,hk,x,hx=>by
  simp only[T.rq,List.mem_cons,List.mem_append] at hx
  simp only[T.size] at hk
  rcases hx with rfl|hx|rfl|hx
  ·omega
  ·exact gV a (k+1) _ (by omega) (by omega) x hx
  ·omega
  ·exact gV r _ e he (by omega) x hx
theorem AD{cs:List In}{pt:List Int}:∀(n k d d':Nat),fF cs pt n k d=some d'->∀i,k<=i->i<k+n->∃d1 d2,dh cs pt i (cs.getD i dj).1 d1=some d2
 |0,k,d,d',h,i,h1,h2=>by omega
 |n+1,k,d,d',h,i,h1,h2=>by
  rw[fF] at h
  obtain⟨d1,h3,h4⟩:=Option.bind_eq_some_iff.1 h
  by_cases hi:i=k
  ·subst hi;exact⟨d,d1,h3⟩
  ·exact AD n (k+1) d1 d' h4 i (by omega) (by omega)
theorem oC.ptr{la:List (Bool×Int)}{regs par:Int}{cs:List In}(h:oC la regs par cs):∀i,i<cs.length->(-1<=(oS cs).getD i 0/\(oS cs).getD i 0<cs.length)/\((cs.getD i (0,0,0,0,0)).1=31->0<=(oS cs).getD i 0):=by
 obtain⟨hp,hpl,hsh,t,ht,hw,he⟩:=h.pt
 intro i hi
 have hl:cs.length=t.size:=by rw[<-t.flat_length,<-ht,List.length_map]
 constructor
 ·have hm:(oS cs).getD i 0 ∈ t.rq 0 0:=by
   rw[<-he,List.getD_eq_getElem?_getD,List.getElem?_eq_getElem (by omega)];exact List.getElem_mem _
  exact gV t 0 0 (by omega) (by omega) _ hm
 ·intro h31
  obtain⟨d1,d2,hs⟩:=AD cs.length 0 0 0 hsh i (by omega) (by omega)
  unfold dh at hs
  have h31':(cs.getD i dj).1=31:=h31
  rw[h31',if_neg (by decide),if_neg (by decide),if_neg (by decide),if_pos rfl] at hs
  split at hs
  ·rename_i hp;exact hp.1
  ·cases hs
/-! ### the rounds-/
def cn(f:Nat->Nat):Nat->Nat
 |0=>0
 |n+1=>cn f n+f n
theorem xS{f g:Nat->Nat}:∀n,(∀i,i<n->f i<=g i)->cn f n<=cn g n
 |0,_=>Nat.le_refl _
 |n+1,h=>Nat.add_le_add (xS n λi hi=>h i (by omega)) (h n (by omega))
theorem xR{f g:Nat->Nat}:∀n,(∀i,i<n->f i<=g i)->(∃i,i<n/\f i<g i)->cn f n<cn g n
 |0,_,⟨i,hi,_⟩=>by omega
 |n+1,h,⟨i,hi,hlt⟩=>by
  have h1:=xS n λi hi=>h i (Nat.lt_succ_of_lt hi)
  have h2:=h n (by omega)
  unfold cn
  by_cases e:i=n
  ·subst e;omega
  ·have:=xR n (λi hi=>h i (Nat.lt_succ_of_lt hi)) ⟨i,by omega,hlt⟩
   omega
theorem xT{f:Nat->Nat}{b:Nat}:∀n,(∀i,i<n->f i<=b)->cn f n<=n*b
 |0,_=>by simp[cn]
 |n+1,h=>by
  have:=xT n λi hi=>h i (Nat.lt_succ_of_lt hi)
  have:=h n (by omega)
  unfold cn
  rw[Nat.succ_mul]
  omega
def oL(regs:Nat)(f:Nat->Bool):Nat:=cn (λr=>if f r=true then 1 else 0) regs
def vU(n regs:Nat)(L:Lv):Nat:=cn (λi=>oL regs (L i)) n
theorem zl{regs:Nat}{f g:Nat->Bool}(h:∀r,f r=true->g r=true):oL regs f<=oL regs g:=by
 refine xS _ λi _=>?_
 by_cases hf:f i=true
 ·rw[if_pos hf,if_pos (h i hf)];exact Nat.le_refl _
 ·rw[if_neg hf];exact Nat.zero_le _
theorem zk{regs:Nat}{f g:Nat->Bool}(h:∀r,f r=true->g r=true)(hne:mL regs g f≠true):oL regs f<oL regs g:=by
 have:∃r,r<regs/\g r≠f r:=by
  refine Classical.byContradiction λhc=>hne (lN.2 λr hr=>Classical.byContradiction λhh=>hc ⟨r,hr,hh⟩)
 obtain⟨r,hr,hgf⟩:=this
 refine xR _ (λi _=>?_) ⟨r,hr,?_⟩
 ·by_cases hf:f i=true
  ·rw[if_pos hf,if_pos (h i hf)];exact Nat.le_refl _
  ·rw[if_neg hf];exact Nat.zero_le _
 ·have hf:¬f r=true:=λhf=>hgf (by rw[hf,h r hf])
  have hg:g r=true:=by
   cases hg:g r
   ·have:f r=false:=by simpa using hf
    rw[hg,this] at hgf;exact absurd rfl hgf
   ·rfl
  rw[if_neg hf,if_pos hg];exact Nat.zero_lt_one
theorem zm{regs:Nat}{f:Nat->Bool}:oL regs f<=regs:=by
 have:=xT (f:=λr=>if f r=true then 1 else 0) (b:=1) regs (λi _=>by split<;>omega)
 unfold oL
 omega
theorem nW{cs:List In}{pt:List Int}{L:Lv}{i r:Nat}(h:L i r=true):lg cs pt L i r=true:=by
 unfold lg gl gm
 simp[h]
theorem rX{cs:List In}{pt:List Int}{regs i n:Nat}{s:Lv×Bool}(hi:i<n):vU n regs s.1<=vU n regs (fh cs pt regs i s).1/\((fh cs pt regs i s).2=true->s.2=true\/vU n regs s.1<vU n regs (fh cs pt regs i s).1):=by
 unfold fh
 split
 ·exact⟨Nat.le_refl _,λh=> .inl h⟩
 ·rename_i hne
  have hle:∀q,q<n->oL regs (s.1 q)<=oL regs (upd s.1 i (lg cs pt s.1 i) q):=λq _=>by
   unfold upd
   split
   ·rename_i e;subst e;exact zl λr hr=>nW hr
   ·exact Nat.le_refl _
  have hlt:vU n regs s.1<vU n regs (upd s.1 i (lg cs pt s.1 i)):=by
   refine xR _ hle ⟨i,hi,?_⟩
   unfold upd
   rw[if_pos rfl]
   exact zk (λr hr=>nW hr) hne
  exact⟨Nat.le_of_lt hlt,λ_=> .inr hlt⟩
theorem pX{cs:List In}{pt:List Int}{regs n:Nat}:∀(k:Nat) (s:Lv×Bool),k<=n->vU n regs s.1<=vU n regs (fX cs pt regs k s).1/\((fX cs pt regs k s).2=true->s.2=true\/vU n regs s.1<vU n regs (fX cs pt regs k s).1)
 |0,s,_=>⟨Nat.le_refl _,λh=> .inl h⟩
 |k+1,s,hk=>by
  obtain⟨h1,h2⟩:=rX (cs:=cs) (pt:=pt) (regs:=regs) (s:=s) (show k<n by omega)
  obtain⟨h3,h4⟩:=pX (cs:=cs) (pt:=pt) (regs:=regs) k (fh cs pt regs k s) (show k<=n by omega)
  rw[fX]
  refine⟨Nat.le_trans h1 h3,λh=>?_⟩
  rcases h4 h with h5|h5
  ·rcases h2 h5 with h6|h6
   ·exact .inl h6
   ·exact .inr (Nat.lt_of_lt_of_le h6 h3)
  ·exact .inr (Nat.lt_of_le_of_lt h1 h5)
theorem kN{cs:List In}{pt:List Int}{regs:Nat}:∀(f:Nat) (L:Lv),cs.length*regs<f+vU cs.length regs L->∃L',rounds cs pt regs f L=some L'
 |0,L,h=>by
  have:vU cs.length regs L<=cs.length*regs:=xT _ λi _=>zm
  omega
 |f+1,L,h=>by
  rw[rounds]
  split
  ·rename_i hc
   obtain⟨h1,h2⟩:=pX (cs:=cs) (pt:=pt) (regs:=regs) cs.length (L,false) (Nat.le_refl _)
   rcases h2 hc with h3|h3
   ·cases h3
   ·exact kN f _ (by simp only at h3;omega)
  ·exact⟨_,rfl⟩
theorem tM{x:In}{regs:Nat}{par nA:Int}(h:mY regs par nA x)(hi:fL x.1=true):0<=x.2.1/\x.2.1<regs:=by
 have ht:=h.to
 have hs:(bL x.1.toNat).getD 1 false=true:=by
  obtain⟨k,hk⟩:∃k:Nat,x.1=(k:Int):=⟨x.1.toNat,by have:=h.op;omega⟩
  have hk39:k<39:=by have:=h.op;omega
  rw[hk] at hi ⊢
  rw[Int.toNat_natCast]
  have key:∀k:Nat,k<39->fL (k:Int)=true->(bL k).getD 1 false=true:=by decide
  exact key k hk39 hi
 rw[if_pos hs] at ht
 exact ht
theorem qo{la:List (Bool×Int)}{regs:Nat}{par:Int}{cs:List In}(fuel:Nat){L:Lv}(h:oC la regs par cs)(ha:et cs)(hL:jY fuel regs cs=some L)
  (hdel:jc (cL L cs 0)≠none->oB Tryz.prog 77 37):
  a7 Tryz.prog 47 [ae la.length (aC la) regs par cs] [.v (.fs 5 (fI fuel regs cs).length (cC (fI fuel regs cs)))]:=by
 obtain⟨hp,hpl,hsh,_⟩:=h.pt
 have hn:=h.ncs
 have hr:=h.nregs
 have hlv:=wZ (na:=la.length) (ra:=aC la) (par:=par) (fuel:=fuel) (Lf:=L) (by omega) (by omega) hp hpl (h.inOk ha) h.ptr (λi hi=>od hi (h.ptr i hi).1) hL
 have he:fI fuel regs cs=gz (cL L cs 0).length (cL L cs 0):=by unfold fI;rw[hL]
 rw[he]
 exact fY (uI (by omega) (by omega) (h.inOk ha) (λx hx hi=>tM (h.inC x hx) hi) hlv hdel) rfl
theorem zX{cs:List In}{i d:Nat}:(fq cs i d).length<=cs.length:=by
 unfold fq
 rw[List.length_append,List.length_take,List.length_drop]
 omega
theorem tS:∀(f:Nat) (l:List In),(gz f l).length<=l.length
 |0,l=>Nat.le_refl _
 |f+1,l=>by
  rw[gz]
  split
  ·exact Nat.le_refl _
  ·exact Nat.le_trans (tS f _) zX
theorem mi{fuel regs:Nat}{cs:List In}:(fI fuel regs cs).length<=cs.length:=by
 unfold fI
 split
 ·exact Nat.le_trans (tS _ _) (qs _ _ _)
 ·simp
theorem te{la:List (Bool×Int)}{regs:Nat}{par:Int}{cs:List In}(fuel:Nat){L:Lv}(hz:(eX la regs par cs).2=0)(ha:et cs)(hL:jY fuel regs cs=some L)
  (hdel:jc (cL L cs 0)≠none->oB Tryz.prog 77 37):
  a7 Tryz.prog 17 [ae la.length (aC la) regs par cs] [.v (ae la.length (aC la) regs par (fI fuel regs cs)),.v (.n .i64 0)]:=
 vO (j9 (cq hz) hz ha mi (qo fuel (cq hz) ha hL hdel))
/-! ### Optimize-/
structure dY(la:List (Bool×Int))(regs:Nat)(par:Int)(cs:List In):Prop where
 chk:(eX la regs par cs).2=0
 arg:et cs
theorem jn{la:List (Bool×Int)}{regs:Nat}{par:Int}{cs:List In}(Good:List In->Prop)(hgood:∀c,Good c->dY la regs par c)(h1:∀c,Good c->Good (dE regs c))(h2:∀c,Good c->Good (fT c))(h3:∀c,Good c->Good (fR c))(fuel:Nat)(hL:∀c,Good c->jY fuel regs c≠none)
  (h4:∀c,Good c->Good (fI fuel regs c)) (hdel:∀c L,Good c->jY fuel regs c=some L->jc (cL L c 0)≠none->oB Tryz.prog 77 37) (hg:Good cs) (hlen:(gj (λc=>fI fuel regs (fR (fT (dE regs c)))) 8 cs).length<=cs.length):
  a7 Tryz.prog 19 [ae la.length (aC la) regs par cs] [.v (ae la.length (aC la) regs par (gj (λc=>fI fuel regs (fR (fT (dE regs c)))) 8 cs)),.v (.n .i64 0)]:=by
 have hz:=(hgood cs hg).chk
 have hk:=cq hz
 have hA:=hk.nA
 refine pL (j9 hk hz (hgood cs hg).arg hlen ?_)
 refine wG (Good:=Good) (by omega) kZ (λc hc=>by have:=(cq (hgood c hc).chk).ncs;omega) (λc hc=>⟨oe (cq (hgood c hc).chk) (hgood c hc).arg,h1 c hc⟩) (λc hc=>⟨qU (cq (hgood c hc).chk),h2 c hc⟩) (λc hc=>⟨qe (cq (hgood c hc).chk),h3 c hc⟩) (λc hc=>⟨?_,h4 c hc⟩) hg
 cases hLc:jY fuel regs c with
 |none=>exact absurd hLc (hL c hc)
 |some L=>exact qo fuel (cq (hgood c hc).chk) (hgood c hc).arg hLc (hdel c L hc hLc)
theorem zK{P:Program}{f:FuncId}{args l l':List AV}(h:a7 P f args (l.map .v))(hc:∀H,jd [] H l l')(hp:l'.all (AV.pu 3)=true):a7 P f args (l'.map .v):=by
 refine⟨h.1,λφ w args' hφ ha=>(h.2 φ w args' hφ ha).mono λe w' hq=>?_⟩
 cases e with
 |panicked c=>exact hq.elim
 |outgrown=>exact hq.elim
 |returned u=>
  obtain⟨v,Hc,σ',⟨l2,rfl,hr⟩,hv,hHc,hbel,hfz⟩:=hq
  have hl2:∀{l l2:List AV},kI (l.map RT.v) l2 Hc->l2=l:=λ{l l2}=>by
   intro h
   induction l generalizing l2 with
   |nil=>cases l2 with
    |nil=>rfl
    |cons _ _=>exact h.elim
   |cons x l ih=>cases l2 with
    |nil=>exact h.elim
    |cons y l2=>
     have h1:y=x:=h.1.1
     rw[h1,ih h.2]
  have:=hl2 hr
  subst this
  obtain⟨us,hus,hback⟩:=gk hv
  obtain⟨σ2,q1,q2,q3,q4,q5,q6,q7⟩:=hHc.marks []
  have hd:=(hc Hc).ok hHc q1 q2 q7 hus
  refine⟨_,dW Hc [],σ2,⟨_,rfl,mX _ hp⟩,hback (hc Hc).len.symm (hd.mono (Sg.bare_le _)),q6,hbel,λc hc=>?_⟩
  rw[q4 c hc];exact hfz c hc
theorem ey(op to a b arg:Int):a7 Tryz.prog 23 [.n .i64 op,.n .i64 to,.n .i64 a,.n .i64 b,.n .u32 arg] [.v (aY (op,to,a,b,arg))]:=by
 refine af ay Jo ⟨by simp,by decide⟩ ?_
 simp only[aZ]
 repeat first|with_reducible refine ab ?_|simp only[go_sem,simprocAttr]
 exact ah rfl rfl
theorem cS{cs:List In}:a7 Tryz.prog 22 [.fs 5 cs.length (cC cs)] [.v (ae 0 (aC []) 4 0 cs)]:=by
 refine zK (l:=[.agg [.sl0,.n .i64 4,.n .i64 0,.fs 5 cs.length (cC cs)]]) (l':=[ae 0 (aC []) 4 0 cs]) ?_ (λH=> .cons (.agg rfl λi v v' h1 h2=>?_) .nil) rfl
 ·refine af ay Jr ⟨by simp,by decide⟩ ?_
  simp only[aZ]
  repeat first|with_reducible refine ab ?_|simp only[go_sem,simprocAttr]
  exact ah rfl rfl
 ·match i,h1,h2 with
  |0,h1,h2=>cases h1;cases h2;exact .sl0 _ _
  |1,h1,h2=>cases h1;cases h2;exact .rfl rfl
  |2,h1,h2=>cases h1;cases h2;exact .rfl rfl
  |3,h1,h2=>cases h1;cases h2;exact .rfl rfl
  |i+4,h1,h2=>cases h1
def cN:List In:=[(0,0,-1,-1,2),(0,1,-1,-1,3),(8,0,0,1,0),(34,-1,0,-1,0)]
def fQ:List In:=[(0,0,-1,-1,2),(0,1,-1,-1,3),(0,0,-1,-1,5),(34,-1,0,-1,0)]
def iW:List In:=[(0,0,-1,-1,5),(34,-1,0,-1,0)]
def cM:List In:=[(32,1,-1,-1,0),(36,2,1,-1,0),(34,-1,2,-1,0),(34,-1,1,-1,0)]
def fP:List In:=[(32,1,-1,-1,0),(36,2,1,-1,0),(34,-1,1,-1,0),(34,-1,1,-1,0)]
def iV:List In:=[(32,1,-1,-1,0),(34,-1,1,-1,0),(34,-1,1,-1,0)]
def bC:List In:=[(32,0,-1,-1,0),(32,1,-1,-1,0),(8,2,0,1,0),(8,3,0,1,0),(34,-1,3,-1,0)]
def co:List In:=[(32,0,-1,-1,0),(36,1,0,-1,0),(8,2,0,1,0),(36,3,2,-1,0),(34,-1,3,-1,0)]
def eo:List In:=[(32,0,-1,-1,0),(8,2,0,0,0),(34,-1,2,-1,0)]
def ib:Nat:=8
theorem Ac:dE 4 cN=fQ:=by kernel_rfl
theorem yk:fI ib 4 fQ=iW:=by kernel_rfl
theorem vB:fT cM=fP:=by kernel_rfl
theorem vA:fI ib 4 fP=iV:=by kernel_rfl
theorem yj:fR bC=co:=by kernel_rfl
theorem yl:gj (λc=>fI ib 4 (fR (fT (dE 4 c)))) 8 bC=eo:=by kernel_rfl
def IX:List (List In):=[bC,co,[(32,0,-1,-1,0),(32,1,-1,-1,0),(8,3,0,1,0),(34,-1,3,-1,0)],[(32,0,-1,-1,0),(36,1,0,-1,0),(8,2,0,0,0),(36,3,2,-1,0),(34,-1,2,-1,0)],
 [(32,0,-1,-1,0),(36,1,0,-1,0),(8,3,0,1,0),(34,-1,3,-1,0)],eo,[(32,0,-1,-1,0),(36,1,0,-1,0),(8,3,0,0,0),(34,-1,3,-1,0)],[(32,0,-1,-1,0),(8,3,0,0,0),(34,-1,3,-1,0)]]
def IZ(cs:List In):Bool:=cs.all λx=>decide (0<=x.2.2.2.2)&&decide (x.2.2.2.2<4294967296)
theorem kj{cs:List In}(h:IZ cs=true):et cs:=λx hx=>by
 have:=List.all_eq_true.1 h x hx
 simpa using this
def qH(cs:List In):Bool:=match jY ib 4 cs with
 |some L=>decide (jc (cL L cs 0)=none)
 |none=>false
theorem mA{cs:List In}(h:qH cs=true):∃L,jY ib 4 cs=some L/\jc (cL L cs 0)=none:=by
 unfold qH at h
 split at h
 ·rename_i L hL;exact⟨L,hL,by simpa using h⟩
 ·cases h
def Yf(p:List In->Bool):Bool:=IX.all p
theorem f5{p:List In->Bool}(h:Yf p=true){c:List In}(hc:c ∈ IX):p c=true:=List.all_eq_true.1 h c hc
theorem awF:a7 Tryz.prog 10 [ae 0 (aC []) 4 0 cN] [.v (ae 0 (aC []) 4 0 fQ),.v (.n .i64 0)]:=by
 have h:=vQ (la:=[]) (regs:=4) (par:=0) (cs:=cN) (by kernel_rfl) (kj (by kernel_rfl))
 rw[Ac] at h
 exact h
theorem awP{cs cs2:List In}(hz:(eX [] 4 0 cs).2=0)(ha:IZ cs=true)(hh:qH cs=true)(he:fI ib 4 cs=cs2):a7 Tryz.prog 17 [ae 0 (aC []) 4 0 cs] [.v (ae 0 (aC []) 4 0 cs2),.v (.n .i64 0)]:=by
 obtain⟨L,hL,hn⟩:=mA hh
 have h:=te (la:=[]) (regs:=4) (par:=0) (cs:=cs) ib hz (kj ha) hL (λhne=>absurd hn hne)
 rw[he] at h
 exact h
theorem Ye:a7 Tryz.prog 17 [ae 0 (aC []) 4 0 fQ] [.v (ae 0 (aC []) 4 0 iW),.v (.n .i64 0)]:=awP (by kernel_rfl) (by kernel_rfl) (by kernel_rfl) yk
theorem awC:a7 Tryz.prog 13 [ae 0 (aC []) 4 0 cM] [.v (ae 0 (aC []) 4 0 fP),.v (.n .i64 0)]:=by
 have h:=rG (la:=[]) (regs:=4) (par:=0) (cs:=cM) (by kernel_rfl) (kj (by kernel_rfl))
 rw[vB] at h
 exact h
theorem Yd:a7 Tryz.prog 17 [ae 0 (aC []) 4 0 fP] [.v (ae 0 (aC []) 4 0 iV),.v (.n .i64 0)]:=awP (by kernel_rfl) (by kernel_rfl) (by kernel_rfl) vA
theorem awS:a7 Tryz.prog 15 [ae 0 (aC []) 4 0 bC] [.v (ae 0 (aC []) 4 0 co),.v (.n .i64 0)]:=by
 have h:=td (la:=[]) (regs:=4) (par:=0) (cs:=bC) (by kernel_rfl) (kj (by kernel_rfl))
 rw[yj] at h
 exact h
theorem awO:a7 Tryz.prog 19 [ae 0 (aC []) 4 0 bC] [.v (ae 0 (aC []) 4 0 eo),.v (.n .i64 0)]:=by
 have h:=jn (la:=[]) (regs:=4) (par:=0) (cs:=bC) (λc=>c ∈ IX)
  (λc hc=>⟨of_decide_eq_true (f5 (p:=λc=>decide ((eX [] 4 0 c).2=0)) (by kernel_rfl) hc),kj (f5 (p:=IZ) (by kernel_rfl) hc)⟩)
  (λc hc=>of_decide_eq_true (f5 (p:=λc=>decide (dE 4 c ∈ IX)) (by kernel_rfl) hc))
  (λc hc=>of_decide_eq_true (f5 (p:=λc=>decide (fT c ∈ IX)) (by kernel_rfl) hc))
  (λc hc=>of_decide_eq_true (f5 (p:=λc=>decide (fR c ∈ IX)) (by kernel_rfl) hc)) ib
  (λc hc=>by
   obtain⟨L,hL,_⟩:=mA (f5 (p:=qH) (by kernel_rfl) hc)
   rw[hL];simp)
  (λc hc=>of_decide_eq_true (f5 (p:=λc=>decide (fI ib 4 c ∈ IX)) (by kernel_rfl) hc))
  (λc L hc hL hne=>by
   obtain⟨L',hL',hn⟩:=mA (f5 (p:=qH) (by kernel_rfl) hc)
   rw[hL] at hL'
   cases hL'
   exact absurd hn hne)
  (of_decide_eq_true (by kernel_rfl)) (by rw[yl];exact of_decide_eq_true (by kernel_rfl))
 rw[yl] at h
 exact h
theorem kH(cs:List In)(h:cs.length<1000000):a7 Tryz.prog 12 [ae 0 (aC []) 4 0 cs,ae 0 (aC []) 4 0 cs] [.v (.b true)]:=by
 have:=jH [] (by decide) 4 0 cs cs h
 rw[decide_eq_true rfl] at this
 exact this
theorem X8{i:Nat}(h:i<4):i=0\/i=1\/i=2\/i=3:=by omega
abbrev iU(cs:List In):List AV:=[.fs 2 0 (aC []),.n .i64 4,.n .i64 0,.fs 5 cs.length (cC cs)]
theorem ez.la{r:Nat->Option Nat}{M:List Nat}{H:AH}{b ty:Nat}{cs:List In}{x:AB}(hx:H.at b=some x:=by simp only[go_sem,simprocAttr]<;>rfl)(h1:x.ty=ty:=by rfl)(h2:x.esz=0:=by rfl)(h3:x.opn=false:=by rfl)(h4:x.size=(iU cs).length:=by rfl)(h5:x.fzn=0:=by rfl)(hM:M.contains b=false:=by rfl)(hl:(iU cs).length<1000000:=by simp)(hg:∀i,i<(iU cs).length->x.get i=(iU cs)[i]?.getD .u:=by intro i hi;rcases X8 hi with rfl|rfl|rfl|rfl<;>(simp only[iU,go_sem,simprocAttr];first|done|rfl))(hp:(iU cs).all (AV.pu 3)=true:=by rfl):ez r M H b (aq 0 ty (iU cs)):= .lsti hx h1 h2 h3 h4 h5 hM hl hg hp
abbrev pw(x:In):List AV:=[.n .i64 x.1,.n .i64 x.2.1,.n .i64 x.2.2.1,.n .i64 x.2.2.2.1,.n .u32 x.2.2.2.2]
theorem X6{i:Nat}(h:i<2):i=0\/i=1:=by omega
theorem UQ{i:Nat}(h:i<3):i=0\/i=1\/i=2:=by omega
theorem zz{i:Nat}(h:i<4):i=0\/i=1\/i=2\/i=3:=by omega
theorem uU{i:Nat}(h:i<5):i=0\/i=1\/i=2\/i=3\/i=4:=by omega
theorem bm:IntKind.wrap .i64 ((0:Int)+0)=0:=by decide
theorem bM:IntKind.wrap .i64 0=0:=by decide
theorem gB:a7 Tryz.prog 9 [] [.v (.b true)]:=by
 refine af ay Jk ⟨by simp,by decide⟩ ?_
 simp only[aZ]
 repeat first|with_reducible refine ab ?_|simp only[go_sem,simprocAttr]
 refine pO (ey _ _ _ _ _) ?_
 simp only[aY,go_sem,simprocAttr]
 refine pO (ey _ _ _ _ _) ?_
 simp only[aY,go_sem,simprocAttr]
 refine pO (ey _ _ _ _ _) ?_
 simp only[aY,go_sem,simprocAttr]
 refine pO (ey _ _ _ _ _) ?_
 simp only[aY,go_sem,simprocAttr]
 refine ai [0] (fargs:=[.fs 5 cN.length (cC cN)]) (.cons (.sl (x:=_) (by simp) (by simp only[go_sem,simprocAttr]<;>rfl) (by simp only[cN,go_sem,simprocAttr]<;>decide) (by decide) (by simp only[go_sem,simprocAttr]<;>decide) (λi j hi hj=>?_) (λi j _ hj=>bh i hj)) .nil) cS (by simp only[go_sem,simprocAttr]) ?_
 ·rcases zz hi with rfl|rfl|rfl|rfl<;>rcases cJ hj with rfl|rfl|rfl|rfl|rfl<;>rfl
 simp only[ae,aY,go_sem,simprocAttr]
 refine GA.wk (Wk.mk (L:=[(1,.p 0 0)]) (bl:=[aq 0 25 (iU cN)]) [1] [] ?_ ?_ ?_) ?_
 ·simp only[aB,aD,go_sem,simprocAttr]
  repeat' refine aa ?_ ?_
  all_goals first|exact dn|skip
 ·exact .cons rfl (.la) (.nil)
 ·simp
 have hF:=awF
 have hP1:=Ye
 simp only[ae] at hF hP1
 repeat first|with_reducible refine ab ?_|simp only[go_sem,simprocAttr]
 refine cV hF ?_
 simp only[ae,go_sem,simprocAttr]
 refine GA.wk (Wk.mk (L:=[(1,.p 0 0),(2,.p 1 0),(3,.n .i64 0)]) (bl:=[aq 0 25 (iU fQ),aq 0 25 (iU cN)]) [1,0] [] ?_ ?_ ?_) ?_
 ·simp only[aB,aD,go_sem,simprocAttr]
  repeat' refine aa ?_ ?_
  all_goals first|exact dn|skip
 ·exact .cons rfl (.la) (.cons rfl (.la) (.nil))
 ·simp
 repeat first|with_reducible refine ab ?_|simp only[go_sem,simprocAttr]
 refine cV hP1 ?_
 simp only[ae,go_sem,simprocAttr]
 refine GA.wk (Wk.mk (L:=[(1,.p 0 0),(2,.p 1 0),(4,.p 2 0),(3,.n .i64 0),(5,.n .i64 0)]) (bl:=[aq 0 25 (iU iW),aq 0 25 (iU fQ),aq 0 25 (iU cN)]) [2,1,0] [] ?_ ?_ ?_) ?_
 ·simp only[aB,aD,go_sem,simprocAttr]
  repeat' refine aa ?_ ?_
  all_goals first|exact dn|skip
 ·exact .cons rfl (.la) (.cons rfl (.la) (.cons rfl (.la) (.nil)))
 ·simp
 repeat first|with_reducible refine ab ?_|simp only[go_sem,simprocAttr]
 refine pO (ey _ _ _ _ _) ?_
 simp only[aY,go_sem,simprocAttr]
 refine GA.wk (Wk.mk (L:=[(1,.p 0 0),(2,.p 1 0),(4,.p 2 0),(6,.p 3 0),(3,.n .i64 0),(5,.n .i64 0)]) (bl:=[aq 0 37 (pw (0,0,-1,-1,5)),aq 0 25 (iU iW),aq 0 25 (iU fQ),aq 0 25 (iU cN)]) [3,2,1,0] [] ?_ ?_ ?_) ?_
 ·simp only[aB,aD,go_sem,simprocAttr]
  repeat' refine aa ?_ ?_
  all_goals first|exact dn|skip
 ·exact .cons rfl (.lsti (x:=_) (by simp only[go_sem,simprocAttr]<;>rfl) (by rfl) (by rfl) (by rfl) (by rfl) (by rfl) (by rfl) (by simp) (λi hi=>by rcases cJ hi with rfl|rfl|rfl|rfl|rfl<;>(simp only[pw,go_sem,simprocAttr];first|done|rfl)) (by rfl)) (.cons rfl (.la) (.cons rfl (.la) (.cons rfl (.la) (.nil))))
 ·simp
 have hl0:(0:Int)<(cN.length:Int):=by decide
 have hp0:(0:Int)<=0:=by decide
 have hn0:Int.toNat 0=0:=rfl
 have hc00:cC cN 0 0= .n .i64 (0):=rfl
 have hc01:cC cN 0 1= .n .i64 (0):=rfl
 have hc02:cC cN 0 2= .n .i64 (-1):=rfl
 have hc03:cC cN 0 3= .n .i64 (-1):=rfl
 have hc04:cC cN 0 4= .n .u32 (2):=rfl
 have hl1:(1:Int)<(cN.length:Int):=by decide
 have hp1:(0:Int)<=1:=by decide
 have hn1:Int.toNat 1=1:=rfl
 have hc10:cC cN 1 0= .n .i64 (0):=rfl
 have hc11:cC cN 1 1= .n .i64 (1):=rfl
 have hc12:cC cN 1 2= .n .i64 (-1):=rfl
 have hc13:cC cN 1 3= .n .i64 (-1):=rfl
 have hc14:cC cN 1 4= .n .u32 (3):=rfl
 have hl3:(3:Int)<(cN.length:Int):=by decide
 have hp3:(0:Int)<=3:=by decide
 have hn3:Int.toNat 3=3:=rfl
 have hc30:cC cN 3 0= .n .i64 (34):=rfl
 have hc31:cC cN 3 1= .n .i64 (-1):=rfl
 have hc32:cC cN 3 2= .n .i64 (0):=rfl
 have hc33:cC cN 3 3= .n .i64 (-1):=rfl
 have hc34:cC cN 3 4= .n .u32 (0):=rfl
 with_reducible refine GA.seq ?_
 with_reducible refine GA.seq ?_
 with_reducible refine GA.mixv ay ?_ ?_
 ·rfl
 try simp only[ax,aL,aw,av,aK,aJ,aI,bN,bP,bQ,bO,br,bq,aW,aX,aM,bt,hl0,hp0,hn0,hc00,hc01,hc02,hc03,hc04,hl1,hp1,hn1,hc10,hc11,hc12,hc13,hc14,hl3,hp3,hn3,hc30,hc31,hc32,hc33,hc34,bm,bM,decide_true,decide_false,go_sem,simprocAttr]
 repeat (rw[bA];simp only[ax,aL,aw,av,aK,aJ,aI,bN,bP,bQ,bO,br,bq,aW,aX,aM,bt,hl0,hp0,hn0,hc00,hc01,hc02,hc03,hc04,hl1,hp1,hn1,hc10,hc11,hc12,hc13,hc14,hl3,hp3,hn3,hc30,hc31,hc32,hc33,hc34,bm,bM,decide_true,decide_false,go_sem,simprocAttr])
 refine ai [4] (fargs:=[.fs 5 fQ.length (cC fQ)]) (.cons (.sl (x:=_) (by simp) (by simp only[go_sem,simprocAttr]<;>rfl) (by simp only[fQ,go_sem,simprocAttr]<;>decide) (by decide) (by simp only[go_sem,simprocAttr]<;>decide) (λi j hi hj=>?_) (λi j _ hj=>bh i hj)) .nil) cS (by simp only[go_sem,simprocAttr]) ?_
 ·rcases zz hi with rfl|rfl|rfl|rfl<;>rcases cJ hj with rfl|rfl|rfl|rfl|rfl<;>rfl
 simp only[ae,aY,ax,aL,aw,av,aK,aJ,aI,bN,bP,bQ,bO,br,bq,aW,aX,aM,bt,hl0,hp0,hn0,hc00,hc01,hc02,hc03,hc04,hl1,hp1,hn1,hc10,hc11,hc12,hc13,hc14,hl3,hp3,hn3,hc30,hc31,hc32,hc33,hc34,bm,bM,decide_true,decide_false,go_sem,simprocAttr]
 try simp only[ax,aL,aw,av,aK,aJ,aI,bN,bP,bQ,bO,br,bq,aW,aX,aM,bt,hl0,hp0,hn0,hc00,hc01,hc02,hc03,hc04,hl1,hp1,hn1,hc10,hc11,hc12,hc13,hc14,hl3,hp3,hn3,hc30,hc31,hc32,hc33,hc34,bm,bM,decide_true,decide_false,go_sem,simprocAttr]
 repeat (rw[bA];simp only[ax,aL,aw,av,aK,aJ,aI,bN,bP,bQ,bO,br,bq,aW,aX,aM,bt,hl0,hp0,hn0,hc00,hc01,hc02,hc03,hc04,hl1,hp1,hn1,hc10,hc11,hc12,hc13,hc14,hl3,hp3,hn3,hc30,hc31,hc32,hc33,hc34,bm,bM,decide_true,decide_false,go_sem,simprocAttr])
 refine fm (by have:=kH fQ (by decide);simp only[ae] at this;exact this) ?_
 try simp only[ax,aL,aw,av,aK,aJ,aI,bN,bP,bQ,bO,br,bq,aW,aX,aM,bt,hl0,hp0,hn0,hc00,hc01,hc02,hc03,hc04,hl1,hp1,hn1,hc10,hc11,hc12,hc13,hc14,hl3,hp3,hn3,hc30,hc31,hc32,hc33,hc34,bm,bM,decide_true,decide_false,go_sem,simprocAttr]
 repeat (rw[bA];simp only[ax,aL,aw,av,aK,aJ,aI,bN,bP,bQ,bO,br,bq,aW,aX,aM,bt,hl0,hp0,hn0,hc00,hc01,hc02,hc03,hc04,hl1,hp1,hn1,hc10,hc11,hc12,hc13,hc14,hl3,hp3,hn3,hc30,hc31,hc32,hc33,hc34,bm,bM,decide_true,decide_false,go_sem,simprocAttr])
 refine ai [5] (fargs:=[.fs 5 iW.length (cC iW)]) (.cons (.sl (x:=_) (by simp) (by simp only[go_sem,simprocAttr]<;>rfl) (by simp only[iW,go_sem,simprocAttr]<;>decide) (by decide) (by simp only[go_sem,simprocAttr]<;>decide) (λi j hi hj=>?_) (λi j _ hj=>bh i hj)) .nil) cS (by simp only[go_sem,simprocAttr]) ?_
 ·rcases X6 hi with rfl|rfl<;>rcases cJ hj with rfl|rfl|rfl|rfl|rfl<;>rfl
 simp only[ae,aY,ax,aL,aw,av,aK,aJ,aI,bN,bP,bQ,bO,br,bq,aW,aX,aM,bt,hl0,hp0,hn0,hc00,hc01,hc02,hc03,hc04,hl1,hp1,hn1,hc10,hc11,hc12,hc13,hc14,hl3,hp3,hn3,hc30,hc31,hc32,hc33,hc34,bm,bM,decide_true,decide_false,go_sem,simprocAttr]
 try simp only[ax,aL,aw,av,aK,aJ,aI,bN,bP,bQ,bO,br,bq,aW,aX,aM,bt,hl0,hp0,hn0,hc00,hc01,hc02,hc03,hc04,hl1,hp1,hn1,hc10,hc11,hc12,hc13,hc14,hl3,hp3,hn3,hc30,hc31,hc32,hc33,hc34,bm,bM,decide_true,decide_false,go_sem,simprocAttr]
 repeat (rw[bA];simp only[ax,aL,aw,av,aK,aJ,aI,bN,bP,bQ,bO,br,bq,aW,aX,aM,bt,hl0,hp0,hn0,hc00,hc01,hc02,hc03,hc04,hl1,hp1,hn1,hc10,hc11,hc12,hc13,hc14,hl3,hp3,hn3,hc30,hc31,hc32,hc33,hc34,bm,bM,decide_true,decide_false,go_sem,simprocAttr])
 refine fm (by have:=kH iW (by decide);simp only[ae] at this;exact this) ?_
 try simp only[ax,aL,aw,av,aK,aJ,aI,bN,bP,bQ,bO,br,bq,aW,aX,aM,bt,hl0,hp0,hn0,hc00,hc01,hc02,hc03,hc04,hl1,hp1,hn1,hc10,hc11,hc12,hc13,hc14,hl3,hp3,hn3,hc30,hc31,hc32,hc33,hc34,bm,bM,decide_true,decide_false,go_sem,simprocAttr]
 repeat (rw[bA];simp only[ax,aL,aw,av,aK,aJ,aI,bN,bP,bQ,bO,br,bq,aW,aX,aM,bt,hl0,hp0,hn0,hc00,hc01,hc02,hc03,hc04,hl1,hp1,hn1,hc10,hc11,hc12,hc13,hc14,hl3,hp3,hn3,hc30,hc31,hc32,hc33,hc34,bm,bM,decide_true,decide_false,go_sem,simprocAttr])
 (try simp only[go_sem,simprocAttr])
 iterate 2 (with_reducible refine GA.go ay rfl ?_;try simp only[go_sem,simprocAttr])
 refine GA.wk (Wk.mk (L:=[]) (bl:=[]) [] [] ?_ ?_ ?_) ?_
 ·simp only[aB,aD,go_sem,simprocAttr]
  repeat' refine aa ?_ ?_
  all_goals first|exact dn|skip
 ·exact True.intro
 ·simp
 clear hF hP1 hl0 hp0 hn0 hc00 hc01 hc02 hc03 hc04 hl1 hp1 hn1 hc10 hc11 hc12 hc13 hc14 hl3 hp3 hn3 hc30 hc31 hc32 hc33 hc34
 repeat first|with_reducible refine ab ?_|simp only[go_sem,simprocAttr]
 refine pO (ey _ _ _ _ _) ?_
 simp only[aY,go_sem,simprocAttr]
 refine pO (ey _ _ _ _ _) ?_
 simp only[aY,go_sem,simprocAttr]
 refine pO (ey _ _ _ _ _) ?_
 simp only[aY,go_sem,simprocAttr]
 refine pO (ey _ _ _ _ _) ?_
 simp only[aY,go_sem,simprocAttr]
 refine ai [0] (fargs:=[.fs 5 cM.length (cC cM)]) (.cons (.sl (x:=_) (by simp) (by simp only[go_sem,simprocAttr]<;>rfl) (by simp only[cM,go_sem,simprocAttr]<;>decide) (by decide) (by simp only[go_sem,simprocAttr]<;>decide) (λi j hi hj=>?_) (λi j _ hj=>bh i hj)) .nil) cS (by simp only[go_sem,simprocAttr]) ?_
 ·rcases zz hi with rfl|rfl|rfl|rfl<;>rcases cJ hj with rfl|rfl|rfl|rfl|rfl<;>rfl
 simp only[ae,aY,go_sem,simprocAttr]
 refine GA.wk (Wk.mk (L:=[(7,.p 0 0)]) (bl:=[aq 0 25 (iU cM)]) [1] [] ?_ ?_ ?_) ?_
 ·simp only[aB,aD,go_sem,simprocAttr]
  repeat' refine aa ?_ ?_
  all_goals first|exact dn|skip
 ·exact .cons rfl (.la) (.nil)
 ·simp
 have hF:=awC
 have hP1:=Yd
 simp only[ae] at hF hP1
 repeat first|with_reducible refine ab ?_|simp only[go_sem,simprocAttr]
 refine cV hF ?_
 simp only[ae,go_sem,simprocAttr]
 refine GA.wk (Wk.mk (L:=[(7,.p 0 0),(8,.p 1 0),(3,.n .i64 0)]) (bl:=[aq 0 25 (iU fP),aq 0 25 (iU cM)]) [1,0] [] ?_ ?_ ?_) ?_
 ·simp only[aB,aD,go_sem,simprocAttr]
  repeat' refine aa ?_ ?_
  all_goals first|exact dn|skip
 ·exact .cons rfl (.la) (.cons rfl (.la) (.nil))
 ·simp
 repeat first|with_reducible refine ab ?_|simp only[go_sem,simprocAttr]
 refine cV hP1 ?_
 simp only[ae,go_sem,simprocAttr]
 refine GA.wk (Wk.mk (L:=[(7,.p 0 0),(8,.p 1 0),(9,.p 2 0),(3,.n .i64 0),(5,.n .i64 0)]) (bl:=[aq 0 25 (iU iV),aq 0 25 (iU fP),aq 0 25 (iU cM)]) [2,1,0] [] ?_ ?_ ?_) ?_
 ·simp only[aB,aD,go_sem,simprocAttr]
  repeat' refine aa ?_ ?_
  all_goals first|exact dn|skip
 ·exact .cons rfl (.la) (.cons rfl (.la) (.cons rfl (.la) (.nil)))
 ·simp
 have hl0:(0:Int)<(cM.length:Int):=by decide
 have hp0:(0:Int)<=0:=by decide
 have hn0:Int.toNat 0=0:=rfl
 have hc00:cC cM 0 0= .n .i64 (32):=rfl
 have hc01:cC cM 0 1= .n .i64 (1):=rfl
 have hc02:cC cM 0 2= .n .i64 (-1):=rfl
 have hc03:cC cM 0 3= .n .i64 (-1):=rfl
 have hc04:cC cM 0 4= .n .u32 (0):=rfl
 have hl1:(1:Int)<(cM.length:Int):=by decide
 have hp1:(0:Int)<=1:=by decide
 have hn1:Int.toNat 1=1:=rfl
 have hc10:cC cM 1 0= .n .i64 (36):=rfl
 have hc11:cC cM 1 1= .n .i64 (2):=rfl
 have hc12:cC cM 1 2= .n .i64 (1):=rfl
 have hc13:cC cM 1 3= .n .i64 (-1):=rfl
 have hc14:cC cM 1 4= .n .u32 (0):=rfl
 have hl3:(3:Int)<(cM.length:Int):=by decide
 have hp3:(0:Int)<=3:=by decide
 have hn3:Int.toNat 3=3:=rfl
 have hc30:cC cM 3 0= .n .i64 (34):=rfl
 have hc31:cC cM 3 1= .n .i64 (-1):=rfl
 have hc32:cC cM 3 2= .n .i64 (1):=rfl
 have hc33:cC cM 3 3= .n .i64 (-1):=rfl
 have hc34:cC cM 3 4= .n .u32 (0):=rfl
 with_reducible refine GA.seq ?_
 with_reducible refine GA.reg ?_
 simp only[hl0,hp0,hn0,hc00,hc01,hc02,hc03,hc04,hl1,hp1,hn1,hc10,hc11,hc12,hc13,hc14,hl3,hp3,hn3,hc30,hc31,hc32,hc33,hc34,bm,bM,decide_true,decide_false,go_sem,simprocAttr]
 refine GA.wk (Wk.mk (L:=[(7,.p 0 0),(8,.p 1 0),(9,.p 2 0),(10,.p 3 0),(3,.n .i64 0),(5,.n .i64 0)]) (bl:=[aq 0 37 (pw (34,-1,1,-1,0)),aq 0 25 (iU iV),aq 0 25 (iU fP),aq 0 25 (iU cM)]) [3,2,1,0] [] ?_ ?_ ?_) ?_
 ·simp only[aB,aD,go_sem,simprocAttr]
  repeat' refine aa ?_ ?_
  all_goals first|exact dn|skip
 ·exact .cons rfl (.lsti (x:=_) (by simp only[go_sem,simprocAttr]<;>rfl) (by rfl) (by rfl) (by rfl) (by rfl) (by rfl) (by rfl) (by simp) (λi hi=>by rcases cJ hi with rfl|rfl|rfl|rfl|rfl<;>(simp only[pw,go_sem,simprocAttr];first|done|rfl)) (by rfl)) (.cons rfl (.la) (.cons rfl (.la) (.cons rfl (.la) (.nil))))
 ·simp
 with_reducible refine GA.seq ?_
 with_reducible refine GA.seq ?_
 with_reducible refine GA.mixv ay ?_ ?_
 ·rfl
 try simp only[ax,aL,aw,av,aK,aJ,aI,bN,bP,bQ,bO,br,bq,aW,aX,aM,bt,hl0,hp0,hn0,hc00,hc01,hc02,hc03,hc04,hl1,hp1,hn1,hc10,hc11,hc12,hc13,hc14,hl3,hp3,hn3,hc30,hc31,hc32,hc33,hc34,bm,bM,decide_true,decide_false,go_sem,simprocAttr]
 repeat (rw[bA];simp only[ax,aL,aw,av,aK,aJ,aI,bN,bP,bQ,bO,br,bq,aW,aX,aM,bt,hl0,hp0,hn0,hc00,hc01,hc02,hc03,hc04,hl1,hp1,hn1,hc10,hc11,hc12,hc13,hc14,hl3,hp3,hn3,hc30,hc31,hc32,hc33,hc34,bm,bM,decide_true,decide_false,go_sem,simprocAttr])
 refine ai [4] (fargs:=[.fs 5 fP.length (cC fP)]) (.cons (.sl (x:=_) (by simp) (by simp only[go_sem,simprocAttr]<;>rfl) (by simp only[fP,go_sem,simprocAttr]<;>decide) (by decide) (by simp only[go_sem,simprocAttr]<;>decide) (λi j hi hj=>?_) (λi j _ hj=>bh i hj)) .nil) cS (by simp only[go_sem,simprocAttr]) ?_
 ·rcases zz hi with rfl|rfl|rfl|rfl<;>rcases cJ hj with rfl|rfl|rfl|rfl|rfl<;>rfl
 simp only[ae,aY,ax,aL,aw,av,aK,aJ,aI,bN,bP,bQ,bO,br,bq,aW,aX,aM,bt,hl0,hp0,hn0,hc00,hc01,hc02,hc03,hc04,hl1,hp1,hn1,hc10,hc11,hc12,hc13,hc14,hl3,hp3,hn3,hc30,hc31,hc32,hc33,hc34,bm,bM,decide_true,decide_false,go_sem,simprocAttr]
 try simp only[ax,aL,aw,av,aK,aJ,aI,bN,bP,bQ,bO,br,bq,aW,aX,aM,bt,hl0,hp0,hn0,hc00,hc01,hc02,hc03,hc04,hl1,hp1,hn1,hc10,hc11,hc12,hc13,hc14,hl3,hp3,hn3,hc30,hc31,hc32,hc33,hc34,bm,bM,decide_true,decide_false,go_sem,simprocAttr]
 repeat (rw[bA];simp only[ax,aL,aw,av,aK,aJ,aI,bN,bP,bQ,bO,br,bq,aW,aX,aM,bt,hl0,hp0,hn0,hc00,hc01,hc02,hc03,hc04,hl1,hp1,hn1,hc10,hc11,hc12,hc13,hc14,hl3,hp3,hn3,hc30,hc31,hc32,hc33,hc34,bm,bM,decide_true,decide_false,go_sem,simprocAttr])
 refine fm (by have:=kH fP (by decide);simp only[ae] at this;exact this) ?_
 try simp only[ax,aL,aw,av,aK,aJ,aI,bN,bP,bQ,bO,br,bq,aW,aX,aM,bt,hl0,hp0,hn0,hc00,hc01,hc02,hc03,hc04,hl1,hp1,hn1,hc10,hc11,hc12,hc13,hc14,hl3,hp3,hn3,hc30,hc31,hc32,hc33,hc34,bm,bM,decide_true,decide_false,go_sem,simprocAttr]
 repeat (rw[bA];simp only[ax,aL,aw,av,aK,aJ,aI,bN,bP,bQ,bO,br,bq,aW,aX,aM,bt,hl0,hp0,hn0,hc00,hc01,hc02,hc03,hc04,hl1,hp1,hn1,hc10,hc11,hc12,hc13,hc14,hl3,hp3,hn3,hc30,hc31,hc32,hc33,hc34,bm,bM,decide_true,decide_false,go_sem,simprocAttr])
 refine ai [5] (fargs:=[.fs 5 iV.length (cC iV)]) (.cons (.sl (x:=_) (by simp) (by simp only[go_sem,simprocAttr]<;>rfl) (by simp only[iV,go_sem,simprocAttr]<;>decide) (by decide) (by simp only[go_sem,simprocAttr]<;>decide) (λi j hi hj=>?_) (λi j _ hj=>bh i hj)) .nil) cS (by simp only[go_sem,simprocAttr]) ?_
 ·rcases UQ hi with rfl|rfl|rfl<;>rcases cJ hj with rfl|rfl|rfl|rfl|rfl<;>rfl
 simp only[ae,aY,ax,aL,aw,av,aK,aJ,aI,bN,bP,bQ,bO,br,bq,aW,aX,aM,bt,hl0,hp0,hn0,hc00,hc01,hc02,hc03,hc04,hl1,hp1,hn1,hc10,hc11,hc12,hc13,hc14,hl3,hp3,hn3,hc30,hc31,hc32,hc33,hc34,bm,bM,decide_true,decide_false,go_sem,simprocAttr]
 try simp only[ax,aL,aw,av,aK,aJ,aI,bN,bP,bQ,bO,br,bq,aW,aX,aM,bt,hl0,hp0,hn0,hc00,hc01,hc02,hc03,hc04,hl1,hp1,hn1,hc10,hc11,hc12,hc13,hc14,hl3,hp3,hn3,hc30,hc31,hc32,hc33,hc34,bm,bM,decide_true,decide_false,go_sem,simprocAttr]
 repeat (rw[bA];simp only[ax,aL,aw,av,aK,aJ,aI,bN,bP,bQ,bO,br,bq,aW,aX,aM,bt,hl0,hp0,hn0,hc00,hc01,hc02,hc03,hc04,hl1,hp1,hn1,hc10,hc11,hc12,hc13,hc14,hl3,hp3,hn3,hc30,hc31,hc32,hc33,hc34,bm,bM,decide_true,decide_false,go_sem,simprocAttr])
 refine fm (by have:=kH iV (by decide);simp only[ae] at this;exact this) ?_
 try simp only[ax,aL,aw,av,aK,aJ,aI,bN,bP,bQ,bO,br,bq,aW,aX,aM,bt,hl0,hp0,hn0,hc00,hc01,hc02,hc03,hc04,hl1,hp1,hn1,hc10,hc11,hc12,hc13,hc14,hl3,hp3,hn3,hc30,hc31,hc32,hc33,hc34,bm,bM,decide_true,decide_false,go_sem,simprocAttr]
 repeat (rw[bA];simp only[ax,aL,aw,av,aK,aJ,aI,bN,bP,bQ,bO,br,bq,aW,aX,aM,bt,hl0,hp0,hn0,hc00,hc01,hc02,hc03,hc04,hl1,hp1,hn1,hc10,hc11,hc12,hc13,hc14,hl3,hp3,hn3,hc30,hc31,hc32,hc33,hc34,bm,bM,decide_true,decide_false,go_sem,simprocAttr])
 (try simp only[go_sem,simprocAttr])
 iterate 2 (with_reducible refine GA.go ay rfl ?_;try simp only[go_sem,simprocAttr])
 refine GA.wk (Wk.mk (L:=[]) (bl:=[]) [] [] ?_ ?_ ?_) ?_
 ·simp only[aB,aD,go_sem,simprocAttr]
  repeat' refine aa ?_ ?_
  all_goals first|exact dn|skip
 ·exact True.intro
 ·simp
 clear hF hP1 hl0 hp0 hn0 hc00 hc01 hc02 hc03 hc04 hl1 hp1 hn1 hc10 hc11 hc12 hc13 hc14 hl3 hp3 hn3 hc30 hc31 hc32 hc33 hc34
 repeat first|with_reducible refine ab ?_|simp only[go_sem,simprocAttr]
 refine pO (ey _ _ _ _ _) ?_
 simp only[aY,go_sem,simprocAttr]
 refine pO (ey _ _ _ _ _) ?_
 simp only[aY,go_sem,simprocAttr]
 refine pO (ey _ _ _ _ _) ?_
 simp only[aY,go_sem,simprocAttr]
 refine pO (ey _ _ _ _ _) ?_
 simp only[aY,go_sem,simprocAttr]
 refine pO (ey _ _ _ _ _) ?_
 simp only[aY,go_sem,simprocAttr]
 refine ai [0] (fargs:=[.fs 5 bC.length (cC bC)]) (.cons (.sl (x:=_) (by simp) (by simp only[go_sem,simprocAttr]<;>rfl) (by simp only[bC,go_sem,simprocAttr]<;>decide) (by decide) (by simp only[go_sem,simprocAttr]<;>decide) (λi j hi hj=>?_) (λi j _ hj=>bh i hj)) .nil) cS (by simp only[go_sem,simprocAttr]) ?_
 ·rcases uU hi with rfl|rfl|rfl|rfl|rfl<;>rcases cJ hj with rfl|rfl|rfl|rfl|rfl<;>rfl
 simp only[ae,aY,go_sem,simprocAttr]
 refine GA.wk (Wk.mk (L:=[(11,.p 0 0)]) (bl:=[aq 0 25 (iU bC)]) [1] [] ?_ ?_ ?_) ?_
 ·simp only[aB,aD,go_sem,simprocAttr]
  repeat' refine aa ?_ ?_
  all_goals first|exact dn|skip
 ·exact .cons rfl (.la) (.nil)
 ·simp
 have hF:=awS
 have hP1:=awO
 simp only[ae] at hF hP1
 repeat first|with_reducible refine ab ?_|simp only[go_sem,simprocAttr]
 refine cV hF ?_
 simp only[ae,go_sem,simprocAttr]
 refine GA.wk (Wk.mk (L:=[(11,.p 0 0),(12,.p 1 0),(3,.n .i64 0)]) (bl:=[aq 0 25 (iU co),aq 0 25 (iU bC)]) [1,0] [] ?_ ?_ ?_) ?_
 ·simp only[aB,aD,go_sem,simprocAttr]
  repeat' refine aa ?_ ?_
  all_goals first|exact dn|skip
 ·exact .cons rfl (.la) (.cons rfl (.la) (.nil))
 ·simp
 repeat first|with_reducible refine ab ?_|simp only[go_sem,simprocAttr]
 refine cV hP1 ?_
 simp only[ae,go_sem,simprocAttr]
 refine GA.wk (Wk.mk (L:=[(11,.p 0 0),(12,.p 1 0),(13,.p 2 0),(3,.n .i64 0),(5,.n .i64 0)]) (bl:=[aq 0 25 (iU eo),aq 0 25 (iU co),aq 0 25 (iU bC)]) [2,1,0] [] ?_ ?_ ?_) ?_
 ·simp only[aB,aD,go_sem,simprocAttr]
  repeat' refine aa ?_ ?_
  all_goals first|exact dn|skip
 ·exact .cons rfl (.la) (.cons rfl (.la) (.cons rfl (.la) (.nil)))
 ·simp
 have hl0:(0:Int)<(bC.length:Int):=by decide
 have hp0:(0:Int)<=0:=by decide
 have hn0:Int.toNat 0=0:=rfl
 have hc00:cC bC 0 0= .n .i64 (32):=rfl
 have hc01:cC bC 0 1= .n .i64 (0):=rfl
 have hc02:cC bC 0 2= .n .i64 (-1):=rfl
 have hc03:cC bC 0 3= .n .i64 (-1):=rfl
 have hc04:cC bC 0 4= .n .u32 (0):=rfl
 have hl2:(2:Int)<(bC.length:Int):=by decide
 have hp2:(0:Int)<=2:=by decide
 have hn2:Int.toNat 2=2:=rfl
 have hc20:cC bC 2 0= .n .i64 (8):=rfl
 have hc21:cC bC 2 1= .n .i64 (2):=rfl
 have hc22:cC bC 2 2= .n .i64 (0):=rfl
 have hc23:cC bC 2 3= .n .i64 (1):=rfl
 have hc24:cC bC 2 4= .n .u32 (0):=rfl
 have hl4:(4:Int)<(bC.length:Int):=by decide
 have hp4:(0:Int)<=4:=by decide
 have hn4:Int.toNat 4=4:=rfl
 have hc40:cC bC 4 0= .n .i64 (34):=rfl
 have hc41:cC bC 4 1= .n .i64 (-1):=rfl
 have hc42:cC bC 4 2= .n .i64 (3):=rfl
 have hc43:cC bC 4 3= .n .i64 (-1):=rfl
 have hc44:cC bC 4 4= .n .u32 (0):=rfl
 have ht:(1:Nat)=1:=rfl
 refine GA.cut (au [(11,.p 0 0),(12,.p 1 0),(13,.p 2 0),(3,.n .i64 0),(5,.n .i64 0),(14,.p 3 0)]) (ao [aq 0 25 (iU co),aq 0 25 (iU eo),aq 0 25 (iU co),aq 0 25 (iU bC)]) ?_ ?_
 ·refine GA.frkm ay 3 (by simp only[eC,go_sem,simprocAttr]) ?_
  simp only[hl0,hp0,hn0,hc00,hc01,hc02,hc03,hc04,hl2,hp2,hn2,hc20,hc21,hc22,hc23,hc24,hl4,hp4,hn4,hc40,hc41,hc42,hc43,hc44,bm,bM,decide_true,decide_false,go_sem,simprocAttr]
  repeat' with_reducible refine aa ?_ ?_
  all_goals (refine pO (ey _ _ _ _ _) ?_;simp only[aY,hl0,hp0,hn0,hc00,hc01,hc02,hc03,hc04,hl2,hp2,hn2,hc20,hc21,hc22,hc23,hc24,hl4,hp4,hn4,hc40,hc41,hc42,hc43,hc44,bm,bM,decide_true,decide_false,go_sem,simprocAttr];repeat' with_reducible refine aa ?_ ?_)
  all_goals (refine pO (ey _ _ _ _ _) ?_;simp only[aY,hl0,hp0,hn0,hc00,hc01,hc02,hc03,hc04,hl2,hp2,hn2,hc20,hc21,hc22,hc23,hc24,hl4,hp4,hn4,hc40,hc41,hc42,hc43,hc44,bm,bM,decide_true,decide_false,go_sem,simprocAttr];repeat' with_reducible refine aa ?_ ?_)
  ·refine ai [3] (fargs:=[.fs 5 co.length (cC co)]) (.cons (.sl (x:=_) (by simp) (by simp only[go_sem,simprocAttr]<;>rfl) (by simp only[go_sem,simprocAttr]<;>decide) (by decide) (by simp only[go_sem,simprocAttr]<;>decide) (λi j hi hj=>by rcases uU hi with rfl|rfl|rfl|rfl|rfl<;>rcases cJ hj with rfl|rfl|rfl|rfl|rfl<;>rfl) (λi j _ hj=>bh i hj)) .nil) cS (by simp only[go_sem,simprocAttr]) ?_
   simp only[ae,aY,hl0,hp0,hn0,hc00,hc01,hc02,hc03,hc04,hl2,hp2,hn2,hc20,hc21,hc22,hc23,hc24,hl4,hp4,hn4,hc40,hc41,hc42,hc43,hc44,bm,bM,decide_true,decide_false,go_sem,simprocAttr]
   repeat' with_reducible refine aa ?_ ?_
   all_goals try decide
   refine Wk.mk [4,2,1,0] [] ?_ ?_ (by simp)
   ·simp only[aB,aD,go_sem,simprocAttr]
    repeat' refine aa ?_ ?_
    all_goals first|exact dn|skip
   ·exact .cons rfl (.la) (.cons rfl (.la) (.cons rfl (.la) (.cons rfl (.la) .nil)))
  ·refine ai [3] (fargs:=[.fs 5 co.length (cC co)]) (.cons (.sl (x:=_) (by simp) (by simp only[go_sem,simprocAttr]<;>rfl) (by simp only[go_sem,simprocAttr]<;>decide) (by decide) (by simp only[go_sem,simprocAttr]<;>decide) (λi j hi hj=>by rcases uU hi with rfl|rfl|rfl|rfl|rfl<;>rcases cJ hj with rfl|rfl|rfl|rfl|rfl<;>rfl) (λi j _ hj=>bh i hj)) .nil) cS (by simp only[go_sem,simprocAttr]) ?_
   simp only[ae,aY,hl0,hp0,hn0,hc00,hc01,hc02,hc03,hc04,hl2,hp2,hn2,hc20,hc21,hc22,hc23,hc24,hl4,hp4,hn4,hc40,hc41,hc42,hc43,hc44,bm,bM,decide_true,decide_false,go_sem,simprocAttr]
   repeat' with_reducible refine aa ?_ ?_
   all_goals try decide
   refine Wk.mk [4,2,1,0] [] ?_ ?_ (by simp)
   ·simp only[aB,aD,go_sem,simprocAttr]
    repeat' refine aa ?_ ?_
    all_goals first|exact dn|skip
   ·exact .cons rfl (.la) (.cons rfl (.la) (.cons rfl (.la) (.cons rfl (.la) .nil)))
  ·refine ai [4] (fargs:=[.fs 5 co.length (cC co)]) (.cons (.sl (x:=_) (by simp) (by simp only[go_sem,simprocAttr]<;>rfl) (by simp only[go_sem,simprocAttr]<;>decide) (by decide) (by simp only[go_sem,simprocAttr]<;>decide) (λi j hi hj=>by rcases uU hi with rfl|rfl|rfl|rfl|rfl<;>rcases cJ hj with rfl|rfl|rfl|rfl|rfl<;>rfl) (λi j _ hj=>bh i hj)) .nil) cS (by simp only[go_sem,simprocAttr]) ?_
   simp only[ae,aY,hl0,hp0,hn0,hc00,hc01,hc02,hc03,hc04,hl2,hp2,hn2,hc20,hc21,hc22,hc23,hc24,hl4,hp4,hn4,hc40,hc41,hc42,hc43,hc44,bm,bM,decide_true,decide_false,go_sem,simprocAttr]
   repeat' with_reducible refine aa ?_ ?_
   all_goals try decide
   refine Wk.mk [3,2,1,0] [] ?_ ?_ (by simp)
   ·simp only[aB,aD,go_sem,simprocAttr]
    repeat' refine aa ?_ ?_
    all_goals first|exact dn|skip
   ·exact .cons rfl (.la) (.cons rfl (.la) (.cons rfl (.la) (.cons rfl (.la) .nil)))
  ·refine ai [4] (fargs:=[.fs 5 co.length (cC co)]) (.cons (.sl (x:=_) (by simp) (by simp only[go_sem,simprocAttr]<;>rfl) (by simp only[go_sem,simprocAttr]<;>decide) (by decide) (by simp only[go_sem,simprocAttr]<;>decide) (λi j hi hj=>by rcases uU hi with rfl|rfl|rfl|rfl|rfl<;>rcases cJ hj with rfl|rfl|rfl|rfl|rfl<;>rfl) (λi j _ hj=>bh i hj)) .nil) cS (by simp only[go_sem,simprocAttr]) ?_
   simp only[ae,aY,hl0,hp0,hn0,hc00,hc01,hc02,hc03,hc04,hl2,hp2,hn2,hc20,hc21,hc22,hc23,hc24,hl4,hp4,hn4,hc40,hc41,hc42,hc43,hc44,bm,bM,decide_true,decide_false,go_sem,simprocAttr]
   repeat' with_reducible refine aa ?_ ?_
   all_goals try decide
   refine Wk.mk [3,2,1,0] [] ?_ ?_ (by simp)
   ·simp only[aB,aD,go_sem,simprocAttr]
    repeat' refine aa ?_ ?_
    all_goals first|exact dn|skip
   ·exact .cons rfl (.la) (.cons rfl (.la) (.cons rfl (.la) (.cons rfl (.la) .nil)))
  ·refine ai [4] (fargs:=[.fs 5 co.length (cC co)]) (.cons (.sl (x:=_) (by simp) (by simp only[go_sem,simprocAttr]<;>rfl) (by simp only[go_sem,simprocAttr]<;>decide) (by decide) (by simp only[go_sem,simprocAttr]<;>decide) (λi j hi hj=>by rcases uU hi with rfl|rfl|rfl|rfl|rfl<;>rcases cJ hj with rfl|rfl|rfl|rfl|rfl<;>rfl) (λi j _ hj=>bh i hj)) .nil) cS (by simp only[go_sem,simprocAttr]) ?_
   simp only[ae,aY,hl0,hp0,hn0,hc00,hc01,hc02,hc03,hc04,hl2,hp2,hn2,hc20,hc21,hc22,hc23,hc24,hl4,hp4,hn4,hc40,hc41,hc42,hc43,hc44,bm,bM,decide_true,decide_false,go_sem,simprocAttr]
   repeat' with_reducible refine aa ?_ ?_
   all_goals try decide
   refine Wk.mk [3,2,1,0] [] ?_ ?_ (by simp)
   ·simp only[aB,aD,go_sem,simprocAttr]
    repeat' refine aa ?_ ?_
    all_goals first|exact dn|skip
   ·exact .cons rfl (.la) (.cons rfl (.la) (.cons rfl (.la) (.cons rfl (.la) .nil)))
 with_reducible refine GA.seq ?_
 with_reducible refine GA.mixv ay ?_ ?_
 ·rfl
 try simp only[ax,aL,aw,av,aK,aJ,aI,bN,bP,bQ,bO,br,bq,aW,aX,aM,bt,hl0,hp0,hn0,hc00,hc01,hc02,hc03,hc04,hl2,hp2,hn2,hc20,hc21,hc22,hc23,hc24,hl4,hp4,hn4,hc40,hc41,hc42,hc43,hc44,bm,bM,decide_true,decide_false,go_sem,simprocAttr]
 repeat (rw[bA];simp only[ax,aL,aw,av,aK,aJ,aI,bN,bP,bQ,bO,br,bq,aW,aX,aM,bt,hl0,hp0,hn0,hc00,hc01,hc02,hc03,hc04,hl2,hp2,hn2,hc20,hc21,hc22,hc23,hc24,hl4,hp4,hn4,hc40,hc41,hc42,hc43,hc44,bm,bM,decide_true,decide_false,go_sem,simprocAttr])
 refine fm (by have:=kH co (by decide);simp only[ae] at this;exact this) ?_
 try simp only[ax,aL,aw,av,aK,aJ,aI,bN,bP,bQ,bO,br,bq,aW,aX,aM,bt,hl0,hp0,hn0,hc00,hc01,hc02,hc03,hc04,hl2,hp2,hn2,hc20,hc21,hc22,hc23,hc24,hl4,hp4,hn4,hc40,hc41,hc42,hc43,hc44,bm,bM,decide_true,decide_false,go_sem,simprocAttr]
 repeat (rw[bA];simp only[ax,aL,aw,av,aK,aJ,aI,bN,bP,bQ,bO,br,bq,aW,aX,aM,bt,hl0,hp0,hn0,hc00,hc01,hc02,hc03,hc04,hl2,hp2,hn2,hc20,hc21,hc22,hc23,hc24,hl4,hp4,hn4,hc40,hc41,hc42,hc43,hc44,bm,bM,decide_true,decide_false,go_sem,simprocAttr])
 refine pO (ey _ _ _ _ _) ?_
 simp only[aY,ax,aL,aw,av,aK,aJ,aI,bN,bP,bQ,bO,br,bq,aW,aX,aM,bt,hl0,hp0,hn0,hc00,hc01,hc02,hc03,hc04,hl2,hp2,hn2,hc20,hc21,hc22,hc23,hc24,hl4,hp4,hn4,hc40,hc41,hc42,hc43,hc44,bm,bM,decide_true,decide_false,go_sem,simprocAttr]
 try simp only[ax,aL,aw,av,aK,aJ,aI,bN,bP,bQ,bO,br,bq,aW,aX,aM,bt,hl0,hp0,hn0,hc00,hc01,hc02,hc03,hc04,hl2,hp2,hn2,hc20,hc21,hc22,hc23,hc24,hl4,hp4,hn4,hc40,hc41,hc42,hc43,hc44,bm,bM,decide_true,decide_false,go_sem,simprocAttr]
 repeat (rw[bA];simp only[ax,aL,aw,av,aK,aJ,aI,bN,bP,bQ,bO,br,bq,aW,aX,aM,bt,hl0,hp0,hn0,hc00,hc01,hc02,hc03,hc04,hl2,hp2,hn2,hc20,hc21,hc22,hc23,hc24,hl4,hp4,hn4,hc40,hc41,hc42,hc43,hc44,bm,bM,decide_true,decide_false,go_sem,simprocAttr])
 refine pO (ey _ _ _ _ _) ?_
 simp only[aY,ax,aL,aw,av,aK,aJ,aI,bN,bP,bQ,bO,br,bq,aW,aX,aM,bt,hl0,hp0,hn0,hc00,hc01,hc02,hc03,hc04,hl2,hp2,hn2,hc20,hc21,hc22,hc23,hc24,hl4,hp4,hn4,hc40,hc41,hc42,hc43,hc44,bm,bM,decide_true,decide_false,go_sem,simprocAttr]
 try simp only[ax,aL,aw,av,aK,aJ,aI,bN,bP,bQ,bO,br,bq,aW,aX,aM,bt,hl0,hp0,hn0,hc00,hc01,hc02,hc03,hc04,hl2,hp2,hn2,hc20,hc21,hc22,hc23,hc24,hl4,hp4,hn4,hc40,hc41,hc42,hc43,hc44,bm,bM,decide_true,decide_false,go_sem,simprocAttr]
 repeat (rw[bA];simp only[ax,aL,aw,av,aK,aJ,aI,bN,bP,bQ,bO,br,bq,aW,aX,aM,bt,hl0,hp0,hn0,hc00,hc01,hc02,hc03,hc04,hl2,hp2,hn2,hc20,hc21,hc22,hc23,hc24,hl4,hp4,hn4,hc40,hc41,hc42,hc43,hc44,bm,bM,decide_true,decide_false,go_sem,simprocAttr])
 refine ai [4] (fargs:=[.fs 5 eo.length (cC eo)]) (.cons (.sl (x:=_) (by simp) (by simp only[go_sem,simprocAttr]<;>rfl) (by simp only[eo,go_sem,simprocAttr]<;>decide) (by decide) (by simp only[go_sem,simprocAttr]<;>decide) (λi j hi hj=>?_) (λi j _ hj=>bh i hj)) .nil) cS (by simp only[go_sem,simprocAttr]) ?_
 ·rcases UQ hi with rfl|rfl|rfl<;>rcases cJ hj with rfl|rfl|rfl|rfl|rfl<;>rfl
 simp only[ae,aY,ax,aL,aw,av,aK,aJ,aI,bN,bP,bQ,bO,br,bq,aW,aX,aM,bt,hl0,hp0,hn0,hc00,hc01,hc02,hc03,hc04,hl2,hp2,hn2,hc20,hc21,hc22,hc23,hc24,hl4,hp4,hn4,hc40,hc41,hc42,hc43,hc44,bm,bM,decide_true,decide_false,go_sem,simprocAttr]
 try simp only[ax,aL,aw,av,aK,aJ,aI,bN,bP,bQ,bO,br,bq,aW,aX,aM,bt,hl0,hp0,hn0,hc00,hc01,hc02,hc03,hc04,hl2,hp2,hn2,hc20,hc21,hc22,hc23,hc24,hl4,hp4,hn4,hc40,hc41,hc42,hc43,hc44,bm,bM,decide_true,decide_false,go_sem,simprocAttr]
 repeat (rw[bA];simp only[ax,aL,aw,av,aK,aJ,aI,bN,bP,bQ,bO,br,bq,aW,aX,aM,bt,hl0,hp0,hn0,hc00,hc01,hc02,hc03,hc04,hl2,hp2,hn2,hc20,hc21,hc22,hc23,hc24,hl4,hp4,hn4,hc40,hc41,hc42,hc43,hc44,bm,bM,decide_true,decide_false,go_sem,simprocAttr])
 refine fm (by have:=kH eo (by decide);simp only[ae] at this;exact this) ?_
 try simp only[ax,aL,aw,av,aK,aJ,aI,bN,bP,bQ,bO,br,bq,aW,aX,aM,bt,hl0,hp0,hn0,hc00,hc01,hc02,hc03,hc04,hl2,hp2,hn2,hc20,hc21,hc22,hc23,hc24,hl4,hp4,hn4,hc40,hc41,hc42,hc43,hc44,bm,bM,decide_true,decide_false,go_sem,simprocAttr]
 repeat (rw[bA];simp only[ax,aL,aw,av,aK,aJ,aI,bN,bP,bQ,bO,br,bq,aW,aX,aM,bt,hl0,hp0,hn0,hc00,hc01,hc02,hc03,hc04,hl2,hp2,hn2,hc20,hc21,hc22,hc23,hc24,hl4,hp4,hn4,hc40,hc41,hc42,hc43,hc44,bm,bM,decide_true,decide_false,go_sem,simprocAttr])
 with_reducible refine GA.ret ?_
 simp only[go_sem,simprocAttr]
 exact ah rfl rfl
theorem xy{na:Nat}{ra:Nat->Nat->AV}{regs par:Int}{cs:List In}(hf:gy na regs cs=false):a7 Tryz.prog 3 [ae na ra regs par cs] [.v (.b true)]:=by
 have hw:=gx na ra regs par cs
 rw[hf] at hw
 refine af ay Au ⟨by simp,by decide⟩ ?_
 simp only[aZ,ae] at hw ⊢
 repeat first|with_reducible refine ab ?_|simp only[go_sem,simprocAttr]
 refine cV hw ?_
 repeat first|with_reducible refine ab ?_|simp only[go_sem,simprocAttr]
 refine ai [] .nil gB (by simp only[go_sem,simprocAttr]) ?_
 repeat first|with_reducible refine ab ?_|simp only[go_sem,simprocAttr]
 exact ah rfl rfl
theorem pe{na:Nat}{ra:Nat->Nat->AV}{regs par:Int}{cs:List In}(hf:gy na regs cs=false):a7 Tryz.prog 7 [ae na ra regs par cs] [.v (.b true)]:=by
 have hw:=gx na ra regs par cs
 rw[hf] at hw
 refine af ay vZ ⟨by simp,by decide⟩ ?_
 simp only[aZ,ae] at hw ⊢
 repeat first|with_reducible refine ab ?_|simp only[go_sem,simprocAttr]
 refine cV hw ?_
 repeat first|with_reducible refine ab ?_|simp only[go_sem,simprocAttr]
 refine ai [] .nil gB (by simp only[go_sem,simprocAttr]) ?_
 repeat first|with_reducible refine ab ?_|simp only[go_sem,simprocAttr]
 exact ah rfl rfl
theorem nz{na:Nat}{ra:Nat->Nat->AV}{regs par:Int}{cs c2 c3:List In}(hf:gy na regs cs=true)(hA:a7 Tryz.prog 19 [ae na ra regs par cs] [.v (ae na ra regs par c2),.v (.n .i64 0)])
  (hB:a7 Tryz.prog 20 [ae na ra regs par cs] [.v (ae na ra regs par c3),.v (.n .i64 0)]) (hS:a7 Tryz.prog 12 [ae na ra regs par c2,ae na ra regs par c3] [.v (.b true)]):
  a7 Tryz.prog 7 [ae na ra regs par cs] [.v (.b true)]:=by
 have hw:=gx na ra regs par cs
 rw[hf] at hw
 refine af ay vZ ⟨by simp,by decide⟩ ?_
 simp only[aZ,ae] at hw hA hB hS ⊢
 repeat first|with_reducible refine ab ?_|simp only[go_sem,simprocAttr]
 refine cV hw ?_
 repeat first|with_reducible refine ab ?_|simp only[go_sem,simprocAttr]
 refine cV hA ?_
 repeat first|with_reducible refine ab ?_|simp only[go_sem,simprocAttr]
 refine cV hB ?_
 repeat first|with_reducible refine ab ?_|simp only[go_sem,simprocAttr]
 refine ai [] .nil gB (by simp only[go_sem,simprocAttr]) ?_
 repeat first|with_reducible refine ab ?_|simp only[go_sem,simprocAttr]
 refine fm hS ?_
 repeat first|with_reducible refine ab ?_|simp only[decide_true,go_sem,simprocAttr]
 exact ah rfl rfl
structure rM(K:Type) where
 out:List In
 k:K
 st:List K
def zO{K:Type}(wo:K->List In->K)(bo:K->K->K)(cs:List In)(pt:List Int)(i:Nat)(op:Int)(k:K)(st:List K):Option (K×List K):=
 if op=27 then some (k,k::st)
 else if op=28 then match st with
  |t::r=>some (t,k::r)
  |[]=>none
 else if op=29 then(if(i:Int)<=pt.getD i 0/\pt.getD i 0<=cs.length then some (wo k ((cs.take (pt.getD i 0).toNat).drop i),st) else none)
 else if op=31 then(if 0<=pt.getD i 0/\pt.getD i 0<=i then
   (if(cs.getD (pt.getD i 0).toNat dj).1=29 then some (wo k ((cs.take i).drop (pt.getD i 0).toNat),st)
   else match st with
    |t::r=>some (bo k t,r)
    |[]=>none)
  else none)
 else some (k,st)
def mE{K:Type}(F:In->K->K->Option (In×K))(x:In)(s:rM K)(q:K×List K):rM K:=match F x s.k q.1 with
 |some r=>⟨s.out++[r.1],r.2,q.2⟩
 |none=>⟨s.out,q.1,q.2⟩
def oa{K:Type}(wo:K->List In->K)(bo:K->K->K)(F:In->K->K->Option (In×K))(cs:List In)(pt:List Int)(i:Nat)(x:In)(s:rM K):Option (rM K):=
 (zO wo bo cs pt i x.1 s.k s.st).map (mE F x s)
def tP{K:Type}(wo:K->List In->K)(bo:K->K->K)(F:In->K->K->Option (In×K))(cs:List In)(pt:List Int):List In->Nat->rM K->Option (rM K)
 |[],_,s=>some s
 |x::l,i,s=>(oa wo bo F cs pt i x s).bind (tP wo bo F cs pt l (i+1))
theorem AY{K:Type}(wo:K->List In->K)(bo:K->K->K)(F:In->K->K->Option (In×K))(cs:List In)(pt:List Int):∀(l:List In) (i:Nat) (s:rM K),tP wo bo F cs pt l i s=xk (oa wo bo F cs pt) l i s
 |[],i,s=>rfl
 |x::l,i,s=>by
  unfold tP xk
  congr 1
  funext s
  exact AY wo bo F cs pt l (i+1) s
def mu(op:Int):Prop:=op=27\/op=28\/op=29\/op=31
structure GR{F K:Type}(R:List F->K->Prop)(d:Nat)(s:oz F)(r:rM K):Prop where
 out:s.out=r.out
 k:R s.fs r.k
 d:s.op.length=d
 st:rI R s.op r.st
variable {F K:Type} {R:List F->K->Prop} {D:In->F->Bool} {E:F->F->Bool} {V:In->List F->In×Bool×List F} {wo:K->List In->K} {bo:K->K->K} {Fi:In->K->K->Option (In×K)} {cs:List In} {pt:List Int}
theorem zh{i d d':Nat}{x:In}{fs:List F}{op:List (List F)}{k:K}{st:List K}
  (hwo:∀fs k xs,(∀x ∈ xs,x ∈ cs)->R fs k->R (eH D fs xs) (wo k xs)) (hbo:∀fs k t k2,R fs k->R t k2->R (ow E fs t) (bo k k2))
  (hs:dh cs pt i x.1 d=some d') (h3:R fs k) (h4:op.length=d) (h5:rI R op st):
  ∃q1 q2,cZ D E cs pt i x.1 fs op=some q1/\zO wo bo cs pt i x.1 k st=some q2/\R q1.1 q2.1/\q1.2.length=d'/\rI R q1.2 q2.2/\(mu x.1\/(q1=(fs,op)/\q2=(k,st)/\d'=d)):=by
 have sub1:∀a b,∀x ∈ (cs.take a).drop b,x ∈ cs:=λa b x hx=>List.mem_of_mem_take (List.mem_of_mem_drop hx)
 unfold dh at hs
 unfold cZ zO mu
 by_cases c27:x.1=27
 ·rw[if_pos c27] at hs ⊢
  rw[if_pos c27]
  cases hs
  exact⟨_,_,rfl,rfl,h3,by simp[h4],.cons h3 h5,.inl (.inl c27)⟩
 rw[if_neg c27] at hs ⊢
 rw[if_neg c27]
 by_cases c28:x.1=28
 ·rw[if_pos c28] at hs ⊢
  rw[if_pos c28]
  split at hs
  rotate_left
  ·cases hs
  cases hs
  cases h5 with
  |nil=>simp at h4;omega
  |@cons t k r r2 ht hr=>exact⟨_,_,rfl,rfl,ht,by simpa using h4,.cons h3 hr,.inl (.inr (.inl c28))⟩
 rw[if_neg c28] at hs ⊢
 rw[if_neg c28]
 by_cases c29:x.1=29
 ·rw[if_pos c29] at hs ⊢
  rw[if_pos c29]
  split at hs
  rotate_left
  ·cases hs
  rename_i hp
  cases hs
  rw[if_pos hp,if_pos hp]
  exact⟨_,_,rfl,rfl,hwo _ _ _ (sub1 _ _) h3,h4,h5,.inl (.inr (.inr (.inl c29)))⟩
 rw[if_neg c29] at hs ⊢
 rw[if_neg c29]
 by_cases c31:x.1=31
 ·rw[if_pos c31] at hs ⊢
  rw[if_pos c31]
  split at hs
  rotate_left
  ·cases hs
  rename_i hp
  rw[if_pos hp,if_pos hp]
  split at hs
  ·rename_i hb
   cases hs
   rw[if_pos hb,if_pos hb]
   exact⟨_,_,rfl,rfl,hwo _ _ _ (sub1 _ _) h3,h4,h5,.inl (.inr (.inr (.inr c31)))⟩
  ·rename_i hb
   rw[if_neg hb,if_neg hb]
   split at hs
   rotate_left
   ·cases hs
   cases hs
   cases h5 with
   |nil=>simp at h4;omega
   |@cons t k r r2 ht hr=>exact⟨_,_,rfl,rfl,hbo _ _ _ _ h3 ht,by simp at h4 ⊢;omega,hr,.inl (.inr (.inr (.inr c31)))⟩
 rw[if_neg c31] at hs ⊢
 rw[if_neg c31]
 cases hs
 exact⟨_,_,rfl,rfl,h3,h4,h5,.inr ⟨rfl,rfl,rfl⟩⟩
theorem nJ{fs0:List F}{k0:K}
  (hwo:∀fs k xs,(∀x ∈ xs,x ∈ cs)->R fs k->R (eH D fs xs) (wo k xs)) (hbo:∀fs k t k2,R fs k->R t k2->R (ow E fs t) (bo k k2))
  (hv:∀x ∈ cs,∀fs k fs' k',R fs k->R fs' k'->(mu x.1\/(fs'=fs/\k'=k))->
   if(V x fs).2.1=true then ∃k2,Fi x k k'=some ((V x fs).1,k2)/\R (eH D fs' [(V x fs).1]++(V x fs).2.2) k2 else Fi x k k'=none/\¬mu x.1)
  (h0:R fs0 k0) (hsh:fF cs pt cs.length 0 0=some 0):
  ∃a b,bV D E V cs pt cs 0 ⟨[],fs0,[]⟩=some a/\tP wo bo Fi cs pt cs 0 ⟨[],k0,[]⟩=some b/\a.out=b.out:=by
 obtain⟨a,b,e1,e2,hR⟩:=zG (cs:=cs) (pt:=pt) (f1:=b6 D E V cs pt) (f2:=oa wo bo Fi cs pt) (λi d s r=>GR R d s r) (λi d d' s1 s2 hi hs hR=>by
   have hmem:cs.getD i dj ∈ cs:=by rw[List.getD_eq_getElem?_getD,List.getElem?_eq_getElem hi];exact List.getElem_mem _
   generalize cs.getD i dj=x at hs hmem ⊢
   obtain⟨out,fs,op⟩:=s1
   obtain⟨rout,k,st⟩:=s2
   obtain⟨h1,h3,h4,h5⟩:=hR
   simp only at h1 h3 h4 h5
   obtain⟨q1,q2,g1,g2,g3,g4,g5,g6⟩:=zh (D:=D) (E:=E) (wo:=wo) (bo:=bo) hwo hbo hs h3 h4 h5
   have hv:=hv x hmem fs k q1.1 q2.1 h3 g3 (g6.imp id λg=>by rw[g.1,g.2.1];exact⟨rfl,rfl⟩)
   unfold b6 oa
   simp only
   rw[g1,g2]
   by_cases hr:(V x fs).2.1=true
   ·rw[if_pos hr] at hv ⊢
    obtain⟨k2,e1,e2⟩:=hv
    refine⟨_,_,rfl,rfl,?_⟩
    unfold mE
    simp only
    rw[e1]
    exact⟨by rw[h1],e2,g4,g5⟩
   ·rw[if_neg hr] at hv ⊢
    rcases g6 with g6|⟨rfl,rfl,rfl⟩
    ·exact absurd g6 hv.2
    refine⟨_,_,rfl,rfl,?_⟩
    unfold mE
    simp only
    rw[hv.1]
    exact⟨h1,h3,h4,h5⟩) cs.length 0 0 0 ⟨[],fs0,[]⟩ ⟨[],k0,[]⟩ (by omega) hsh ⟨rfl,h0,rfl,.nil⟩
 rw[List.drop_zero] at e1 e2
 exact⟨a,b,by rw[j6];exact e1,by rw[AY];exact e2,hR.out⟩
end Go.Proofs.YtidhfimbnjaceaaGreat
namespace Go.Proofs.YtidhfimbnjaceaaGreat
open Go.RowKit
def SR(regs:Nat)(fs:List (Int×Int))(l:Nat->Int):Prop:=(∀r s,(r,s) ∈ fs↔∃q:Nat,r=(q:Int)/\q<regs/\0<=l q/\l q=s)/\∀q,q<regs->l q<regs
theorem nM:∀(fs:List (Int×Int)) (r:Int),(∃f ∈ fs,f.1=r/\ef fs r=f.2)\/((∀f ∈ fs,f.1≠r)/\ef fs r=r)
 |[],r=> .inr ⟨λf hf=>(by cases hf),rfl⟩
 |f::l,r=>by
  rw[ef]
  by_cases h:f.1=r
  ·rw[if_pos h];exact .inl ⟨f,List.mem_cons_self ..,h,rfl⟩
  ·rw[if_neg h]
   rcases nM l r with⟨g,hg,e1,e2⟩|⟨h1,h2⟩
   ·exact .inl ⟨g,List.mem_cons_of_mem _ hg,e1,e2⟩
   ·refine .inr ⟨λg hg=>?_,h2⟩
    rcases List.mem_cons.1 hg with rfl|hg
    ·exact h
    ·exact h1 g hg
theorem we{regs:Nat}{fs:List (Int×Int)}{l:Nat->Int}(h:SR regs fs l){r:Int}(hr:r<regs):ef fs r=dv l r:=by
 rcases nM fs r with⟨f,hf,e1,e2⟩|⟨h1,h2⟩
 ·obtain⟨q,g1,g2,g3,g4⟩:=(h.1 f.1 f.2).1 hf
  rw[e2]
  unfold dv
  have:r=(q:Int):=by omega
  subst this
  rw[Int.toNat_natCast,if_pos ⟨by omega,g3⟩,g4]
 ·rw[h2]
  unfold dv
  rw[if_neg]
  rintro ⟨g1,g2⟩
  refine h1 (r,l r.toNat) ((h.1 _ _).2 ⟨r.toNat,by omega,by omega,g2,rfl⟩) rfl
theorem zi{regs:Nat}{fs:List (Int×Int)}{l:Nat->Int}(h:SR regs fs l){r:Int}(hr:r<regs):dv l r<regs:=by
 unfold dv
 split
 ·rename_i g;exact h.2 _ (by omega)
 ·exact hr
theorem oD{regs:Nat}{l:Nat->Int}{w:Nat->Bool}(h:∀q,q<regs->l q<regs)(q:Nat)(hq:q<regs):mZ l w q<regs:=by
 unfold mZ;split
 ·omega
 ·exact h q hq
theorem SR.wo{regs:Nat}{fs:List (Int×Int)}{l:Nat->Int}(h:SR regs fs l)(xs:List In):SR regs (eH kc fs xs) (mZ l (fg xs)):=by
 refine⟨λr s=>?_,oD h.2⟩
 unfold eH
 rw[List.mem_filter,h.1 r s]
 simp only[Bool.not_eq_true',List.any_eq_false,kc,Bool.or_eq_true,decide_eq_true_eq,not_or]
 constructor
 ·rintro ⟨⟨q,rfl,h1,h2,rfl⟩,h4⟩
  have hn:¬(0<=l q/\(fg xs q=true\/fg xs (l q).toNat=true)):=by
   rintro ⟨_,g|g⟩
   ·simp only[fg,List.any_eq_true,decide_eq_true_eq] at g
    obtain⟨x,hx,e⟩:=g
    exact(h4 x hx).1 e
   ·simp only[fg,List.any_eq_true,decide_eq_true_eq] at g
    obtain⟨x,hx,e⟩:=g
    exact(h4 x hx).2 (by omega)
  exact⟨q,rfl,h1,by unfold mZ;rw[if_neg hn];exact h2,by unfold mZ;rw[if_neg hn]⟩
 ·rintro ⟨q,rfl,h1,h2,h3⟩
  unfold mZ at h2 h3
  split at h3
  ·rename_i g;rw[if_pos g] at h2;omega
  ·rename_i g
   rw[if_neg g] at h2
   refine⟨⟨q,rfl,h1,h2,h3⟩,λx hx=>⟨λe=>g ⟨h2,.inl ?_⟩,λe=>g ⟨h2,.inr ?_⟩⟩⟩
   ·simp only[fg,List.any_eq_true,decide_eq_true_eq];exact⟨x,hx,e⟩
   ·simp only[fg,List.any_eq_true,decide_eq_true_eq];exact⟨x,hx,by omega⟩
theorem SR.bo{regs:Nat}{fs t:List (Int×Int)}{l l2:Nat->Int}(h:SR regs fs l)(h2:SR regs t l2):SR regs (ow EK fs t) (s5 l l2):=by
 refine⟨λr s=>?_,λq hq=>(by
  unfold s5
  split
  ·exact h.2 q hq
  ·omega)⟩
 unfold ow
 rw[List.mem_filter,h.1 r s]
 simp only[EK,List.any_eq_true,Bool.and_eq_true,decide_eq_true_eq]
 constructor
 ·rintro ⟨⟨q,rfl,h3,h4,rfl⟩,g,hg,e1,e2⟩
  obtain⟨q',e3,e4,e5,e6⟩:=(h2.1 g.1 g.2).1 hg
  have:q'=q:=by omega
  subst this
  have e:l q'=l2 q':=by omega
  exact⟨q',rfl,h3,by unfold s5;rw[if_pos e];exact h4,by unfold s5;rw[if_pos e]⟩
 ·rintro ⟨q,rfl,h3,h4,h5⟩
  unfold s5 at h4 h5
  split at h5
  ·rename_i e
   rw[if_pos e] at h4
   exact⟨⟨q,rfl,h3,h4,h5⟩,((q:Int),s),(h2.1 _ _).2 ⟨q,rfl,h3,by omega,by omega⟩,rfl,rfl⟩
  ·rename_i e
   rw[if_neg e] at h4;omega
def Vn(l:Nat->Int)(xs:List In):Nat->Int:=mZ l (fg xs)
def cF(x:In)(l l':Nat->Int):Option (In×(Nat->Int)):=
 if x.1=36/\dv l x.2.2.1=x.2.1 then none
 else some ((x.1,x.2.1,dv l x.2.2.1,dv l x.2.2.2.1,x.2.2.2.2),if 0<=ar x.1 x.2.1 then upd (mZ l' (λi=>decide (i=(ar x.1 x.2.1).toNat))) (ar x.1 x.2.1).toNat (if x.1=36 then dv l x.2.2.1 else-1) else l')
theorem SR.none{regs:Nat}{fs:List (Int×Int)}{l:Nat->Int}(h:SR regs fs l){y:In}(hw:ar y.1 y.2.1<0):eH kc fs [y]=fs:=by
 unfold eH
 rw[List.filter_eq_self]
 intro f hf
 obtain⟨q,e,_,e2,e3⟩:=(h.1 f.1 f.2).1 hf
 simp only[kc,List.any_cons,List.any_nil,Bool.or_false,Bool.not_eq_true',Bool.or_eq_false_iff,decide_eq_false_iff_not]
 omega
theorem SR.put{regs:Nat}{fs:List (Int×Int)}{l:Nat->Int}(h:SR regs fs l){y:In}{q0:Nat}{s:Int}{new:List (Int×Int)}(hw:ar y.1 y.2.1=(q0:Int))(hq:q0<regs)
  (hs:s<regs) (hn:new=if 0<=s then[((q0:Int),s)] else[]) (hne:s≠(q0:Int)):SR regs (eH kc fs [y]++new) (upd (mZ l (λi=>decide (i=q0))) q0 s):=by
 have hwo:=h.wo [y]
 have hwr:fg [y]=λi=>decide (i=q0):=by
  funext i
  simp only[fg,List.any_cons,List.any_nil,Bool.or_false,hw]
  rw[Bool.eq_iff_iff];simp only[decide_eq_true_eq];omega
 rw[hwr] at hwo
 refine⟨λr n=>?_,λq hq=>(by
  unfold upd
  split
  ·exact hs
  ·exact hwo.2 q hq)⟩
 rw[List.mem_append,hwo.1 r n,hn]
 constructor
 ·rintro (⟨q,rfl,h1,h2,h3⟩|h1)
  ·have hqq:q≠q0:=by
    rintro rfl
    unfold mZ at h2
    split at h2
    ·omega
    ·rename_i g;exact g ⟨h2,.inl (by simp)⟩
   exact⟨q,rfl,h1,by simp only[upd];rw[if_neg hqq];exact h2,by simp only[upd];rw[if_neg hqq];exact h3⟩
  ·split at h1
   ·rename_i g
    simp only[List.mem_singleton,Prod.mk.injEq] at h1
    exact⟨q0,h1.1,hq,by simp only[upd,if_true];exact g,by simp only[upd,if_true];exact h1.2.symm⟩
   ·cases h1
 ·rintro ⟨q,rfl,h1,h2,h3⟩
  simp only[upd] at h2 h3
  by_cases e:q=q0
  ·subst e
   rw[if_pos rfl] at h2 h3
   right
   rw[if_pos h2];simp[h3]
  ·rw[if_neg e] at h2 h3
   exact .inl ⟨q,rfl,h1,h2,h3⟩
theorem qR{regs:Nat}{par nA:Int}{cs:List In}{pt:List Int}(hin:∀x ∈ cs,mY regs par nA x)(hsh:fF cs pt cs.length 0 0=some 0):
  ∃a b,bV kc EK eW cs pt cs 0 ⟨[],[],[]⟩=some a/\tP Vn s5 cF cs pt cs 0 ⟨[],λ_=> -1,[]⟩=some b/\a.out=b.out:=by
 refine nJ (R:=SR regs) (λfs k xs _ h=>h.wo xs) (λfs k t k2 h h2=>h.bo h2) (λx hx fs l fs' l' h h' hcase=>?_) ⟨λr s=>⟨λh=>(by cases h),λ⟨q,_,_,h,_⟩=>(by simp at h)⟩,λq _=>(by show(-1:Int)<_;omega)⟩ hsh
 have hc:=hin x hx
 have ha:x.2.2.1<regs:=by
  have:=hc.a
  split at this<;>omega
 have hb:x.2.2.2.1<regs:=by
  have:=hc.b
  split at this<;>omega
 have ea:=we h ha
 have eb:=we h hb
 have hal:=zi h ha
 have hto:=hc.to
 have hV:eW x fs=fZ x.1 x.2.1 (dv l x.2.2.1) (dv l x.2.2.2.1) x.2.2.2.2:=by unfold eW;rw[ea,eb]
 rw[hV]
 by_cases h36:x.1=36
 ·have hns:¬mu x.1:=by unfold mu;omega
  rcases hcase with hcase|⟨rfl,rfl⟩
  ·exact absurd hcase hns
  have hto:0<=x.2.1/\x.2.1<regs:=by rw[h36] at hto;exact hto
  have ha0:0<=x.2.2.1:=by
   have:=hc.a
   rw[h36,if_pos (show ua 36=true from tm.1)] at this
   exact this.1
  have hs0:0<=dv l' x.2.2.1:=by unfold dv;split<;>omega
  unfold fZ
  rw[if_pos h36]
  by_cases e:dv l' x.2.2.1=x.2.1
  ·rw[if_pos e]
   simp only[Bool.false_eq_true,if_false]
   exact⟨by unfold cF;rw[if_pos ⟨h36,e⟩],hns⟩
  ·rw[if_neg e]
   simp only[if_true]
   have hw:ar x.1 x.2.1=x.2.1:=by rw[h36];rfl
   refine⟨_,by unfold cF;rw[if_neg (λg=>e g.2)],?_⟩
   rw[if_pos (by rw[hw];exact hto.1),if_pos h36,hw]
   exact h.put (by show ar x.1 x.2.1=_;rw[hw];omega) (by omega) hal (by rw[if_pos hs0];congr 2;omega) (by omega)
 ·have hw:∀z:In,z.1=x.1->z.2.1=x.2.1->ar z.1 z.2.1=ar x.1 x.2.1:=λz e1 e2=>by rw[e1,e2]
  unfold fZ
  rw[if_neg h36]
  simp only[if_true,List.append_nil]
  refine⟨_,by unfold cF;rw[if_neg (λg=>h36 g.1)],?_⟩
  by_cases h0:0<=ar x.1 x.2.1
  ·rw[if_pos h0,if_neg h36]
   obtain⟨q0,hq0⟩:∃q:Nat,ar x.1 x.2.1=(q:Int):=⟨(ar x.1 x.2.1).toNat,by omega⟩
   have hqr:q0<regs:=by
    unfold ar at hq0
    split at hq0
    ·rename_i g;rw[if_pos g] at hto;omega
    ·omega
   have:=h'.put (y:=(x.1,x.2.1,dv l x.2.2.1,dv l x.2.2.2.1,x.2.2.2.2)) (q0:=q0) (s:= -1) (new:=[]) hq0 hqr (by omega) (by simp) (by omega)
   rw[List.append_nil] at this
   rw[hq0,Int.toNat_natCast]
   exact this
  ·rw[if_neg h0,h'.none (by show ar x.1 x.2.1<0;omega)]
   exact h'
def sO(n:Nat)(st:List (Nat->Int))(i _j:Nat):AV:= .fs 1 n (nF (st.reverse.getD i (λ_=>0)))
theorem fG(n:Nat)(st:List (Nat->Int))(i j:Nat):(sO n st i j).pu 3=true:=rfl
theorem lD(n:Nat)(st:List (Nat->Int))(t:Nat->Int)(i j:Nat)(hi:i<st.length):sO n (t::st) i j=sO n st i j:=by
 unfold sO;rw[List.reverse_cons,aF (by simpa using hi)]
theorem oH(n:Nat)(st:List (Nat->Int))(t:Nat->Int)(j:Nat):sO n (t::st) st.length j= .fs 1 n (nF t):=by
 unfold sO;rw[List.reverse_cons]
 have:=aG (l:=st.reverse) (x:=t) (d:=(λ_=>0))
 rw[List.length_reverse] at this
 rw[this]
structure An(regs k:Nat)(s:rM (Nat->Int)):Prop where
 out:s.out.length<=k
 st:s.st.length<=k
 k:∀q,q<regs->s.k q<regs
 kst:∀t ∈ s.st,∀q,q<regs->t q<regs
theorem IW{regs:Nat}{l t:Nat->Int}(h:∀q,q<regs->l q<regs)(q:Nat)(hq:q<regs):s5 l t q<regs:=by
 unfold s5;split
 ·exact h q hq
 ·omega
theorem zY{regs:Nat}{cs:List In}{pt:List Int}{k i:Nat}{op:Int}{l:Nat->Int}{st:List (Nat->Int)}{q:(Nat->Int)×List (Nat->Int)}(h1:st.length<=k)(h2:∀q,q<regs->l q<regs)(h3:∀t ∈ st,∀q,q<regs->t q<regs)
  (h:zO Vn s5 cs pt i op l st=some q):q.2.length<=k+1/\(∀r,r<regs->q.1 r<regs)/\∀t ∈ q.2,∀r,r<regs->t r<regs:=by
 unfold zO at h
 split at h
 ·cases h
  refine⟨by simp;omega,h2,λt ht=>?_⟩
  rcases List.mem_cons.1 ht with rfl|ht
  ·exact h2
  ·exact h3 t ht
 split at h
 ·split at h
  ·rename_i t r
   cases h
   refine⟨by simp at h1 ⊢;omega,h3 t (List.mem_cons_self ..),λt' ht=>?_⟩
   rcases List.mem_cons.1 ht with rfl|ht
   ·exact h2
   ·exact h3 t' (List.mem_cons_of_mem _ ht)
  ·cases h
 split at h
 ·split at h
  ·cases h;exact⟨by simp only;omega,λr hr=>oD h2 r hr,h3⟩
  ·cases h
 split at h
 ·split at h
  ·split at h
   ·cases h;exact⟨by simp only;omega,λr hr=>oD h2 r hr,h3⟩
   ·split at h
    ·rename_i t r
     cases h
     exact⟨by simp at h1 ⊢;omega,λr hr=>IW h2 r hr,λt' ht=>h3 t' (List.mem_cons_of_mem _ ht)⟩
    ·cases h
  ·cases h
 cases h
 exact⟨by simp only;omega,h2,h3⟩
theorem wg{regs:Nat}{l:Nat->Int}(h:∀q,q<regs->l q<regs){r:Int}(hr:r<regs):dv l r<regs:=by
 unfold dv;split
 ·exact h _ (by omega)
 ·exact hr
theorem x6{regs:Nat}{k:Nat}{x:In}{s:rM (Nat->Int)}{q:(Nat->Int)×List (Nat->Int)}(h:An regs k s)(ha:x.2.2.1<regs)(h1:q.2.length<=k+1)(h2:∀r,r<regs->q.1 r<regs)(h3:∀t ∈ q.2,∀r,r<regs->t r<regs):An regs (k+1) (mE cF x s q):=by
 have ho:=h.out
 unfold mE cF
 by_cases c:x.1=36/\dv s.k x.2.2.1=x.2.1
 ·rw[if_pos c]
  exact⟨by simp only;omega,h1,h2,h3⟩
 ·rw[if_neg c]
  refine⟨by simp;omega,h1,λr hr=>?_,h3⟩
  simp only
  split
  ·simp only[upd]
   split
   ·split
    ·exact wg h.k ha
    ·omega
   ·exact oD h2 r hr
  ·exact h2 r hr
theorem wE{x:AB}{o:Nat}(u1 v:AV)(h:o+1<1000000)(i:Nat):((x.putN o [u1]).putN o [v]).get i=(x.putN o [v]).get i:=by
 have hl:∀z:AV,o+[z].length<1000000:=λz=>by simpa using h
 rw[gh (hl v),gh (hl u1),gh (hl v)]
 simp only[List.length_cons,List.length_nil]
 split
 ·rfl
 ·rfl
theorem qn{ty n z q i:Nat}{row:Nat->Nat->AV}{v:AV}(hq:q<n)(hn:n*1<1000000)(hi:i<n):((am ty 1 n z row).putN q [v]).get (i*1+0)=if i=q then v else row i 0:=by
 have:=lF (ty:=ty) (esz:=1) (z:=z) (row:=row) (l:=[v]) rfl hq hn i 0 hi (by decide)
 rw[Nat.mul_one q] at this
 rw[this]
 rfl
theorem qk{na:Nat}{ra:Nat->Nat->AV}{regs:Nat}{par:Int}{cs:List In}{pt:List Int}{xc p2 p3:AV}{fin:rM (Nat->Int)}(hna:na<1000000)(hra:∀i j,i<na->j<2->(ra i j).cell=true)(hcs:cs.length<100000)(hr:regs<1000000)
  (hck:a7 Tryz.prog 26 [ae na ra regs par cs] [.v xc,.v (.n .i64 0)])
  (hpt:a7 Tryz.prog 27 [.fs 5 cs.length (cC cs)] [.v (.fs 1 pt.length (iC .i64 pt)),.v p2,.v p3]) (hptl:pt.length=cs.length)
  (hin:∀x ∈ cs,(0<=x.1/\x.1<39)/\ar x.1 x.2.1<regs/\x.2.2.1<regs/\x.2.2.2.1<regs) (hgo:tP Vn s5 cF cs pt cs 0 ⟨[],λ_=> -1,[]⟩=some fin):
  a7 Tryz.prog 14 [ae na ra regs par cs] [.a [.v (.fs 2 na ra),.v (.n .i64 regs),.v (.n .i64 par),.o 37 5 fin.out.length 0 (cC fin.out)],.v (.n .i64 0)]:=by
 have hcp:=gg (na:=na) (ra:=ra) (regs:=regs) (par:=par) (cs:=cs) hna hra (by omega)
 refine af ay Px ⟨by simp,by decide⟩ ?_
 simp only[aZ,ae] at hck hcp ⊢
 repeat first|with_reducible refine ab ?_|simp only[go_sem,simprocAttr]
 refine cV hck ?_
 repeat first|with_reducible refine ab ?_|simp only[decide_true,go_sem,simprocAttr]
 refine cV hpt ?_
 repeat first|with_reducible refine ab ?_|simp only[go_sem,simprocAttr]
 refine cV hcp ?_
 have hg1:(0:Int)<=(regs:Int):=by omega
 have hg2:(regs:Int)<=16777216:=by omega
 have hg3:1*regs<=140737488355328/\8*regs<=140737488355328/\regs<=140737488355328/\regs<1099511627776:=by omega
 repeat first|with_reducible refine ab ?_|simp only[hg1,hg2,hg3.1,hg3.2.1,hg3.2.2.1,hg3.2.2.2,Int.le_refl,decide_true,go_sem,simprocAttr]
 refine GA.loop (I:=λmm e H=>∃k:Nat,mm=regs-k/\k<=regs/\e=au [(1,.p 0 0),(2,.p 1 0),(3,.n .i64 0),(6,.fs 1 pt.length (iC .i64 pt)),(9,.p 2 0),(10,.os 3 regs),(11,.n .i64 k)]/\H=ao [am 3 1 regs 0 (nF λi=>if i<k then-1 else 0),aq 0 25 [.fs 2 na ra,.n .i64 regs,.n .i64 par,.sl0],aq 0 25 [.sl0,.n .i64 0,.n .i64 0,.sl0],aq 0 25 [.fs 2 na ra,.n .i64 regs,.n .i64 par,.fs 5 cs.length (cC cs)]]) (Wk.mk [5,4,1,0] [2] ?_ ?_ ?_) ⟨0,rfl,by omega,rfl,rfl⟩ ?_
 ·simp only[aB,aD,go_sem,simprocAttr]
  repeat' refine aa ?_ ?_
  all_goals first|exact bi|skip
 ·exact(.cons rfl (.s1) (.cons rfl (.lstw (x:=_) (by simp only[go_sem,simprocAttr]<;>rfl) (by rfl) (by rfl) (by rfl) (by rfl) (by rfl) (by rfl) (by simp) (λi hi=>(by rcases Iw hi with rfl|rfl|rfl|rfl<;>(simp only[go_sem,simprocAttr];first|exact Wv.same rfl|exact Wv.os rfl|exact Wv.cv (Cv.own (ty:=93) (z:=0) (by simp) (by simp only[go_sem,simprocAttr]) hra))))) (.cons rfl (.ls) (.cons rfl (.ls) .nil))))
 ·simp
 rintro mm e H ⟨k,rfl,hk,rfl,rfl⟩
 repeat first|with_reducible refine ab ?_|simp only[go_sem,simprocAttr]
 refine⟨λh=>?_,λh=>?_⟩
 ·have hkn:k<regs:=by omega
  have h0:(0:Int)<=(k:Int):=by omega
  have hk1:k+1<=regs:=hkn
  repeat first|with_reducible refine ab ?_|simp only[h0,h,hkn,hk1,go_sem,simprocAttr]
  refine⟨_,_,_,?_,Wk.mk [3,2,1,0] [] ?_ ?_ ?_,k+1,rfl,by omega,rfl,rfl⟩
  ·omega
  ·simp only[aB,aD,go_sem,simprocAttr]
   repeat' refine aa ?_ ?_
   all_goals first|exact bi|skip
  ·refine(.cons rfl (.put (q:=k) (by simp only[go_sem,simprocAttr]<;>rfl) (by simp) rfl hkn rfl (by decide) (by omega) (λi j h hj=>?_) (λi j _ hj=>rfl)) (.cons rfl (.ls) (.cons rfl (.ls) (.cons rfl (.ls) .nil))))
   cases Nat.lt_one_iff.1 hj
   simp only[nF]
   by_cases e:i=k
   ·subst e;rw[if_pos rfl,if_pos (by omega)];rfl
   ·rw[if_neg e]
    by_cases h9:i<k
    ·rw[if_pos h9,if_pos (by omega)]
    ·rw[if_neg h9,if_neg (by omega)]
  ·simp
 have hkn:regs=k:=by omega
 subst hkn
 repeat first|with_reducible refine ab ?_|simp only[go_sem,simprocAttr]
 refine GA.wk (Wk.nil 12 1 43 (by simp only[go_sem,simprocAttr]) (by decide) (by simp only[go_sem,simprocAttr])) ?_
 simp only[cA]
 refine GA.wk (Wk.nilb 2 3 5 37 (x:=aq 0 25 [.fs 2 na ra,.n .i64 regs,.n .i64 par,.sl0]) (by simp only[go_sem,simprocAttr]) (by simp only[go_sem,simprocAttr]) (by decide) (by decide) (by simp only[go_sem,simprocAttr]) rfl (by simp only[go_sem,simprocAttr])) ?_
 refine GA.loop (I:=λmm e H=>∃(i:Nat) (s:rM (Nat->Int)),mm=cs.length-i/\i<=cs.length/\An regs i s/\tP Vn s5 cF cs pt (cs.drop i) i s=some fin/\e=au [(1,.p 0 0),(2,.p 1 0),(3,.n .i64 0),(6,.fs 1 pt.length (iC .i64 pt)),(9,.p 2 0),(10,.fs 1 regs (nF s.k)),(12,.os 4 s.st.length),(13,.n .i64 i)]/\H=ao [am 43 1 s.st.length 0 (sO regs s.st),am 37 5 s.out.length 0 (cC s.out),aq 0 25 [.fs 2 na ra,.n .i64 regs,.n .i64 par,.os 3 s.out.length],aq 0 25 [.sl0,.n .i64 0,.n .i64 0,.sl0],aq 0 25 [.fs 2 na ra,.n .i64 regs,.n .i64 par,.fs 5 cs.length (cC cs)]]) (Wk.mk [4,5,2,1,0] [3] ?_ ?_ ?_) ⟨0,⟨[],λ_=> -1,[]⟩,rfl,by omega,⟨by simp,by simp,λq hq=>(by show(-1:Int)<_;omega),by simp⟩,hgo,rfl,rfl⟩ ?_
 ·simp only[aB,aD,go_sem,simprocAttr]
  repeat' refine aa ?_ ?_
  all_goals first|exact bi|skip
  exact .cv (.os (by simp) (by simp only[go_sem,simprocAttr]<;>rfl) (by simp only[go_sem,simprocAttr]) (λi j hi hj=>by rw[aH i j hj];simp only[nF];rw[if_pos hi]) (λ_ _ _ _=>rfl))
 ·exact(.cons rfl (.r0) (.cons rfl (.r0) (.cons rfl (.w4) (.cons rfl (.ls) (.cons rfl (.ls) .nil)))))
 ·simp
 rintro mm e H ⟨k,⟨out,l,st⟩,rfl,hk,hinv,hs,rfl,rfl⟩
 have⟨ho,hst,hl,hlst⟩:=hinv
 simp only at ho hst hl hlst
 repeat first|with_reducible refine ab ?_|simp only[go_sem,simprocAttr]
 refine⟨λh=>?_,λh=>?_⟩
 ·have hkn:k<cs.length:=by omega
  have h0:(0:Int)<=(k:Int):=by omega
  have hk1:k+1<=cs.length:=hkn
  have hkp:k<pt.length:=by omega
  have hkpi:(k:Int)<(pt.length:Int):=by omega
  have hm:cs.getD k (0,0,0,0,0) ∈ cs:=by rw[List.getD_eq_getElem?_getD,List.getElem?_eq_getElem hkn];exact List.getElem_mem _
  rw[bw (d:=(0,0,0,0,0)) hkn,tP] at hs
  obtain⟨s2,hsw,hs⟩:=Option.bind_eq_some_iff.1 hs
  have hcc0:=gG cs k
  have hcc1:=kG cs k
  have hcc2:=lQ cs k
  have hcc3:=lP cs k
  have hcc4:=lu cs k
  generalize cs.getD k (0,0,0,0,0)=x at hsw hcc0 hcc1 hcc2 hcc3 hcc4 hm
  obtain⟨hxo,hxw,hxa,hxb⟩:=hin x hm
  unfold oa at hsw
  obtain⟨qq,hsw,hfin⟩:=Option.map_eq_some_iff.1 hsw
  obtain⟨hq1,hq2,hq3⟩:=zY hst hl hlst hsw
  have key:An regs (k+1) s2:=hfin ▸ x6 hinv hxa hq1 hq2 hq3
  obtain⟨opc,to,a,b,arg⟩:=x
  simp only at hsw hcc0 hcc1 hcc2 hcc3 hcc4 hxo hxw hxa hxb
  have hsa:=kM (n:=regs) l a hxa
  have hsb:=kM (n:=regs) l b hxb
  (try simp only[h0,h,hcc0,hcc1,hcc2,hcc3,hcc4,go_sem,simprocAttr])
  iterate 6 (with_reducible refine GA.go ay rfl ?_;try simp only[h0,h,hcc0,hcc1,hcc2,hcc3,hcc4,go_sem,simprocAttr])
  (try simp only[go_sem,simprocAttr])
  iterate 1 (with_reducible refine GA.go ay rfl ?_;try simp only[go_sem,simprocAttr])
  refine fm hsa ?_
  simp only[go_sem,simprocAttr]
  refine fm hsb ?_
  (try simp only[go_sem,simprocAttr])
  iterate 6 (with_reducible refine GA.go ay rfl ?_;try simp only[go_sem,simprocAttr])
  have hls:(st.length+1)*1<1099511627776/\(st.length+1)*24<=140737488355328/\st.length+1<=9223372036854775807/\st.length*1+1<1099511627776/\st.length+1<1099511627776:=by omega
  have hlr:regs<1099511627776/\regs*8<=140737488355328/\regs<=9223372036854775807/\regs<=140737488355328:=by omega
  have hin':∀x ∈ cs,(0<=x.1/\x.1<39)/\ar x.1 x.2.1<regs:=λx hx=>⟨(hin x hx).1,(hin x hx).2.1⟩
  refine GA.wk (Wk.mk (L:=[(1,.p 0 0),(2,.p 1 0),(3,.n .i64 0),(6,.fs 1 pt.length (iC .i64 pt)),(9,.p 2 0),(10,.fs 1 regs (nF l)),(12,.os 4 st.length),(13,.n .i64 k),(14,.p 5 0),(15,.n .i64 st.length),(74,.n .i64 opc)]) (bl:=[aq 0 37 [.n .i64 opc,.n .i64 to,.n .i64 (dv l a),.n .i64 (dv l b),.n .u32 arg],am 43 1 st.length 0 (sO regs st),am 37 5 out.length 0 (cC out),aq 0 25 [.fs 2 na ra,.n .i64 regs,.n .i64 par,.os 3 out.length],aq 0 25 [.sl0,.n .i64 0,.n .i64 0,.sl0],aq 0 25 [.fs 2 na ra,.n .i64 regs,.n .i64 par,.fs 5 cs.length (cC cs)]]) [5,4,3,2,1,0] [] ?_ ?_ ?_) ?_
  ·simp only[aB,aD,go_sem,simprocAttr]
   repeat' refine aa ?_ ?_
   all_goals first|exact bi|skip
  ·exact(.cons rfl (.l5) (.cons rfl (.k2 (λi j _ hj=>fG _ _ _ _)) (.cons rfl (.k5) (.cons rfl (.w4) (.cons rfl (.ls) (.cons rfl (.ls) .nil))))))
  ·simp
  refine GA.cutQ (au [(1,.p 0 0),(2,.p 1 0),(3,.n .i64 0),(6,.fs 1 pt.length (iC .i64 pt)),(9,.p 2 0),(10,.fs 1 regs (nF qq.1)),(12,.os 4 qq.2.length),(13,.n .i64 k),(14,.p 5 0)]) (ao [aq 0 37 [.n .i64 opc,.n .i64 to,.n .i64 (dv l a),.n .i64 (dv l b),.n .u32 arg],am 43 1 qq.2.length 0 (sO regs qq.2),am 37 5 out.length 0 (cC out),aq 0 25 [.fs 2 na ra,.n .i64 regs,.n .i64 par,.os 3 out.length],aq 0 25 [.sl0,.n .i64 0,.n .i64 0,.sl0],aq 0 25 [.fs 2 na ra,.n .i64 regs,.n .i64 par,.fs 5 cs.length (cC cs)]]) ?_ ?_
  rotate_left
  ·intro e' H' hw
   refine GA.wk hw ?_
   have hol:(out.length+1)*5<1099511627776/\(out.length+1)*40<=140737488355328/\out.length+1<=9223372036854775807/\out.length*5+5<1099511627776:=by omega
   have rest:∀(hne:¬(opc=36/\dv l a=to)),GA Tryz.prog 181 (aj Tryz.prog 14) (.seq (.seq (.reg rU) (.seq (.reg rT) (.cond (.t 156) (.seq (.reg rS) (.seq (.reg rR) (.seq (.reg rQ) (.cond (.t 168) (.reg rP) .skip)))) .skip))) (.reg rO)) (au [(1,.p 0 0),(2,.p 1 0),(3,.n .i64 0),(6,.fs 1 pt.length (iC .i64 pt)),(9,.p 2 0),(10,.fs 1 regs (nF qq.1)),(12,.os 4 qq.2.length),(13,.n .i64 k),(14,.p 5 0)]) (ao [aq 0 37 [.n .i64 opc,.n .i64 to,.n .i64 (dv l a),.n .i64 (dv l b),.n .u32 arg],am 43 1 qq.2.length 0 (sO regs qq.2),am 37 5 out.length 0 (cC out),aq 0 25 [.fs 2 na ra,.n .i64 regs,.n .i64 par,.os 3 out.length],aq 0 25 [.sl0,.n .i64 0,.n .i64 0,.sl0],aq 0 25 [.fs 2 na ra,.n .i64 regs,.n .i64 par,.fs 5 cs.length (cC cs)]])
     (jC (λe' H'=>Wk 181 e' H' (au [(1,.p 0 0),(2,.p 1 0),(3,.n .i64 0),(6,.fs 1 pt.length (iC .i64 pt)),(9,.p 2 0),(10,.fs 1 regs (nF s2.k)),(12,.os 4 s2.st.length),(13,.n .i64 k)]) (ao [am 43 1 s2.st.length 0 (sO regs s2.st),am 37 5 s2.out.length 0 (cC s2.out),aq 0 25 [.fs 2 na ra,.n .i64 regs,.n .i64 par,.os 3 s2.out.length],aq 0 25 [.sl0,.n .i64 0,.n .i64 0,.sl0],aq 0 25 [.fs 2 na ra,.n .i64 regs,.n .i64 par,.fs 5 cs.length (cC cs)]])) (λ_ _ _=>False)):=by
    intro hne
    unfold mE cF at hfin
    simp only at hfin
    rw[if_neg hne] at hfin
    simp only at hfin
    subst hfin
    repeat first|with_reducible refine ab ?_|simp only[go_sem,simprocAttr]
    refine cV (i3 opc to _ _ arg hxo) ?_
    repeat first|with_reducible refine ab ?_|simp only[go_sem,simprocAttr]
    refine⟨λh6=>?_,λh6=>?_⟩
    ·obtain⟨q,hq⟩:∃q:Nat,ar opc to=(q:Int):=⟨(ar opc to).toNat,by omega⟩
     have hqr:q<regs:=by rw[hq] at hxw;omega
     have hqi:(q:Int)<(regs:Int):=by omega
     have hq0:(0:Int)<=(q:Int):=by omega
     have hq1:q+1<=regs:=hqr
     simp only[hq,hq0,if_true,Int.toNat_natCast]
     repeat first|with_reducible refine ab ?_|simp only[hq,go_sem,simprocAttr]
     refine fm (wI hr hqr) ?_
     repeat first|with_reducible refine ab ?_|simp only[go_sem,simprocAttr]
     refine ai [7] (fargs:=[.fs 1 regs (nF qq.1),.fs 1 regs (bF λi=>decide (i=q))]) (.cons (.rfl (by rfl)) (.cons (Cv.own (ty:=4) (z:=0) (by simp) (by simp only[go_sem,simprocAttr]<;>rfl) (λ_ _ _ _=>rfl)) .nil)) (dP qq.1 _ hr hq2) (by simp only[go_sem,simprocAttr]) ?_
     by_cases h36:opc=36
     ·subst h36
      simp only[if_true]
      repeat first|with_reducible refine ab ?_|simp only[hq0,hqi,hqr,hq1,hol.1,hol.2.1,hol.2.2.1,hol.2.2.2,decide_true,go_sem,simprocAttr]
      refine Wk.mk [4,10,2,1,0] [8] ?_ ?_ ?_
      ·simp only[aB,aD,go_sem,simprocAttr]
       repeat' refine aa ?_ ?_
       all_goals first|exact bi|skip
       refine .cv (.os (by simp) (by simp only[go_sem,simprocAttr]<;>rfl) (by simp only[go_sem,simprocAttr]) (λi j hi hj=>?_) (λ_ _ _ _=>rfl))
       cases Nat.lt_one_iff.1 hj
       rw[wE _ _ (by omega),qn hqr (by omega) hi]
       simp only[nF,upd]
       split<;>rfl
      ·refine(.cons rfl (.k2 (λi j _ hj=>fG _ _ _ _)) (.cons rfl (.snoc (by simp only[go_sem,simprocAttr]<;>rfl) (by simp) (by rfl) rfl (by decide) (by omega) (λi j hi _=>by unfold cC;rw[aF hi]) (λj hj=>?_) (λi j _ hj=>by rcases cJ hj with rfl|rfl|rfl|rfl|rfl<;>rfl)) (.cons rfl (.w4) (.cons rfl (.ls) (.cons rfl (.ls) .nil)))))
       unfold cC;rw[aG];rcases cJ hj with rfl|rfl|rfl|rfl|rfl<;>rfl
      ·simp
     ·simp only[if_neg h36]
      repeat first|with_reducible refine ab ?_|simp only[h36,hq0,hqi,hqr,hq1,hol.1,hol.2.1,hol.2.2.1,hol.2.2.2,decide_true,decide_false,go_sem,simprocAttr]
      refine Wk.mk [4,10,2,1,0] [8] ?_ ?_ ?_
      ·simp only[aB,aD,go_sem,simprocAttr]
       repeat' refine aa ?_ ?_
       all_goals first|exact bi|skip
       refine .cv (.os (by simp) (by simp only[go_sem,simprocAttr]<;>rfl) (by simp only[go_sem,simprocAttr]) (λi j hi hj=>?_) (λ_ _ _ _=>rfl))
       cases Nat.lt_one_iff.1 hj
       rw[qn hqr (by omega) hi]
       simp only[nF,upd]
       split<;>rfl
      ·refine(.cons rfl (.k2 (λi j _ hj=>fG _ _ _ _)) (.cons rfl (.snoc (by simp only[go_sem,simprocAttr]<;>rfl) (by simp) (by rfl) rfl (by decide) (by omega) (λi j hi _=>by unfold cC;rw[aF hi]) (λj hj=>?_) (λi j _ hj=>by rcases cJ hj with rfl|rfl|rfl|rfl|rfl<;>rfl)) (.cons rfl (.w4) (.cons rfl (.ls) (.cons rfl (.ls) .nil)))))
       unfold cC;rw[aG];rcases cJ hj with rfl|rfl|rfl|rfl|rfl<;>rfl
      ·simp
    ·simp only[if_neg (show ¬0<=ar opc to by omega)]
     repeat first|with_reducible refine ab ?_|simp only[hol.1,hol.2.1,hol.2.2.1,hol.2.2.2,decide_true,go_sem,simprocAttr]
     refine Wk.mk [4,8,2,1,0] [] ?_ ?_ ?_
     ·simp only[aB,aD,go_sem,simprocAttr]
      repeat' refine aa ?_ ?_
      all_goals first|exact bi|skip
     ·refine(.cons rfl (.k2 (λi j _ hj=>fG _ _ _ _)) (.cons rfl (.snoc (by simp only[go_sem,simprocAttr]<;>rfl) (by simp) (by rfl) rfl (by decide) (by omega) (λi j hi _=>by unfold cC;rw[aF hi]) (λj hj=>?_) (λi j _ hj=>by rcases cJ hj with rfl|rfl|rfl|rfl|rfl<;>rfl)) (.cons rfl (.w4) (.cons rfl (.ls) (.cons rfl (.ls) .nil)))))
      unfold cC;rw[aG];rcases cJ hj with rfl|rfl|rfl|rfl|rfl<;>rfl
     ·simp
   have tail:∀(hne:¬(opc=36/\dv l a=to)) (e1:Tr AV) (H1:AH) (Q:AE->Tr AV->AH->Prop),Wk 181 e1 H1 (au [(1,.p 0 0),(2,.p 1 0),(3,.n .i64 0),(6,.fs 1 pt.length (iC .i64 pt)),(9,.p 2 0),(10,.fs 1 regs (nF qq.1)),(12,.os 4 qq.2.length),(13,.n .i64 k),(14,.p 5 0)]) (ao [aq 0 37 [.n .i64 opc,.n .i64 to,.n .i64 (dv l a),.n .i64 (dv l b),.n .u32 arg],am 43 1 qq.2.length 0 (sO regs qq.2),am 37 5 out.length 0 (cC out),aq 0 25 [.fs 2 na ra,.n .i64 regs,.n .i64 par,.os 3 out.length],aq 0 25 [.sl0,.n .i64 0,.n .i64 0,.sl0],aq 0 25 [.fs 2 na ra,.n .i64 regs,.n .i64 par,.fs 5 cs.length (cC cs)]])->(∀e' H',Wk 181 e' H' (au [(1,.p 0 0),(2,.p 1 0),(3,.n .i64 0),(6,.fs 1 pt.length (iC .i64 pt)),(9,.p 2 0),(10,.fs 1 regs (nF s2.k)),(12,.os 4 s2.st.length),(13,.n .i64 k)]) (ao [am 43 1 s2.st.length 0 (sO regs s2.st),am 37 5 s2.out.length 0 (cC s2.out),aq 0 25 [.fs 2 na ra,.n .i64 regs,.n .i64 par,.os 3 s2.out.length],aq 0 25 [.sl0,.n .i64 0,.n .i64 0,.sl0],aq 0 25 [.fs 2 na ra,.n .i64 regs,.n .i64 par,.fs 5 cs.length (cC cs)]])->Q .normal e' H')->GA Tryz.prog 181 (aj Tryz.prog 14) (.seq (.seq (.reg rU) (.seq (.reg rT) (.cond (.t 156) (.seq (.reg rS) (.seq (.reg rR) (.seq (.reg rQ) (.cond (.t 168) (.reg rP) .skip)))) .skip))) (.reg rO)) e1 H1 Q:=λhne e1 H1 Q hw1 hq=>GA.wk hw1 (GA.cutQ _ _ (rest hne) hq)
   clear rest
   by_cases h36:opc=36
   ·subst h36
    by_cases hsm:dv l a=to
    ·unfold mE cF at hfin
     simp only at hfin
     rw[if_pos (by simp[hsm])] at hfin
     simp only at hfin
     subst hfin
     repeat first|with_reducible refine ab ?_|simp only[hsm,decide_true,go_sem,simprocAttr]
     refine⟨_,_,_,?_,Wk.mk [4,3,2,1,0] [] ?_ ?_ ?_,k+1,_,rfl,by omega,key,hs,rfl,rfl⟩
     ·omega
     ·simp only[aB,aD,go_sem,simprocAttr]
      repeat' refine aa ?_ ?_
      all_goals first|exact bi|skip
     ·exact(.cons rfl (.k2 (λi j _ hj=>fG _ _ _ _)) (.cons rfl (.k5) (.cons rfl (.w4) (.cons rfl (.ls) (.cons rfl (.ls) .nil)))))
     ·simp
    ·(try simp only[hsm,decide_true,decide_false,go_sem,simprocAttr])
     iterate 5 (with_reducible refine GA.go ay rfl ?_;try simp only[hsm,decide_true,decide_false,go_sem,simprocAttr])
     refine tail (λh=>hsm h.2) _ _ _ (Wk.mk [5,4,3,2,1,0] [] ?_ ?_ ?_) ?_
     ·simp only[aB,aD,go_sem,simprocAttr]
      repeat' refine aa ?_ ?_
      all_goals first|exact bi|skip
     ·exact(.cons rfl (.l5) (.cons rfl (.k2 (λi j _ hj=>fG _ _ _ _)) (.cons rfl (.k5) (.cons rfl (.w4) (.cons rfl (.ls) (.cons rfl (.ls) .nil))))))
     ·simp
     intro e' H' hw
     refine GA.wk hw ?_
     repeat first|with_reducible refine ab ?_|simp only[go_sem,simprocAttr]
     refine⟨_,_,_,?_,Wk.mk [4,3,2,1,0] [] ?_ ?_ ?_,k+1,s2,rfl,by omega,key,hs,rfl,rfl⟩
     ·omega
     ·simp only[aB,aD,go_sem,simprocAttr]
      repeat' refine aa ?_ ?_
      all_goals first|exact bi|skip
     ·exact(.cons rfl (.k2 (λi j _ hj=>fG _ _ _ _)) (.cons rfl (.k5) (.cons rfl (.w4) (.cons rfl (.ls) (.cons rfl (.ls) .nil)))))
     ·simp
   ·(try simp only[h36,decide_false,go_sem,simprocAttr])
    iterate 5 (with_reducible refine GA.go ay rfl ?_;try simp only[h36,decide_false,go_sem,simprocAttr])
    refine tail (λh=>h36 h.1) _ _ _ (Wk.mk [5,4,3,2,1,0] [] ?_ ?_ ?_) ?_
    ·simp only[aB,aD,go_sem,simprocAttr]
     repeat' refine aa ?_ ?_
     all_goals first|exact bi|skip
    ·exact(.cons rfl (.l5) (.cons rfl (.k2 (λi j _ hj=>fG _ _ _ _)) (.cons rfl (.k5) (.cons rfl (.w4) (.cons rfl (.ls) (.cons rfl (.ls) .nil))))))
    ·simp
    intro e' H' hw
    refine GA.wk hw ?_
    repeat first|with_reducible refine ab ?_|simp only[go_sem,simprocAttr]
    refine⟨_,_,_,?_,Wk.mk [4,3,2,1,0] [] ?_ ?_ ?_,k+1,s2,rfl,by omega,key,hs,rfl,rfl⟩
    ·omega
    ·simp only[aB,aD,go_sem,simprocAttr]
     repeat' refine aa ?_ ?_
     all_goals first|exact bi|skip
    ·exact(.cons rfl (.k2 (λi j _ hj=>fG _ _ _ _)) (.cons rfl (.k5) (.cons rfl (.w4) (.cons rfl (.ls) (.cons rfl (.ls) .nil)))))
    ·simp
  clear key hs hfin
  unfold zO at hsw
  repeat first|with_reducible refine ab ?_|simp only[go_sem,simprocAttr]
  refine⟨λh1=>?_,λh1=>?_⟩
  ·rw[if_pos h1] at hsw
   cases hsw
   repeat first|with_reducible refine ab ?_|simp only[hls.1,hls.2.1,hls.2.2.1,hls.2.2.2.1,hls.2.2.2.2,hlr.1,hlr.2.1,hlr.2.2.1,hlr.2.2.2,decide_true,go_sem,simprocAttr]
   refine Wk.mk [5,8,3,2,1,0] [6] ?_ ?_ ?_
   ·simp only[aB,aD,go_sem,simprocAttr]
    repeat' refine aa ?_ ?_
    all_goals first|exact bi|skip
   ·refine(.cons rfl (.l5) (.cons rfl (.snocw (by simp only[go_sem,simprocAttr]<;>rfl) (by simp) (by rfl) rfl (by decide) (by omega) (λi j hi _=>lD _ _ _ _ _ hi) (λi j _ _=>fG _ _ _ _) (λj hj=>?_)) (.cons rfl (.k5) (.cons rfl (.w4) (.cons rfl (.ls) (.cons rfl (.ls) .nil))))))
    rw[oH]
    cases Nat.lt_one_iff.1 hj
    exact Wv.cv (.os (by simp) (by simp only[go_sem,simprocAttr]<;>rfl) (by simp only[go_sem,simprocAttr]<;>omega) (λi j hi hj=>hP hi hj (by omega)) (λ_ _ _ _=>rfl))
   ·simp
  rw[if_neg h1] at hsw
  repeat first|with_reducible refine ab ?_|simp only[go_sem,simprocAttr]
  refine⟨λh2=>?_,λh2=>?_⟩
  ·rw[if_pos h2] at hsw
   cases st with
   |nil=>cases hsw
   |cons t r=>
   simp only at hsw
   cases hsw
   have hrl:r.length<=k:=by simp only[List.length_cons] at hst;omega
   have hsub:IntKind.wrap .i64 (((r.length+1:Nat):Int)-1)=(r.length:Int):=by rw[b8 (by omega)];omega
   have hz0:(0:Int)<=(r.length:Int):=by omega
   have hz1:(r.length:Int)<((r.length+1:Nat):Int):=by omega
   have hz2:r.length<r.length+1/\r.length+1<=r.length+1:=by omega
   have hg0:(am 43 1 (r.length+1) 0 (sO regs (t::r))).get r.length= .fs 1 regs (nF t):=by
    have:=aH (ty:=43) (n:=r.length+1) (z:=0) (row:=sO regs (t::r)) r.length 0 (by decide:0<1)
    rw[oH,Nat.mul_one] at this
    exact this
   repeat first|with_reducible refine ab ?_|simp only[hsub,hz0,hz1,hz2.1,hz2.2,hg0,hlr.1,hlr.2.1,hlr.2.2.1,hlr.2.2.2,decide_true,go_sem,simprocAttr]
   refine Wk.mk [5,4,3,2,1,0] [6] ?_ ?_ ?_
   ·simp only[aB,aD,go_sem,simprocAttr]
    repeat' refine aa ?_ ?_
    all_goals first|exact bi|skip
    exact .cv (.os (by simp) (by simp only[go_sem,simprocAttr]<;>rfl) (by simp only[go_sem,simprocAttr]<;>omega) (λi j hi hj=>hP hi hj (by omega)) (λ_ _ _ _=>rfl))
   ·refine(.cons rfl (.l5) (.cons rfl (.putw (n:=r.length+1) (q:=r.length) (by simp only[go_sem,simprocAttr]<;>rfl) (by simp) rfl (by omega) rfl (by decide) (by omega) (λi j hi hne hj=>?_) (λi j _ _=>fG _ _ _ _) (λj hj=>?_)) (.cons rfl (.k5) (.cons rfl (.w4) (.cons rfl (.ls) (.cons rfl (.ls) .nil))))))
    ·rw[lD _ _ _ _ _ (by omega),lD _ _ _ _ _ (by omega)]
    ·rw[oH]
     cases Nat.lt_one_iff.1 hj
     exact Wv.same rfl
   ·simp
  rw[if_neg h2] at hsw
  repeat first|with_reducible refine ab ?_|simp only[go_sem,simprocAttr]
  refine⟨λh3=>?_,λh3=>?_⟩
  ·rw[if_pos h3] at hsw
   split at hsw
   rotate_left
   ·cases hsw
   rename_i hrg
   obtain⟨q,hq⟩:∃q:Nat,pt.getD k 0=(q:Int):=⟨(pt.getD k 0).toNat,by omega⟩
   rw[hq] at hrg hsw
   rw[Int.toNat_natCast] at hsw
   cases hsw
   have hpk:iC .i64 pt k 0= .n .i64 (q:Int):=by unfold iC;rw[hq]
   repeat first|with_reducible refine ab ?_|simp only[h0,hkpi,hpk,go_sem,simprocAttr]
   refine ai [] (.cons (.rfl (by rfl)) (.cons (.rfl (by rfl)) (.cons (.rfl (by rfl)) .nil))) (dN na ra regs par cs k q (by omega) (by omega) (by omega) hr hin') (by simp only[go_sem,simprocAttr]) ?_
   repeat first|with_reducible refine ab ?_|simp only[go_sem,simprocAttr]
   refine ai [6] (fargs:=[.fs 1 regs (nF l),.fs 1 regs (bF (fg ((cs.take q).drop k)))]) (.cons (.rfl (by rfl)) (.cons (Cv.own (ty:=4) (z:=0) (by simp) (by simp only[go_sem,simprocAttr]<;>rfl) (λ_ _ _ _=>rfl)) .nil)) (dP l _ hr hl) (by simp only[go_sem,simprocAttr]) ?_
   repeat first|with_reducible refine ab ?_|simp only[go_sem,simprocAttr]
   refine Wk.mk [5,4,3,2,1,0] [7] ?_ ?_ ?_
   ·simp only[aB,aD,go_sem,simprocAttr]
    repeat' refine aa ?_ ?_
    all_goals first|exact bi|skip
    exact .cv (Cv.own (ty:=3) (z:=0) (by simp) (by simp only[go_sem,simprocAttr]<;>rfl) (λ_ _ _ _=>rfl))
   ·exact(.cons rfl (.l5) (.cons rfl (.k2 (λi j _ hj=>fG _ _ _ _)) (.cons rfl (.k5) (.cons rfl (.w4) (.cons rfl (.ls) (.cons rfl (.ls) .nil))))))
   ·simp
  rw[if_neg h3] at hsw
  repeat first|with_reducible refine ab ?_|simp only[go_sem,simprocAttr]
  refine⟨λh4=>?_,λh4=>?_⟩
  ·rw[if_pos h4] at hsw
   split at hsw
   rotate_left
   ·cases hsw
   rename_i hrg
   obtain⟨q,hq⟩:∃q:Nat,pt.getD k 0=(q:Int):=⟨(pt.getD k 0).toNat,by omega⟩
   rw[hq] at hrg hsw
   rw[Int.toNat_natCast] at hsw
   have hpk:iC .i64 pt k 0= .n .i64 (q:Int):=by unfold iC;rw[hq]
   have hq0:(0:Int)<=(q:Int):=by omega
   have hq2:(q:Int)<(cs.length:Int):=by omega
   have hcq:=gG cs q
   repeat first|with_reducible refine ab ?_|simp only[h0,hkpi,hpk,hq0,hq2,hcq,go_sem,simprocAttr]
   refine⟨λh5=>?_,λh5=>?_⟩
   ·rw[if_pos (show(cs.getD q dj).1=29 from h5)] at hsw
    cases hsw
    repeat first|with_reducible refine ab ?_|simp only[h0,hkpi,hpk,go_sem,simprocAttr]
    refine ai [] (.cons (.rfl (by rfl)) (.cons (.rfl (by rfl)) (.cons (.rfl (by rfl)) .nil))) (dN na ra regs par cs q k (by omega) (by omega) (by omega) hr hin') (by simp only[go_sem,simprocAttr]) ?_
    repeat first|with_reducible refine ab ?_|simp only[go_sem,simprocAttr]
    refine ai [6] (fargs:=[.fs 1 regs (nF l),.fs 1 regs (bF (fg ((cs.take k).drop q)))]) (.cons (.rfl (by rfl)) (.cons (Cv.own (ty:=4) (z:=0) (by simp) (by simp only[go_sem,simprocAttr]<;>rfl) (λ_ _ _ _=>rfl)) .nil)) (dP l _ hr hl) (by simp only[go_sem,simprocAttr]) ?_
    repeat first|with_reducible refine ab ?_|simp only[go_sem,simprocAttr]
    refine Wk.mk [5,4,3,2,1,0] [7] ?_ ?_ ?_
    ·simp only[aB,aD,go_sem,simprocAttr]
     repeat' refine aa ?_ ?_
     all_goals first|exact bi|skip
     exact .cv (Cv.own (ty:=3) (z:=0) (by simp) (by simp only[go_sem,simprocAttr]<;>rfl) (λ_ _ _ _=>rfl))
    ·exact(.cons rfl (.l5) (.cons rfl (.k2 (λi j _ hj=>fG _ _ _ _)) (.cons rfl (.k5) (.cons rfl (.w4) (.cons rfl (.ls) (.cons rfl (.ls) .nil))))))
    ·simp
   ·rw[if_neg (show ¬(cs.getD q dj).1=29 from h5)] at hsw
    cases st with
    |nil=>cases hsw
    |cons t r=>
    simp only at hsw
    cases hsw
    have hrl:r.length<=k:=by simp only[List.length_cons] at hst;omega
    have hsub:IntKind.wrap .i64 (((r.length+1:Nat):Int)-1)=(r.length:Int):=by rw[b8 (by omega)];omega
    have hz0:(0:Int)<=(r.length:Int):=by omega
    have hz1:(r.length:Int)<((r.length+1:Nat):Int):=by omega
    have hz2:r.length<r.length+1/\r.length+1<=r.length+1:=by omega
    have hg0:(am 43 1 (r.length+1) 0 (sO regs (t::r))).get r.length= .fs 1 regs (nF t):=by
     have:=aH (ty:=43) (n:=r.length+1) (z:=0) (row:=sO regs (t::r)) r.length 0 (by decide:0<1)
     rw[oH,Nat.mul_one] at this
     exact this
    have hz3:(r.length:Int)<=((r.length+1:Nat):Int):=by omega
    repeat first|with_reducible refine ab ?_|simp only[hsub,hz0,hz1,hz2.1,hz2.2,hg0,go_sem,simprocAttr]
    refine fm (lw l t hr) ?_
    repeat first|with_reducible refine ab ?_|simp only[hsub,hz0,hz3,Int.le_refl,go_sem,simprocAttr]
    refine Wk.mk [5,4,3,2,1,0] [6] ?_ ?_ ?_
    ·simp only[aB,aD,go_sem,simprocAttr]
     repeat' refine aa ?_ ?_
     all_goals first|exact bi|skip
     exact .cv (Cv.own (ty:=3) (z:=0) (by simp) (by simp only[go_sem,simprocAttr]<;>rfl) (λ_ _ _ _=>rfl))
    ·exact(.cons rfl (.l5) (.cons rfl (.pop (n:=r.length+1) (by simp only[go_sem,simprocAttr]<;>rfl) rfl (by decide) (by omega) (λi j hi _=>lD _ _ _ _ _ hi) (λi j _ _=>fG _ _ _ _)) (.cons rfl (.k5) (.cons rfl (.w4) (.cons rfl (.ls) (.cons rfl (.ls) .nil))))))
    ·simp
  rw[if_neg h4] at hsw
  cases hsw
  repeat first|with_reducible refine ab ?_|simp only[go_sem,simprocAttr]
  refine Wk.mk [5,4,3,2,1,0] [] ?_ ?_ ?_
  ·simp only[aB,aD,go_sem,simprocAttr]
   repeat' refine aa ?_ ?_
   all_goals first|exact bi|skip
  ·exact(.cons rfl (.l5) (.cons rfl (.k2 (λi j _ hj=>fG _ _ _ _)) (.cons rfl (.k5) (.cons rfl (.w4) (.cons rfl (.ls) (.cons rfl (.ls) .nil))))))
  ·simp
 ·have hkn:k=cs.length:=by omega
  subst hkn
  rw[List.drop_length,tP] at hs
  cases hs
  repeat first|with_reducible refine ab ?_|simp only[go_sem,simprocAttr]
  refine⟨[_,_],rfl,.a (by simp) (.v rfl rfl (.v rfl rfl (.v rfl rfl (.o (x:=_) (by simp only[go_sem,simprocAttr];rfl) (by rfl) (by rfl) (by rfl) (by rfl) (by decide) (Nat.le_refl _) (Nat.le_refl _) (λi j _ hj=>aH i j hj) (λi j _ hj=>bh i hj) .nil)))) rfl (.v rfl rfl .nil)⟩
theorem uk(op:Int):a7 Tryz.prog 49 [.n .i64 op] [.v (.b (fL op))]:=by
 refine af ay M5 ⟨by simp,by decide⟩ ?_
 simp only[aZ]
 unfold fL
 repeat first|with_reducible refine ab ?_|simp only[go_sem,simprocAttr]
 refine cV (eT op) ?_
 cases h:di op<;>cases d1:decide (op=0)<;>cases d2:decide (op=36)<;>cases d3:decide (op=38)
 all_goals
  repeat first|with_reducible refine ab ?_|simp only[h,d1,d2,d3,go_sem,simprocAttr]
  exact ah rfl rfl
theorem lX(cs:List In)(pt:List Int)(i:Nat)(hi:i<cs.length)(hip:i<pt.length)(hcs:cs.length<1000000)(hp: -1<=pt.getD i 0/\pt.getD i 0<cs.length)(hp31:(cs.getD i (0,0,0,0,0)).1=31->0<=pt.getD i 0):
  a7 Tryz.prog 78 [.fs 5 cs.length (cC cs),.fs 1 pt.length (iC .i64 pt),.n .i64 i] [.v (.fs 1 (ff cs pt i).length (iC .i64 (ff cs pt i)))]:=by
 have h0:(0:Int)<=(i:Int):=by omega
 have h1:(i:Int)<(cs.length:Int):=by omega
 have h2:(i:Int)<(pt.length:Int):=by omega
 have hc:=gG cs i
 have hpt:iC .i64 pt i 0= .n .i64 (pt.getD i 0):=rfl
 have hw1:IntKind.wrap .i64 ((i:Int)+1)=(i:Int)+1:=b8 (by omega)
 have hw2:IntKind.wrap .i64 (pt.getD i 0+1)=pt.getD i 0+1:=b8 (by omega)
 unfold ff
 generalize hop:(cs.getD i (0,0,0,0,0)).1=op at hc hp31 ⊢
 generalize hpp:pt.getD i 0=p at hpt hp hp31 hw2 ⊢
 refine af ay MR ⟨by simp,by decide⟩ ?_
 simp only[aZ]
 by_cases d27:op=27
 ·subst d27
  rw[if_neg (by decide),if_pos (.inl rfl)]
  (try simp only[h0,h1,h2,hc,hpt,decide_true,decide_false,go_sem,simprocAttr])
  iterate 14 (with_reducible refine GA.go ay rfl ?_;try simp only[h0,h1,h2,hc,hpt,decide_true,decide_false,go_sem,simprocAttr])
  refine GA.cut (au [(6,.fs 1 2 (iC .i64 [(i:Int)+1,p+1]))]) (ao []) ?_ ?_
  ·refine GA.reg ?_
   simp only[hw1,hw2,go_sem,simprocAttr]
   refine Wk.mk [] [0] ?_ ?_ ?_
   ·simp only[aB,go_sem,simprocAttr]
    refine Wv.cv (Cv.sl (x:=_) (by simp) (by simp only[go_sem,simprocAttr];rfl) (by simp) (by simp) (by simp) (λi j hi hj=>?_) (λi j _ _=>rfl))
    cases Nat.lt_one_iff.1 hj
    rcases tF hi with rfl|rfl<;>simp only[go_sem,simprocAttr]<;>rfl
   ·trivial
   ·simp
  ·repeat first|with_reducible refine ab ?_|simp only[go_sem,simprocAttr]
   exact ah rfl rfl
 by_cases d29:op=29
 ·subst d29
  rw[if_neg (by decide),if_pos (.inr (.inl rfl))]
  (try simp only[h0,h1,h2,hc,hpt,d27,decide_true,decide_false,go_sem,simprocAttr])
  iterate 17 (with_reducible refine GA.go ay rfl ?_;try simp only[h0,h1,h2,hc,hpt,d27,decide_true,decide_false,go_sem,simprocAttr])
  refine GA.cut (au [(6,.fs 1 2 (iC .i64 [(i:Int)+1,p+1]))]) (ao []) ?_ ?_
  ·refine GA.reg ?_
   simp only[hw1,hw2,go_sem,simprocAttr]
   refine Wk.mk [] [0] ?_ ?_ ?_
   ·simp only[aB,go_sem,simprocAttr]
    refine Wv.cv (Cv.sl (x:=_) (by simp) (by simp only[go_sem,simprocAttr];rfl) (by simp) (by simp) (by simp) (λi j hi hj=>?_) (λi j _ _=>rfl))
    cases Nat.lt_one_iff.1 hj
    rcases tF hi with rfl|rfl<;>simp only[go_sem,simprocAttr]<;>rfl
   ·trivial
   ·simp
  ·repeat first|with_reducible refine ab ?_|simp only[go_sem,simprocAttr]
   exact ah rfl rfl
 by_cases d30:op=30
 ·subst d30
  rw[if_neg (by decide),if_pos (.inr (.inr (.inl rfl)))]
  (try simp only[h0,h1,h2,hc,hpt,d27,d29,decide_true,decide_false,go_sem,simprocAttr])
  iterate 17 (with_reducible refine GA.go ay rfl ?_;try simp only[h0,h1,h2,hc,hpt,d27,d29,decide_true,decide_false,go_sem,simprocAttr])
  refine GA.cut (au [(6,.fs 1 2 (iC .i64 [(i:Int)+1,p+1]))]) (ao []) ?_ ?_
  ·refine GA.reg ?_
   simp only[hw1,hw2,go_sem,simprocAttr]
   refine Wk.mk [] [0] ?_ ?_ ?_
   ·simp only[aB,go_sem,simprocAttr]
    refine Wv.cv (Cv.sl (x:=_) (by simp) (by simp only[go_sem,simprocAttr];rfl) (by simp) (by simp) (by simp) (λi j hi hj=>?_) (λi j _ _=>rfl))
    cases Nat.lt_one_iff.1 hj
    rcases tF hi with rfl|rfl<;>simp only[go_sem,simprocAttr]<;>rfl
   ·trivial
   ·simp
  ·repeat first|with_reducible refine ab ?_|simp only[go_sem,simprocAttr]
   exact ah rfl rfl
 by_cases d28:op=28
 ·subst d28
  rw[if_pos rfl]
  (try simp only[h0,h1,h2,hc,hpt,d27,d29,d30,decide_true,decide_false,go_sem,simprocAttr])
  iterate 20 (with_reducible refine GA.go ay rfl ?_;try simp only[h0,h1,h2,hc,hpt,d27,d29,d30,decide_true,decide_false,go_sem,simprocAttr])
  refine GA.cut (au [(6,.fs 1 1 (iC .i64 [p+1]))]) (ao []) ?_ ?_
  ·refine GA.reg ?_
   simp only[hw1,hw2,go_sem,simprocAttr]
   refine Wk.mk [] [0] ?_ ?_ ?_
   ·simp only[aB,go_sem,simprocAttr]
    refine Wv.cv (Cv.sl (x:=_) (by simp) (by simp only[go_sem,simprocAttr];rfl) (by simp) (by simp) (by simp) (λi j hi hj=>?_) (λi j _ _=>rfl))
    cases Nat.lt_one_iff.1 hj
    rcases Nat.lt_one_iff.1 hi with rfl<;>simp only[go_sem,simprocAttr]<;>rfl
   ·trivial
   ·simp
  ·repeat first|with_reducible refine ab ?_|simp only[go_sem,simprocAttr]
   exact ah rfl rfl
 rw[if_neg d28]
 by_cases d31:op=31
 ·subst d31
  have hp0:=hp31 rfl
  obtain⟨q,rfl⟩:∃q:Nat,p=(q:Int):=⟨p.toNat,by omega⟩
  have hq1:(q:Int)<(cs.length:Int):=hp.2
  have hcq:=gG cs q
  rw[Int.toNat_natCast]
  generalize (cs.getD q (0,0,0,0,0)).1=oq at hcq ⊢
  by_cases dq:oq=29
  ·subst dq
   rw[if_pos (.inr (.inr (.inr ⟨rfl,rfl⟩)))]
   (try simp only[h0,h1,h2,hc,hpt,d27,d29,d30,d28,hp0,hq1,hcq,decide_true,decide_false,go_sem,simprocAttr])
   iterate 26 (with_reducible refine GA.go ay rfl ?_;try simp only[h0,h1,h2,hc,hpt,d27,d29,d30,d28,hp0,hq1,hcq,decide_true,decide_false,go_sem,simprocAttr])
   refine GA.cut (au [(6,.fs 1 2 (iC .i64 [(i:Int)+1,(q:Int)+1]))]) (ao []) ?_ ?_
   ·refine GA.reg ?_
    simp only[hw1,hw2,go_sem,simprocAttr]
    refine Wk.mk [] [0] ?_ ?_ ?_
    ·simp only[aB,go_sem,simprocAttr]
     refine Wv.cv (Cv.sl (x:=_) (by simp) (by simp only[go_sem,simprocAttr];rfl) (by simp) (by simp) (by simp) (λi j hi hj=>?_) (λi j _ _=>rfl))
     cases Nat.lt_one_iff.1 hj
     rcases tF hi with rfl|rfl<;>simp only[go_sem,simprocAttr]<;>rfl
    ·trivial
    ·simp
   ·repeat first|with_reducible refine ab ?_|simp only[go_sem,simprocAttr]
    exact ah rfl rfl
  ·rw[if_neg (by simp[dq])]
   (try simp only[h0,h1,h2,hc,hpt,d27,d29,d30,d28,hp0,hq1,hcq,dq,decide_true,decide_false,go_sem,simprocAttr])
   iterate 27 (with_reducible refine GA.go ay rfl ?_;try simp only[h0,h1,h2,hc,hpt,d27,d29,d30,d28,hp0,hq1,hcq,dq,decide_true,decide_false,go_sem,simprocAttr])
   refine GA.cut (au [(6,.fs 1 1 (iC .i64 [(i:Int)+1]))]) (ao []) ?_ ?_
   ·refine GA.reg ?_
    simp only[hw1,hw2,go_sem,simprocAttr]
    refine Wk.mk [] [0] ?_ ?_ ?_
    ·simp only[aB,go_sem,simprocAttr]
     refine Wv.cv (Cv.sl (x:=_) (by simp) (by simp only[go_sem,simprocAttr];rfl) (by simp) (by simp) (by simp) (λi j hi hj=>?_) (λi j _ _=>rfl))
     cases Nat.lt_one_iff.1 hj
     rcases Nat.lt_one_iff.1 hi with rfl<;>simp only[go_sem,simprocAttr]<;>rfl
    ·trivial
    ·simp
   ·repeat first|with_reducible refine ab ?_|simp only[go_sem,simprocAttr]
    exact ah rfl rfl
 ·rw[if_neg (by simp[d27,d29,d30,d31])]
  (try simp only[h0,h1,h2,hc,hpt,d27,d29,d30,d28,d31,decide_true,decide_false,go_sem,simprocAttr])
  iterate 24 (with_reducible refine GA.go ay rfl ?_;try simp only[h0,h1,h2,hc,hpt,d27,d29,d30,d28,d31,decide_true,decide_false,go_sem,simprocAttr])
  refine GA.cut (au [(6,.fs 1 1 (iC .i64 [(i:Int)+1]))]) (ao []) ?_ ?_
  ·refine GA.reg ?_
   simp only[hw1,hw2,go_sem,simprocAttr]
   refine Wk.mk [] [0] ?_ ?_ ?_
   ·simp only[aB,go_sem,simprocAttr]
    refine Wv.cv (Cv.sl (x:=_) (by simp) (by simp only[go_sem,simprocAttr];rfl) (by simp) (by simp) (by simp) (λi j hi hj=>?_) (λi j _ _=>rfl))
    cases Nat.lt_one_iff.1 hj
    rcases Nat.lt_one_iff.1 hi with rfl<;>simp only[go_sem,simprocAttr]<;>rfl
   ·trivial
   ·simp
  ·repeat first|with_reducible refine ab ?_|simp only[go_sem,simprocAttr]
   exact ah rfl rfl
theorem mU{x:AB}{n1 n2:Nat}{r1 r2:Nat->Nat->AV}(hn:n1+n2<1000000){i j:Nat}(hi:i<n1+n2)(hj:j<5):
  ((x.app 0 (.fn (n1*5) λi=>r1 (i / 5) (i%5))).app (n1*5) (.fn (n2*5) λi=>r2 (i / 5) (i%5))).get (i*5+j)=if i<n1 then r1 i j else r2 (i-n1) j:=by
 rw[AB.app_get _ _ _ _ (by simp only[dm.len];omega) (by simp only[dm.len];omega)]
 by_cases h:i<n1
 ·rw[if_neg (by omega),if_pos h,AB.app_get _ _ _ _ (by simp only[dm.len];omega) (by simp only[dm.len];omega),if_pos (by omega),Nat.sub_zero]
  show r1 ((i*5+j) / 5) ((i*5+j)%5)=_
  rw[show(i*5+j) / 5=i by omega,show(i*5+j)%5=j by omega]
 ·rw[if_pos (by omega),if_neg h]
  show r2 ((i*5+j-n1*5) / 5) ((i*5+j-n1*5)%5)=_
  rw[show(i*5+j-n1*5) / 5=i-n1 by omega,show(i*5+j-n1*5)%5=j by omega]
theorem kd(l:List In)(k d:Nat)(hk:k+d<=l.length)(i j:Nat):(if i<k then cC l i j else cC l (k+d+(i-k)) j)=cC (fq l k d) i j:=by
 unfold cC fq
 simp only[List.getD_eq_getElem?_getD]
 have hl:(l.take k).length=k:=by rw[List.length_take];omega
 by_cases h:i<k
 ·rw[if_pos h,List.getElem?_append_left (by omega),List.getElem?_take_of_lt h]
 ·rw[if_neg h,List.getElem?_append_right (by omega),hl,List.getElem?_drop]
def I8(l:List In):List RT:=match jc l with
 |some i=>[.o 37 5 (fq l i (ke l i)).length 0 (cC (fq l i (ke l i))),.v (.b true)]
 |none=>[.v (.fs 5 l.length (cC l)),.v (.b false)]
theorem sb(cs:List In)(hcs:cs.length<100000):a7 Tryz.prog 50 [.fs 5 cs.length (cC cs)] (I8 cs):=by
 refine af ay M1 ⟨by simp,by decide⟩ ?_
 simp only[aZ]
 repeat first|with_reducible refine ab ?_|simp only[go_sem,simprocAttr]
 refine GA.loop (I:=λmm e H=>∃k f:Nat,mm=cs.length-k/\k<=cs.length/\k+f=cs.length/\jc cs=fM cs f k/\e=au [(0,.fs 5 cs.length (cC cs)),(4,.n .i64 k)]/\H=ao []) (Wk.mk [] [] ?_ ?_ ?_) ⟨0,cs.length,rfl,by omega,by omega,rfl,rfl,rfl⟩ ?_
 ·simp only[aB,aD,go_sem,simprocAttr]
  repeat' refine aa ?_ ?_
  all_goals first|exact bi|skip
 ·trivial
 ·simp
 rintro mm e H ⟨k,f,rfl,hk,hkf,hs,rfl,rfl⟩
 have hw:IntKind.wrap .i64 ((k:Int)+1)=((k+1:Nat):Int):=by rw[b8 (by omega)];omega
 have hw2:IntKind.wrap .i64 ((k:Int)+2)=((k+2:Nat):Int):=by rw[b8 (by omega)];omega
 repeat first|with_reducible refine ab ?_|simp only[hw,go_sem,simprocAttr]
 refine⟨λh=>?_,λh=>?_⟩
 ·have hkn:k+1<cs.length:=by omega
  have h0:(0:Int)<=(k:Int):=by omega
  have h0':(0:Int)<=((k+1:Nat):Int):=by omega
  have h0'':(0:Int)<=((k+2:Nat):Int):=by omega
  have h1:(k:Int)<(cs.length:Int):=by omega
  have h1':(k:Int)<=(cs.length:Int):=by omega
  have h2':((k+1:Nat):Int)<=(cs.length:Int):=by omega
  have h3':((k+2:Nat):Int)<=(cs.length:Int):=by omega
  have hc:=gG cs k
  have hc':=gG cs (k+1)
  have hB:sK cs k=(decide ((cs.getD (k+1) (0,0,0,0,0)).1=31)&&(decide ((cs.getD k (0,0,0,0,0)).1=27)||decide ((cs.getD k (0,0,0,0,0)).1=29)||decide ((cs.getD k (0,0,0,0,0)).1=28))):=rfl
  have hD:ke cs k=if(cs.getD k (0,0,0,0,0)).1=28 then 1 else 2:=rfl
  obtain⟨f,rfl⟩:∃g,f=g+1:=⟨f-1,by omega⟩
  rw[fM,if_pos hkn] at hs
  have hlA:k*5<1099511627776/\k*40<=140737488355328/\k<=9223372036854775807:=by omega
  have lim:∀n,n<=cs.length->(k+n)*5<1099511627776/\(k+n)*40<=140737488355328/\k+n<=9223372036854775807/\n*5<1099511627776:=λn hn=>by omega
  generalize (cs.getD k (0,0,0,0,0)).1=op at hc hB hD
  generalize (cs.getD (k+1) (0,0,0,0,0)).1=op' at hc' hB
  have next:sK cs k=false->∀(e':Tr AV) (H':AH),Wk 51 e' H' (au [(0,.fs 5 cs.length (cC cs)),(4,.n .i64 ((k+1:Nat):Int))]) (ao [])->∃m e2 H2,m<cs.length-k/\Wk 51 e' H' e2 H2/\∃k f:Nat,m=cs.length-k/\k<=cs.length/\k+f=cs.length/\jc cs=fM cs f k/\e2=au [(0,.fs 5 cs.length (cC cs)),(4,.n .i64 k)]/\H2=ao []:=λhf e' H' hw'=>by
   rw[hf,if_neg (by simp)] at hs
   exact⟨_,_,_,by omega,hw',k+1,f,rfl,by omega,by omega,hs,rfl,rfl⟩
  cases d1:decide (op'=31)
  ·rw[d1] at hB
   simp only[Bool.false_and] at hB
   repeat first|with_reducible refine ab ?_|simp only[h0,h0',h,h1,hc,hc',hw,d1,go_sem,simprocAttr]
   refine next hB _ _ (Wk.mk [] [] ?_ ?_ ?_)
   ·simp only[aB,aD,go_sem,simprocAttr]
    repeat' refine aa ?_ ?_
    all_goals first|exact bi|skip
   ·trivial
   ·simp
  cases d2:decide (op=27)
  ·cases d3:decide (op=29)
   ·cases d4:decide (op=28)
    ·rw[d1,d2,d3,d4] at hB
     simp only[Bool.true_and,Bool.false_or] at hB
     repeat first|with_reducible refine ab ?_|simp only[h0,h0',h,h1,hc,hc',hw,d1,d2,d3,d4,go_sem,simprocAttr]
     refine next hB _ _ (Wk.mk [] [] ?_ ?_ ?_)
     ·simp only[aB,aD,go_sem,simprocAttr]
      repeat' refine aa ?_ ?_
      all_goals first|exact bi|skip
     ·trivial
     ·simp
    ·rw[d1,d2,d3,d4] at hB
     simp only[Bool.true_and,Bool.false_or,Bool.or_true,Bool.true_or,Bool.or_false] at hB
     rw[hB,if_pos rfl] at hs
     have hDD:ke cs k=1:=by rw[hD];rw[if_pos (of_decide_eq_true d4)]
     unfold I8
     rw[hs]
     have hln:(fq cs k 1).length=k+(cs.length-(k+1)):=by rw[de (by omega)];omega
     simp only[hDD,hln]
     have hll:=lim (cs.length-(k+1)) (by omega)
     repeat first|with_reducible refine ab ?_|simp only[h0,h0',h0'',h,h1,h1',h2',h3',hc,hc',hw,hw2,d1,d2,d3,d4,hlA.1,hlA.2.1,hlA.2.2,hll.1,hll.2.1,hll.2.2.1,hll.2.2.2,Int.le_refl,Nat.sub_zero,decide_true,decide_false,go_sem,simprocAttr]
     refine⟨[_,_],rfl,.o (x:=_) (by simp only[go_sem,simprocAttr];rfl) (by rfl) (by rfl) (by rfl) (by decide) (by simp only[go_sem,simprocAttr]<;>omega) (by simp only[go_sem,simprocAttr]<;>omega) (λi j hi hj=>?_) (λi j _ hj=>bh i hj) rfl (.v rfl rfl .nil)⟩
     refine(mU (r1:=cC cs) (r2:=λa b=>cC cs (k+1+a) b) (by omega) hi hj).trans ?_
     exact kd cs k 1 (by omega) i j
   ·rw[d1,d2,d3] at hB
    simp only[Bool.true_and,Bool.false_or,Bool.or_true,Bool.true_or,Bool.or_false] at hB
    rw[hB,if_pos rfl] at hs
    have hDD:ke cs k=2:=by rw[hD];rw[if_neg (by have:=of_decide_eq_true d3;omega)]
    unfold I8
    rw[hs]
    have hln:(fq cs k 2).length=k+(cs.length-(k+2)):=by rw[de (by omega)];omega
    simp only[hDD,hln]
    have hll:=lim (cs.length-(k+2)) (by omega)
    repeat first|with_reducible refine ab ?_|simp only[h0,h0',h0'',h,h1,h1',h2',h3',hc,hc',hw,hw2,d1,d2,d3,hlA.1,hlA.2.1,hlA.2.2,hll.1,hll.2.1,hll.2.2.1,hll.2.2.2,Int.le_refl,Nat.sub_zero,decide_true,decide_false,go_sem,simprocAttr]
    refine⟨[_,_],rfl,.o (x:=_) (by simp only[go_sem,simprocAttr];rfl) (by rfl) (by rfl) (by rfl) (by decide) (by simp only[go_sem,simprocAttr]<;>omega) (by simp only[go_sem,simprocAttr]<;>omega) (λi j hi hj=>?_) (λi j _ hj=>bh i hj) rfl (.v rfl rfl .nil)⟩
    refine(mU (r1:=cC cs) (r2:=λa b=>cC cs (k+2+a) b) (by omega) hi hj).trans ?_
    exact kd cs k 2 (by omega) i j
  ·rw[d1,d2] at hB
   simp only[Bool.true_and,Bool.false_or,Bool.or_true,Bool.true_or,Bool.or_false] at hB
   rw[hB,if_pos rfl] at hs
   have hDD:ke cs k=2:=by rw[hD];rw[if_neg (by have:=of_decide_eq_true d2;omega)]
   unfold I8
   rw[hs]
   have hln:(fq cs k 2).length=k+(cs.length-(k+2)):=by rw[de (by omega)];omega
   simp only[hDD,hln]
   have hll:=lim (cs.length-(k+2)) (by omega)
   repeat first|with_reducible refine ab ?_|simp only[h0,h0',h0'',h,h1,h1',h2',h3',hc,hc',hw,hw2,d1,d2,hlA.1,hlA.2.1,hlA.2.2,hll.1,hll.2.1,hll.2.2.1,hll.2.2.2,Int.le_refl,Nat.sub_zero,decide_true,decide_false,go_sem,simprocAttr]
   refine⟨[_,_],rfl,.o (x:=_) (by simp only[go_sem,simprocAttr];rfl) (by rfl) (by rfl) (by rfl) (by decide) (by simp only[go_sem,simprocAttr]<;>omega) (by simp only[go_sem,simprocAttr]<;>omega) (λi j hi hj=>?_) (λi j _ hj=>bh i hj) rfl (.v rfl rfl .nil)⟩
   refine(mU (r1:=cC cs) (r2:=λa b=>cC cs (k+2+a) b) (by omega) hi hj).trans ?_
   exact kd cs k 2 (by omega) i j
 ·have hn:fM cs f k=none:=by
   cases f with
   |zero=>rfl
   |succ f=>rw[fM,if_neg (by omega)]
  rw[hn] at hs
  repeat first|with_reducible refine ab ?_|simp only[go_sem,simprocAttr]
  unfold I8
  rw[hs]
  exact bB (.v rfl rfl (.v rfl rfl .nil))
def rnow(cs:List In)(pt:List Int)(L:Lv)(i:Nat):Nat->Bool:=
 gl (gm L (ar (cs.getD i (0,0,0,0,0)).1 (cs.getD i (0,0,0,0,0)).2.1) (λ_=>false) (ff cs pt i)) (cD (cs.getD i (0,0,0,0,0)).1 (cs.getD i (0,0,0,0,0)).2.2.1 (cs.getD i (0,0,0,0,0)).2.2.2.1)
def iz(cs:List In)(pt:List Int)(regs i:Nat)(s:Lv×Bool):Lv×Bool:=
 if mL regs (rnow cs pt s.1 i) (s.1 i)=true then s else(upd s.1 i (rnow cs pt s.1 i),true)
def fH(cs:List In)(pt:List Int)(regs:Nat):Nat->Lv×Bool->Lv×Bool
 |0,s=>s
 |i+1,s=>fH cs pt regs i (iz cs pt regs i s)
def gU(cs:List In)(pt:List Int)(regs:Nat):Nat->Lv->Option Lv
 |0,_=>none
 |f+1,L=>if(fH cs pt regs cs.length (L,false)).2=true then gU cs pt regs f (fH cs pt regs cs.length (L,false)).1 else some (fH cs pt regs cs.length (L,false)).1
def tf(cs:List In)(pt:List Int)(L:Lv):Prop:=∀i r,L i r=true->i<cs.length->rnow cs pt L i r=true
theorem wJ(cs:List In)(pt:List Int)(L:Lv)(i r:Nat):lg cs pt L i r=(L i r||rnow cs pt L i r):=by
 unfold lg rnow gl gm
 simp only[Bool.false_or]
 rw[Bool.or_assoc]
theorem tf.eq{cs:List In}{pt:List Int}{L:Lv}(h:tf cs pt L){i:Nat}(hi:i<cs.length):lg cs pt L i=rnow cs pt L i:=by
 funext r
 rw[wJ]
 cases hL:L i r
 ·rfl
 ·rw[h i r hL hi];rfl
theorem ui{cs:List In}{pt:List Int}{L L2:Lv}(h:∀i r,L i r=true->L2 i r=true){i r:Nat}(hr:rnow cs pt L i r=true):rnow cs pt L2 i r=true:=by
 unfold rnow gl gm at hr ⊢
 simp only[Bool.false_or,Bool.or_eq_true,List.any_eq_true,Bool.and_eq_true] at hr ⊢
 rcases hr with⟨nx,h1,h2,h3⟩|hr
 ·exact .inl ⟨nx,h1,h _ _ h2,h3⟩
 ·exact .inr hr
theorem rY{cs:List In}{pt:List Int}{regs i:Nat}{s:Lv×Bool}(h:tf cs pt s.1)(hi:i<cs.length):fh cs pt regs i s=iz cs pt regs i s/\tf cs pt (iz cs pt regs i s).1:=by
 unfold fh iz
 rw[h.eq hi]
 refine⟨rfl,?_⟩
 split
 ·exact h
 ·have hle:∀j r,s.1 j r=true->upd s.1 i (rnow cs pt s.1 i) j r=true:=λj r hj=>by
   unfold upd
   split
   ·rename_i e;subst e;exact h _ _ hj hi
   ·exact hj
  intro j r hj hjl
  refine ui hle ?_
  simp only[upd] at hj
  split at hj
  ·rename_i e;subst e;exact hj
  ·exact h j r hj hjl
theorem pY{cs:List In}{pt:List Int}{regs:Nat}:∀(k:Nat) (s:Lv×Bool),k<=cs.length->tf cs pt s.1->fX cs pt regs k s=fH cs pt regs k s/\tf cs pt (fH cs pt regs k s).1
 |0,s,_,h=>⟨rfl,h⟩
 |k+1,s,hk,h=>by
  obtain⟨e,h2⟩:=rY (regs:=regs) h (show k<cs.length by omega)
  rw[fX,fH,e]
  exact pY k _ (by omega) h2
theorem nR{cs:List In}{pt:List Int}{regs:Nat}:∀(f:Nat) (L:Lv),tf cs pt L->rounds cs pt regs f L=gU cs pt regs f L
 |0,L,_=>rfl
 |f+1,L,h=>by
  obtain⟨e,h2⟩:=pY (regs:=regs) cs.length (L,false) (Nat.le_refl _) h
  rw[rounds,gU,e]
  split
  ·exact nR f _ h2
  ·rfl
theorem Ix(fuel regs:Nat)(cs:List In):gU cs (oS cs) regs fuel (λ_ _=>false)=jY fuel regs cs:=
 (nR fuel _ λi r h=>by cases h).symm
theorem xF(k:Nat)(f g:Nat->Bool):mL (k+1) f g=(mL k f g&&(f k==g k)):=by
 unfold mL
 rw[List.range_succ,List.all_append]
 simp
theorem wx{regs:Nat}{x:In}(hx:lA regs x):∀q ∈ cD x.1 x.2.2.1 x.2.2.2.1,0<=q/\q<regs:=by
 intro q hq
 unfold cD at hq
 rcases List.mem_append.1 hq with hq|hq
 ·split at hq
  ·rename_i hu
   rw[List.mem_singleton.1 hq];exact hx.a hu
  ·cases hq
 ·split at hq
  ·rename_i hu
   rw[List.mem_singleton.1 hq];exact hx.b hu
  ·cases hq
theorem uj{na:Nat}{ra:Nat->Nat->AV}{regs:Nat}{par:Int}{cs:List In}{pt:List Int}{fuel:Nat}{p2 p3:AV}{Lf:Lv}(hcs:cs.length<100000)(hr:regs<1000000)
  (hpt:a7 Tryz.prog 27 [.fs 5 cs.length (cC cs)] [.v (.fs 1 pt.length (iC .i64 pt)),.v p2,.v p3]) (hptl:pt.length=cs.length)
  (hin:∀x ∈ cs,lA regs x) (hp:∀i,i<cs.length->(-1<=pt.getD i 0/\pt.getD i 0<cs.length)/\((cs.getD i (0,0,0,0,0)).1=31->0<=pt.getD i 0)) (hfo:∀i,i<cs.length->∀nx ∈ ff cs pt i,0<=nx/\nx<=cs.length)
  (hL:gU cs pt regs fuel (λ_ _=>false)=some Lf):
  a7 Tryz.prog 48 [ae na ra regs par cs] [.o 47 1 (cs.length+1) 0 (lC regs Lf)]:=by
 have hw1:IntKind.wrap .i64 ((cs.length:Int)+1)=((cs.length+1:Nat):Int):=by rw[b8 (by omega)];omega
 have hg1:(0:Int)<=((cs.length+1:Nat):Int):=by omega
 have hg2:((cs.length+1:Nat):Int)<=16777216:=by omega
 have hg3:24*(cs.length+1)<=140737488355328/\(cs.length+1)<1099511627776:=by omega
 have hb1:(0:Int)<=(regs:Int):=by omega
 have hb2:(regs:Int)<=16777216:=by omega
 have hb3:1*regs<=140737488355328/\regs<=140737488355328/\regs<1099511627776:=by omega
 refine af ay Nf ⟨by simp,by decide⟩ ?_
 simp only[aZ,ae]
 repeat first|with_reducible refine ab ?_|simp only[go_sem,simprocAttr]
 refine cV hpt ?_
 repeat first|with_reducible refine ab ?_|simp only[hw1,hg1,hg2,hg3.1,hg3.2,Int.le_refl,decide_true,go_sem,simprocAttr]
 refine GA.loop (I:=λmm e H=>∃k:Nat,mm=cs.length+1-k/\k<=cs.length+1/\e=au [(1,.p 0 0),(3,.fs 1 pt.length (iC .i64 pt)),(6,.n .i64 cs.length),(7,.os 1 (cs.length+1)),(8,.n .i64 k)]/\
   H=ao [am 47 1 (cs.length+1) 0 (λi _=>if i<k then .fs 1 regs (bF λ_=>false) else .sl0),aq 0 25 [.fs 2 na ra,.n .i64 regs,.n .i64 par,.fs 5 cs.length (cC cs)]]) (Wk.mk [1,0] [] ?_ ?_ ?_) ⟨0,rfl,by omega,rfl,rfl⟩ ?_
 ·simp only[aB,aD,go_sem,simprocAttr]
  repeat' refine aa ?_ ?_
  all_goals first|exact dn|skip
 ·refine .cons rfl (.same (by simp only[go_sem,simprocAttr]<;>rfl) rfl (by decide) (λi j h hj=>by cases Nat.lt_one_iff.1 hj;rw[if_neg (by omega)];rfl) (λi j _ hj=>by split<;>rfl)) (.cons rfl (.ls) .nil)
 ·simp
 rintro mm e H ⟨k,rfl,hk,rfl,rfl⟩
 repeat first|with_reducible refine ab ?_|simp only[go_sem,simprocAttr]
 refine⟨λh=>?_,λh=>?_⟩
 ·have hkn:k<cs.length+1:=by omega
  have h0:(0:Int)<=(k:Int):=by omega
  have hk1:k+1<=cs.length+1:=hkn
  have hk2:(k:Int)<((cs.length+1:Nat):Int):=by omega
  repeat first|with_reducible refine ab ?_|simp only[h0,h,hkn,hk1,hk2,hb1,hb2,hb3.1,hb3.2.1,hb3.2.2,Int.le_refl,decide_true,go_sem,simprocAttr]
  refine⟨_,_,_,?_,Wk.mk [1,0] [2] ?_ ?_ ?_,k+1,rfl,by omega,rfl,rfl⟩
  ·omega
  ·simp only[aB,aD,go_sem,simprocAttr]
   repeat' refine aa ?_ ?_
   all_goals first|exact dn|skip
  ·refine .cons rfl (.putw (q:=k) (by simp only[go_sem,simprocAttr]<;>rfl) (by simp) (by rfl) hkn rfl (by decide) (by omega) (λi j hi hne hj=>?_) (λi j _ _=>by split<;>rfl) (λj hj=>?_)) (.cons rfl (.ls) .nil)
   ·by_cases h9:i<k
    ·rw[if_pos h9,if_pos (by omega)]
    ·rw[if_neg h9,if_neg (by omega)]
   ·cases Nat.lt_one_iff.1 hj
    rw[if_pos (by omega)]
    refine Wv.cv (Cv.os (x:=_) (by simp) (by simp only[go_sem,simprocAttr]<;>rfl) (by simp only[go_sem,simprocAttr]<;>exact Nat.le_refl _) (λi j hi hj=>?_) (λ_ _ _ _=>rfl))
    cases Nat.lt_one_iff.1 hj
    rw[Nat.mul_one,Nat.add_zero,bH]
    rfl
  ·simp
 have hkn:k=cs.length+1:=by omega
 subst hkn
 repeat first|with_reducible refine ab ?_|simp only[go_sem,simprocAttr]
 refine GA.loop (I:=λmm e H=>∃(f:Nat) (L:Lv) (ch:Bool),mm=f/\(ch=true->gU cs pt regs f L=some Lf)/\(ch=false->L=Lf)/\e=au [(1,.p 0 0),(3,.fs 1 pt.length (iC .i64 pt)),(6,.n .i64 cs.length),(7,.os 1 (cs.length+1)),(9,.b ch)]/\
   H=ao [am 47 1 (cs.length+1) 0 (lC regs L),aq 0 25 [.fs 2 na ra,.n .i64 regs,.n .i64 par,.fs 5 cs.length (cC cs)]]) (Wk.mk [1,0] [] ?_ ?_ ?_) ⟨fuel,λ_ _=>false,true,rfl,λ_=>hL,λh=>(by cases h),rfl,rfl⟩ ?_
 ·simp only[aB,aD,go_sem,simprocAttr]
  repeat' refine aa ?_ ?_
  all_goals first|exact dn|skip
 ·refine .cons rfl (.same (by simp only[go_sem,simprocAttr]<;>rfl) rfl (by decide) (λi j h hj=>by rw[if_pos h];rfl) (λi j _ hj=>rfl)) (.cons rfl (.ls) .nil)
 ·simp
 rintro mm e H ⟨f,L,ch,rfl,hch1,hch2,rfl,rfl⟩
 cases ch
 ·repeat first|with_reducible refine ab ?_|simp only[go_sem,simprocAttr]
  have:=hch2 rfl
  subst this
  refine⟨[_],rfl,.o (x:=_) (by simp only[go_sem,simprocAttr];rfl) (by rfl) (by rfl) (by rfl) (by decide) (Nat.le_refl _) (Nat.le_refl _) (λi j _ hj=>aH i j hj) (λi j _ hj=>rfl) rfl .nil⟩
 have hro:=hch1 rfl
 cases mm with
 |zero=>cases hro
 |succ f=>
 rw[gU] at hro
 generalize hsw:fH cs pt regs cs.length (L,false)=S at hro
 have hw2:IntKind.wrap .i64 ((cs.length:Int)-1)=(cs.length:Int)-1:=b8 (by omega)
 repeat first|with_reducible refine ab ?_|simp only[hw2,go_sem,simprocAttr]
 refine GA.loop (I:=λmm e H=>∃(j:Nat) (L:Lv) (ch:Bool),mm=j/\j<=cs.length/\fH cs pt regs j (L,ch)=S/\e=au [(1,.p 0 0),(3,.fs 1 pt.length (iC .i64 pt)),(6,.n .i64 cs.length),(7,.os 1 (cs.length+1)),(9,.b ch),(10,.n .i64 ((j:Int)-1))]/\H=ao [am 47 1 (cs.length+1) 0 (lC regs L),aq 0 25 [.fs 2 na ra,.n .i64 regs,.n .i64 par,.fs 5 cs.length (cC cs)]]) (Wk.mk [1,0] [] ?_ ?_ ?_) ⟨cs.length,L,false,rfl,Nat.le_refl _,hsw,rfl,rfl⟩ ?_
 ·simp only[aB,aD,go_sem,simprocAttr]
  repeat' refine aa ?_ ?_
  all_goals first|exact dn|skip
 ·exact(.cons rfl (.k1) (.cons rfl (.ls) .nil))
 ·simp
 rintro mm e H ⟨j,L,ch,rfl,hj,hS,rfl,rfl⟩
 repeat first|with_reducible refine ab ?_|simp only[go_sem,simprocAttr]
 refine⟨λh=>?_,λh=>?_⟩
 rotate_left
 ·have hj0:mm=0:=by omega
  subst hj0
  rw[fH] at hS
  subst hS
  repeat first|with_reducible refine ab ?_|simp only[go_sem,simprocAttr]
  refine⟨_,_,_,?_,Wk.mk [1,0] [] ?_ ?_ ?_,f,L,ch,rfl,λhc=>?_,λhc=>?_,rfl,rfl⟩
  ·omega
  ·simp only[aB,aD,go_sem,simprocAttr]
   repeat' refine aa ?_ ?_
   all_goals first|exact dn|skip
  ·exact(.cons rfl (.k1) (.cons rfl (.ls) .nil))
  ·simp
  ·rw[hc] at hro;simpa using hro
  ·rw[hc] at hro;simpa using hro
 obtain⟨i,rfl⟩:∃i,mm=i+1:=⟨mm-1,by omega⟩
 have hii:((i+1:Nat):Int)-1=(i:Int):=by omega
 rw[fH] at hS
 refine GA.wk (Wk.mk (L:=[(1,.p 0 0),(3,.fs 1 pt.length (iC .i64 pt)),(6,.n .i64 cs.length),(7,.os 1 (cs.length+1)),(9,.b ch),(10,.n .i64 i)]) (bl:=[am 47 1 (cs.length+1) 0 (lC regs L),aq 0 25 [.fs 2 na ra,.n .i64 regs,.n .i64 par,.fs 5 cs.length (cC cs)]]) [1,0] [] ?_ ?_ ?_) ?_
 ·simp only[aB,aD,go_sem,simprocAttr]
  repeat' refine aa ?_ ?_
  all_goals first|exact dn|skip
 ·exact(.cons rfl (.k1) (.cons rfl (.ls) .nil))
 ·simp
 have hin0:i<cs.length:=by omega
 have hi0:(0:Int)<=(i:Int):=by omega
 have hi1:(i:Int)<(cs.length:Int):=by omega
 have hi2:(i:Int)<((cs.length+1:Nat):Int):=by omega
 have hi3:i<cs.length+1:=by omega
 have hm:cs.getD i (0,0,0,0,0) ∈ cs:=by rw[List.getD_eq_getElem?_getD,List.getElem?_eq_getElem hin0];exact List.getElem_mem _
 have hx:=hin _ hm
 have hgl:∀(L:Lv) (q:Nat),(am 47 1 (cs.length+1) 0 (lC regs L)).get q= .fs 1 regs (bF (L q)):=λL q=>by rw[bH];rfl
 have hfw:=lX cs pt i hin0 (by omega) (by omega) (hp i hin0).1 (hp i hin0).2
 have hF:=hfo i hin0
 have hsA:iz cs pt regs i (L,ch)=if mL regs (rnow cs pt L i) (L i)=true then(L,ch) else(upd L i (rnow cs pt L i),true):=rfl
 rw[hsA] at hS
 clear hsA
 unfold rnow at hS
 have hcc0:=gG cs i
 have hcc1:=kG cs i
 have hcc2:=lQ cs i
 have hcc3:=lP cs i
 have hcc4:=lu cs i
 generalize cs.getD i (0,0,0,0,0)=x at hS hx hcc0 hcc1 hcc2 hcc3 hcc4
 have hrq:=wx hx
 obtain⟨op,uto,a,b,arg⟩:=x
 generalize hFe:ff cs pt i=F at hS hfw hF
 have hFl:F.length<=2:=by
  rw[<-hFe];unfold ff
  split
  ·simp
  split<;>simp
 have hus:=i3 op uto a b arg hx.op
 have hrl:=mc op a b
 simp only at hS hrq
 generalize cD op a b=rd at hS hus hrq hrl
 generalize ar op uto=to at hS hus
 repeat first|with_reducible refine ab ?_|simp only[hi0,hi1,hcc0,hcc1,hcc2,hcc3,hcc4,go_sem,simprocAttr]
 refine cV hus ?_
 repeat first|with_reducible refine ab ?_|simp only[hb1,hb2,hb3.1,hb3.2.1,hb3.2.2,Int.le_refl,decide_true,go_sem,simprocAttr]
 refine ai [] (.cons (.rfl (by rfl)) (.cons (.rfl (by rfl)) (.cons (.rfl (by rfl)) .nil))) hfw (by simp only[go_sem,simprocAttr]) ?_
 repeat first|with_reducible refine ab ?_|simp only[go_sem,simprocAttr]
 refine GA.loop (I:=λmm e H=>∃k:Nat,mm=F.length-k/\k<=F.length/\e=au [(1,.p 0 0),(3,.fs 1 pt.length (iC .i64 pt)),(6,.n .i64 cs.length),(7,.os 1 (cs.length+1)),(9,.b ch),(10,.n .i64 i),(11,.os 2 rd.length),(12,.n .i64 to),(13,.os 3 regs),(14,.fs 1 F.length (iC .i64 F)),(15,.n .i64 k)]/\H=ao [am 4 1 regs 0 (bF (gm L to (λ_=>false) (F.take k))),am 3 1 rd.length 0 (iC .i64 rd),am 47 1 (cs.length+1) 0 (lC regs L),aq 0 25 [.fs 2 na ra,.n .i64 regs,.n .i64 par,.fs 5 cs.length (cC cs)]]) (Wk.mk [3,2,1,0] [] ?_ ?_ ?_) ⟨0,rfl,by omega,rfl,rfl⟩ ?_
 ·simp only[aB,aD,go_sem,simprocAttr]
  repeat' refine aa ?_ ?_
  all_goals first|exact dn|skip
 ·refine(.cons rfl (.same (by simp only[go_sem,simprocAttr]<;>rfl) rfl (by decide) (λz j h hj=>?_) (λi j _ hj=>rfl)) (.cons rfl (.k1) (.cons rfl (.k1) (.cons rfl (.ls) .nil))))
  cases Nat.lt_one_iff.1 hj
  show AV.b false=AV.b (gm L to (λ_=>false) (F.take 0) z)
  unfold gm;simp
 ·simp
 rintro mm e H ⟨k,rfl,hk,rfl,rfl⟩
 repeat first|with_reducible refine ab ?_|simp only[go_sem,simprocAttr]
 refine⟨λh=>?_,λh=>?_⟩
 ·have hkn:k<F.length:=by omega
  have h0:(0:Int)<=(k:Int):=by omega
  have hmF:F.getD k 0 ∈ F:=by rw[List.getD_eq_getElem?_getD,List.getElem?_eq_getElem hkn];exact List.getElem_mem _
  have hFq:=hF _ hmF
  have htk:F.take (k+1)=F.take k++[F.getD k 0]:=c9 hkn
  have hic:iC .i64 F k 0= .n .i64 (F.getD k 0):=rfl
  generalize F.getD k 0=nx at hFq htk hic
  obtain⟨q,rfl⟩:∃q:Nat,nx=(q:Int):=⟨nx.toNat,by omega⟩
  have hq0:(0:Int)<=(q:Int):=hFq.1
  have hq1:(q:Int)<((cs.length+1:Nat):Int):=by omega
  have hq2:q<cs.length+1:=by omega
  generalize hbase:gm L to (λ_=>false) (F.take k)=base
  repeat first|with_reducible refine ab ?_|simp only[h0,h,hic,hq0,hq1,hq2,hgl,go_sem,simprocAttr]
  refine GA.loop (I:=λmm e H=>∃r:Nat,mm=regs-r/\r<=regs/\e=au [(1,.p 0 0),(3,.fs 1 pt.length (iC .i64 pt)),(6,.n .i64 cs.length),(7,.os 1 (cs.length+1)),(9,.b ch),(10,.n .i64 i),(11,.os 2 rd.length),(12,.n .i64 to),(13,.os 3 regs),(14,.fs 1 F.length (iC .i64 F)),(15,.n .i64 k),(16,.n .i64 r)]/\H=ao [am 4 1 regs 0 (bF λz=>if z<r then(base z||(L q z&& !decide ((z:Int)=to))) else base z),am 3 1 rd.length 0 (iC .i64 rd),am 47 1 (cs.length+1) 0 (lC regs L),aq 0 25 [.fs 2 na ra,.n .i64 regs,.n .i64 par,.fs 5 cs.length (cC cs)]]) (Wk.mk [3,2,1,0] [] ?_ ?_ ?_) ⟨0,rfl,by omega,rfl,rfl⟩ ?_
  ·simp only[aB,aD,go_sem,simprocAttr]
   repeat' refine aa ?_ ?_
   all_goals first|exact dn|skip
  ·refine(.cons rfl (.same (by simp only[go_sem,simprocAttr]<;>rfl) rfl (by decide) (λz j h hj=>?_) (λi j _ hj=>rfl)) (.cons rfl (.k1) (.cons rfl (.k1) (.cons rfl (.ls) .nil))))
   cases Nat.lt_one_iff.1 hj
   show AV.b (base z)=AV.b (if z<0 then _ else _)
   rw[if_neg (by omega)]
  ·simp
  rintro mm e H ⟨r,rfl,hrr,rfl,rfl⟩
  repeat first|with_reducible refine ab ?_|simp only[go_sem,simprocAttr]
  refine⟨λhlr=>?_,λhlr=>?_⟩
  ·have hrn:r<regs:=by omega
   have hr0:(0:Int)<=(r:Int):=by omega
   have hr1:r+1<=regs:=hrn
   have e1:(am 4 1 regs 0 (bF λz=>if z<r then(base z||(L q z&& !decide ((z:Int)=to))) else base z)).get r= .b (base r):=by
    rw[bH]
    show AV.b (if r<r then _ else _)=_
    rw[if_neg (by omega)]
   have e2:bF (L q) r 0= .b (L q r):=rfl
   have hfin:∀(val:Bool),val=(base r||(L q r&& !decide ((r:Int)=to)))->∀z,(if z=r then AV.b val else AV.b (if z<r then(base z||(L q z&& !decide ((z:Int)=to))) else base z))=AV.b (if z<r+1 then(base z||(L q z&& !decide ((z:Int)=to))) else base z):=by
    intro val hval z
    by_cases e:z=r
    ·subst e;rw[if_pos rfl,if_pos (by omega),hval]
    ·rw[if_neg e]
     by_cases h9:z<r
     ·rw[if_pos h9,if_pos (by omega)]
     ·rw[if_neg h9,if_neg (by omega)]
   cases hbr:base r<;>cases hto:decide ((r:Int)=to)<;>cases hLr:L q r
   all_goals
    rw[hbr] at e1 hfin
    rw[hLr] at e2 hfin
    rw[hto] at hfin
    repeat first|with_reducible refine ab ?_|simp only[hr0,hlr,hrn,hr1,e1,e2,hto,h0,h,hic,hq0,hq1,hq2,hgl,go_sem,simprocAttr]
    refine⟨_,_,_,?_,Wk.mk [3,2,1,0] [] ?_ ?_ ?_,r+1,rfl,by omega,rfl,rfl⟩
    ·omega
    ·simp only[aB,aD,go_sem,simprocAttr]
     repeat' refine aa ?_ ?_
     all_goals first|exact dn|skip
    ·refine(.cons rfl (.put (q:=r) (by simp only[go_sem,simprocAttr]<;>rfl) (by simp) (by rfl) hrn rfl (by decide) (by omega) (λz j h hj=>?_) (λi j _ hj=>rfl)) (.cons rfl (.k1) (.cons rfl (.k1) (.cons rfl (.ls) .nil))))
     cases Nat.lt_one_iff.1 hj
     exact hfin _ (by simp) _
    ·simp
  ·have hrn:r=regs:=by omega
   subst hrn
   repeat first|with_reducible refine ab ?_|simp only[go_sem,simprocAttr]
   refine⟨_,_,_,?_,Wk.mk [3,2,1,0] [] ?_ ?_ ?_,k+1,rfl,by omega,rfl,rfl⟩
   ·omega
   ·simp only[aB,aD,go_sem,simprocAttr]
    repeat' refine aa ?_ ?_
    all_goals first|exact dn|skip
   ·refine(.cons rfl (.same (by simp only[go_sem,simprocAttr]<;>rfl) rfl (by decide) (λz j h hj=>?_) (λi j _ hj=>rfl)) (.cons rfl (.k1) (.cons rfl (.k1) (.cons rfl (.ls) .nil))))
    cases Nat.lt_one_iff.1 hj
    show AV.b (if z<r then _ else _)=AV.b (gm L to (λ_=>false) (F.take (k+1)) z)
    rw[if_pos h,htk,nY,hbase]
    rfl
   ·simp
 have hkn:k=F.length:=by omega
 subst hkn
 rw[List.take_length]
 generalize hA:gm L to (λ_=>false) F=NA at hS ⊢
 repeat first|with_reducible refine ab ?_|simp only[go_sem,simprocAttr]
 refine GA.loop (I:=λmm e H=>∃k:Nat,mm=rd.length-k/\k<=rd.length/\e=au [(1,.p 0 0),(3,.fs 1 pt.length (iC .i64 pt)),(6,.n .i64 cs.length),(7,.os 1 (cs.length+1)),(9,.b ch),(10,.n .i64 i),(11,.os 2 rd.length),(13,.os 3 regs),(17,.n .i64 k)]/\H=ao [am 4 1 regs 0 (bF (gl NA (rd.take k))),am 3 1 rd.length 0 (iC .i64 rd),am 47 1 (cs.length+1) 0 (lC regs L),aq 0 25 [.fs 2 na ra,.n .i64 regs,.n .i64 par,.fs 5 cs.length (cC cs)]]) (Wk.mk [3,2,1,0] [] ?_ ?_ ?_) ⟨0,rfl,by omega,rfl,rfl⟩ ?_
 ·simp only[aB,aD,go_sem,simprocAttr]
  repeat' refine aa ?_ ?_
  all_goals first|exact dn|skip
 ·refine(.cons rfl (.same (by simp only[go_sem,simprocAttr]<;>rfl) rfl (by decide) (λz j h hj=>?_) (λi j _ hj=>rfl)) (.cons rfl (.k1) (.cons rfl (.k1) (.cons rfl (.ls) .nil))))
  cases Nat.lt_one_iff.1 hj
  show AV.b (NA z)=AV.b (gl NA (rd.take 0) z)
  unfold gl;simp
 ·simp
 rintro mm e H ⟨k,rfl,hk,rfl,rfl⟩
 repeat first|with_reducible refine ab ?_|simp only[go_sem,simprocAttr]
 refine⟨λh=>?_,λh=>?_⟩
 ·have hkn:k<rd.length:=by omega
  have h0:(0:Int)<=(k:Int):=by omega
  have hmR:rd.getD k 0 ∈ rd:=by rw[List.getD_eq_getElem?_getD,List.getElem?_eq_getElem hkn];exact List.getElem_mem _
  have hRq:=hrq _ hmR
  have htk:rd.take (k+1)=rd.take k++[rd.getD k 0]:=c9 hkn
  have hic:(am 3 1 rd.length 0 (iC .i64 rd)).get k= .n .i64 (rd.getD k 0):=by rw[bH];rfl
  generalize rd.getD k 0=nx at hRq htk hic
  obtain⟨q,rfl⟩:∃q:Nat,nx=(q:Int):=⟨nx.toNat,by omega⟩
  have hq0:(0:Int)<=(q:Int):=hRq.1
  have hq1:(q:Int)<(regs:Int):=hRq.2
  have hq2:q<regs:=by omega
  have hq3:q+1<=regs:=hq2
  repeat first|with_reducible refine ab ?_|simp only[h0,h,hkn,hic,hq0,hq1,hq2,hq3,go_sem,simprocAttr]
  refine⟨_,_,_,?_,Wk.mk [3,2,1,0] [] ?_ ?_ ?_,k+1,rfl,by omega,rfl,rfl⟩
  ·omega
  ·simp only[aB,aD,go_sem,simprocAttr]
   repeat' refine aa ?_ ?_
   all_goals first|exact dn|skip
  ·refine(.cons rfl (.put (q:=q) (by simp only[go_sem,simprocAttr]<;>rfl) (by simp) (by rfl) hq2 rfl (by decide) (by omega) (λz j h hj=>?_) (λi j _ hj=>rfl)) (.cons rfl (.k1) (.cons rfl (.k1) (.cons rfl (.ls) .nil))))
   cases Nat.lt_one_iff.1 hj
   show(if z=q then AV.b true else AV.b (gl NA (rd.take k) z))=AV.b (gl NA (rd.take (k+1)) z)
   rw[htk,nX]
   by_cases e:z=q
   ·subst e;rw[if_pos rfl];simp
   ·have:decide ((q:Int)=(z:Int))=false:=by simp;omega
    rw[if_neg e,this,Bool.or_false]
  ·simp
 have hkn:k=rd.length:=by omega
 subst hkn
 rw[List.take_length]
 generalize gl NA rd=N at hS ⊢
 repeat first|with_reducible refine ab ?_|simp only[go_sem,simprocAttr]
 refine GA.loop (I:=λmm e H=>∃k:Nat,mm=regs-k/\k<=regs/\e=au [(1,.p 0 0),(3,.fs 1 pt.length (iC .i64 pt)),(6,.n .i64 cs.length),(7,.os 1 (cs.length+1)),(9,.b (ch|| !mL k N (L i))),(10,.n .i64 i),(13,.os 2 regs),(18,.n .i64 k)]/\H=ao [am 4 1 regs 0 (bF N),am 47 1 (cs.length+1) 0 (lC regs L),aq 0 25 [.fs 2 na ra,.n .i64 regs,.n .i64 par,.fs 5 cs.length (cC cs)]]) (Wk.mk [3,1,0] [] ?_ ?_ ?_) ⟨0,rfl,by omega,rfl,rfl⟩ ?_
 ·simp only[aB,aD,go_sem,simprocAttr]
  repeat' refine aa ?_ ?_
  all_goals first|exact dn|skip
  rw[show(ch|| !mL 0 N (L i))=ch by simp[mL]]
  exact Wv.same rfl
 ·exact(.cons rfl (.k1) (.cons rfl (.k1) (.cons rfl (.ls) .nil)))
 ·simp
 rintro mm e H ⟨k,rfl,hk,rfl,rfl⟩
 repeat first|with_reducible refine ab ?_|simp only[go_sem,simprocAttr]
 refine⟨λh=>?_,λh=>?_⟩
 ·have hkn:k<regs:=by omega
  have h0:(0:Int)<=(k:Int):=by omega
  have e1:(am 4 1 regs 0 (bF N)).get k= .b (N k):=by rw[bH];rfl
  have e2:bF (L i) k 0= .b (L i k):=rfl
  have he:(ch|| !mL (k+1) N (L i))=((ch|| !mL k N (L i))|| !(N k==L i k)):=by
   rw[xF];cases ch<;>cases mL k N (L i)<;>cases (N k==L i k)<;>rfl
  generalize (ch|| !mL k N (L i))=c1 at he ⊢
  cases c1<;>cases hN:N k<;>cases hLk:L i k
  all_goals
   rw[hN,hLk] at he
   rw[hN] at e1
   rw[hLk] at e2
   repeat first|with_reducible refine ab ?_|simp only[h0,h,hkn,e1,e2,hi0,hi2,hi3,hgl,pj,go_sem,simprocAttr]
   refine⟨_,_,_,?_,Wk.mk [2,1,0] [] ?_ ?_ ?_,k+1,rfl,by omega,rfl,rfl⟩
   ·omega
   ·simp only[aB,aD,go_sem,simprocAttr]
    repeat' refine aa ?_ ?_
    all_goals first|exact dn|skip
    all_goals (rw[he];exact Wv.same rfl)
   ·exact(.cons rfl (.k1) (.cons rfl (.k1) (.cons rfl (.ls) .nil)))
   ·simp
 have hkn:k=regs:=by omega
 subst hkn
 have hi4:i<=cs.length:=by omega
 repeat first|with_reducible refine ab ?_|simp only[hi0,hi2,hi3,hi4,hgl,Nat.le_refl,go_sem,simprocAttr]
 cases heq:mL k N (L i)
 ·rw[heq,if_neg (by simp)] at hS
  refine⟨_,_,_,?_,Wk.mk [1,0] [2] ?_ ?_ ?_,i,upd L i N,true,rfl,by omega,hS,rfl,rfl⟩
  ·omega
  ·simp only[Bool.not_false,Bool.or_true]
   simp only[aB,aD,go_sem,simprocAttr]
   repeat' refine aa ?_ ?_
   all_goals first|exact dn|skip
  ·refine .cons rfl (.putw (q:=i) (by simp only[go_sem,simprocAttr]<;>rfl) (by simp) (by rfl) hi3 rfl (by decide) (by omega) (λz j hz hne hj=>?_) (λ_ _ _ _=>rfl) (λj hj=>?_)) (.cons rfl (.ls) .nil)
   ·unfold lC upd;rw[if_neg hne]
   ·cases Nat.lt_one_iff.1 hj
    unfold lC upd;rw[if_pos rfl]
    refine Wv.cv (Cv.os (x:=_) (by simp) (by simp only[go_sem,simprocAttr]<;>rfl) (by simp only[go_sem,simprocAttr]<;>exact Nat.le_refl _) (λz j hi hj=>?_) (λ_ _ _ _=>rfl))
    cases Nat.lt_one_iff.1 hj
    rw[Nat.mul_one,Nat.add_zero,bH]
  ·simp
 ·rw[heq,if_pos rfl] at hS
  refine⟨_,_,_,?_,Wk.mk [1,0] [2] ?_ ?_ ?_,i,L,ch,rfl,by omega,hS,rfl,rfl⟩
  ·omega
  ·simp only[Bool.not_true,Bool.or_false]
   simp only[aB,aD,go_sem,simprocAttr]
   repeat' refine aa ?_ ?_
   all_goals first|exact dn|skip
  ·refine .cons rfl (.putw (q:=i) (by simp only[go_sem,simprocAttr]<;>rfl) (by simp) (by rfl) hi3 rfl (by decide) (by omega) (λz j hz hne hj=>rfl) (λ_ _ _ _=>rfl) (λj hj=>?_)) (.cons rfl (.ls) .nil)
   cases Nat.lt_one_iff.1 hj
   refine Wv.cv (Cv.os (x:=_) (by simp) (by simp only[go_sem,simprocAttr]<;>rfl) (by simp only[go_sem,simprocAttr]<;>exact Nat.le_refl _) (λz j hi hj=>?_) (λ_ _ _ _=>rfl))
   cases Nat.lt_one_iff.1 hj
   rw[Nat.mul_one,Nat.add_zero,bH]
   show AV.b (N z)=AV.b (L i z)
   rw[lN.1 heq z hi]
  ·simp
theorem sk{na:Nat}{ra:Nat->Nat->AV}{regs:Nat}{par:Int}{cs:List In}{xc:AV}{Lf:Lv}(hna:na<1000000)(hra:∀i j,i<na->j<2->(ra i j).cell=true)(hcs:cs.length<100000)(hr:regs<1000000)
  (hck:a7 Tryz.prog 26 [ae na ra regs par cs] [.v xc,.v (.n .i64 0)])
  (hlv:a7 Tryz.prog 48 [ae na ra regs par cs] [.o 47 1 (cs.length+1) 0 (lC regs Lf)])
  (hto:∀x ∈ cs,fL x.1=true->0<=x.2.1/\x.2.1<regs):
  a7 Tryz.prog 18 [ae na ra regs par cs] [.v (ae na ra regs par (gz (cL Lf cs 0).length (cL Lf cs 0))),.v (.n .i64 0)]:=by
 have hcp:=gg (na:=na) (ra:=ra) (regs:=regs) (par:=par) (cs:=cs) hna hra (by omega)
 refine af ay Nt ⟨by simp,by decide⟩ ?_
 simp only[aZ,ae] at hck hlv hcp ⊢
 repeat first|with_reducible refine ab ?_|simp only[go_sem,simprocAttr]
 refine cV hck ?_
 repeat first|with_reducible refine ab ?_|simp only[decide_true,go_sem,simprocAttr]
 refine cV hlv ?_
 repeat first|with_reducible refine ab ?_|simp only[go_sem,simprocAttr]
 refine cV hcp ?_
 repeat first|with_reducible refine ab ?_|simp only[go_sem,simprocAttr]
 refine GA.wk (Wk.mk (L:=[(1,.p 0 0),(2,.p 1 0),(3,.n .i64 0),(6,.fs 1 (cs.length+1) (lC regs Lf)),(7,.p 2 0),(8,.n .i64 0)]) (bl:=[aq 0 25 [.fs 2 na ra,.n .i64 regs,.n .i64 par,.sl0],aq 0 25 [.sl0,.n .i64 0,.n .i64 0,.sl0],aq 0 25 [.fs 2 na ra,.n .i64 regs,.n .i64 par,.fs 5 cs.length (cC cs)]]) [5,1,0] [2,3] ?_ ?_ ?_) ?_
 ·simp only[aB,aD,go_sem,simprocAttr]
  repeat' refine aa ?_ ?_
  all_goals first|exact bi|skip
  exact .cv (Cv.own (ty:=47) (z:=0) (by simp) (by simp only[go_sem,simprocAttr]) (λi j _ _=>rfl))
 ·exact(.cons rfl (.lstw (x:=_) (by simp only[go_sem,simprocAttr]<;>rfl) (by rfl) (by rfl) (by rfl) (by rfl) (by rfl) (by rfl) (by simp) (λi hi=>(by rcases Iw hi with rfl|rfl|rfl|rfl<;>(simp only[go_sem,simprocAttr];first|exact Wv.same rfl|exact Wv.os rfl|exact Wv.cv (Cv.own (ty:=93) (z:=0) (by simp) (by simp only[go_sem,simprocAttr]) hra))))) (.cons rfl (.ls) (.cons rfl (.ls) .nil)))
 ·simp
 refine GA.wk (Wk.nilb 2 3 5 37 (x:=aq 0 25 [.fs 2 na ra,.n .i64 regs,.n .i64 par,.sl0]) (by simp only[go_sem,simprocAttr]) (by simp only[go_sem,simprocAttr]) (by decide) (by decide) (by simp only[go_sem,simprocAttr]) rfl (by simp only[go_sem,simprocAttr])) ?_
 simp only[cA,go_sem,simprocAttr]
 refine GA.loop (I:=λmm e H=>∃(k:Nat) (out:List In),mm=cs.length-k/\k<=cs.length/\out.length<=k/\cL Lf cs 0=out++cL Lf (cs.drop k) k/\e=au [(1,.p 0 0),(2,.p 1 0),(3,.n .i64 0),(6,.fs 1 (cs.length+1) (lC regs Lf)),(7,.p 2 0),(8,.n .i64 k)]/\H=ao [am 37 5 out.length 0 (cC out),aq 0 25 [.fs 2 na ra,.n .i64 regs,.n .i64 par,.os 3 out.length],aq 0 25 [.sl0,.n .i64 0,.n .i64 0,.sl0],aq 0 25 [.fs 2 na ra,.n .i64 regs,.n .i64 par,.fs 5 cs.length (cC cs)]]) (Wk.mk [3,2,1,0] [] ?_ ?_ ?_) ⟨0,[],rfl,by omega,by simp,by simp,rfl,rfl⟩ ?_
 ·simp only[aB,aD,go_sem,simprocAttr]
  repeat' refine aa ?_ ?_
  all_goals first|exact bi|skip
 ·exact(.cons rfl (.r0) (.cons rfl (.w4) (.cons rfl (.ls) (.cons rfl (.ls) .nil))))
 ·simp
 rintro mm e H ⟨k,out,rfl,hk,hol,hs,rfl,rfl⟩
 repeat first|with_reducible refine ab ?_|simp only[go_sem,simprocAttr]
 refine⟨λh=>?_,λh=>?_⟩
 ·have hkn:k<cs.length:=by omega
  have h0:(0:Int)<=(k:Int):=by omega
  have hm:cs.getD k (0,0,0,0,0) ∈ cs:=by rw[List.getD_eq_getElem?_getD,List.getElem?_eq_getElem hkn];exact List.getElem_mem _
  rw[bw (d:=(0,0,0,0,0)) hkn,cL] at hs
  have hcc0:=gG cs k
  have hcc1:=kG cs k
  have hcc2:=lQ cs k
  have hcc3:=lP cs k
  have hcc4:=lu cs k
  have hxt:=hto _ hm
  generalize cs.getD k (0,0,0,0,0)=x at hs hm hxt hcc0 hcc1 hcc2 hcc3 hcc4
  obtain⟨op,to,a,b,arg⟩:=x
  simp only at hs hxt hcc0 hcc1 hcc2 hcc3 hcc4
  have hlim:(out.length+1)*5<1099511627776/\(out.length+1)*40<=140737488355328/\out.length+1<=9223372036854775807/\out.length*5+5<1099511627776:=by omega
  have hkeep:eM Lf k (op,to,a,b,arg)=(!fL op||Lf (k+1) to.toNat):=rfl
  have hw:IntKind.wrap .i64 ((k:Int)+1)=((k+1:Nat):Int):=by rw[b8 (by omega)];omega
  have fin1:∀(hk1:eM Lf k (op,to,a,b,arg)=true),cL Lf cs 0=(out++[(op,to,a,b,arg)])++cL Lf (cs.drop (k+1)) (k+1):=λhk1=>by
   rw[hs,if_pos hk1,List.append_assoc]
  have fin0:∀(hk1:eM Lf k (op,to,a,b,arg)=false),cL Lf cs 0=out++cL Lf (cs.drop (k+1)) (k+1):=λhk1=>by
   rw[hs,if_neg (by rw[hk1];simp),List.nil_append]
  have hgo:(out++[(op,to,a,b,arg)]).length=out.length+1:=by simp
  (try simp only[h0,h,hcc0,hcc1,hcc2,hcc3,hcc4,go_sem,simprocAttr])
  iterate 5 (with_reducible refine GA.go ay rfl ?_;try simp only[h0,h,hcc0,hcc1,hcc2,hcc3,hcc4,go_sem,simprocAttr])
  with_reducible refine GA.seq ?_
  with_reducible refine GA.mixv ay ?_ ?_
  ·rfl
  try simp only[ax,aL,aw,av,aK,aJ,aI,bN,bP,bQ,bO,br,bq,aW,aX,aM,bt,h0,go_sem,simprocAttr]
  repeat (rw[bA];simp only[ax,aL,aw,av,aK,aJ,aI,bN,bP,bQ,bO,br,bq,aW,aX,aM,bt,h0,go_sem,simprocAttr])
  refine cV (uk op) ?_
  cases hi:fL op
  ·rw[hi] at hkeep
   simp only[Bool.not_false,Bool.true_or] at hkeep
   try simp only[ax,aL,aw,av,aK,aJ,aI,bN,bP,bQ,bO,br,bq,aW,aX,aM,bt,h0,go_sem,simprocAttr]
   repeat (rw[bA];simp only[ax,aL,aw,av,aK,aJ,aI,bN,bP,bQ,bO,br,bq,aW,aX,aM,bt,h0,go_sem,simprocAttr])
   repeat first|with_reducible refine ab ?_|simp only[hlim.1,hlim.2.1,hlim.2.2.1,hlim.2.2.2,decide_true,go_sem,simprocAttr]
   refine⟨_,_,_,?_,Wk.mk [6,2,1,0] [] ?_ ?_ ?_,k+1,out++[(op,to,a,b,arg)],rfl,by omega,by simp;omega,fin1 hkeep,rfl,rfl⟩
   ·omega
   ·simp only[aB,aD,go_sem,simprocAttr]
    repeat' refine aa ?_ ?_
    all_goals first|exact bi|skip
   ·rw[hgo]
    exact(.cons rfl (.snoc (by simp only[go_sem,simprocAttr]<;>rfl) (by simp) (by rfl) rfl (by decide) (by omega) (λi j hi _=>by unfold cC;rw[aF hi]) (λj hj=>by unfold cC;rw[aG];rcases cJ hj with rfl|rfl|rfl|rfl|rfl<;>rfl) (λi j _ hj=>by rcases cJ hj with rfl|rfl|rfl|rfl|rfl<;>rfl)) (.cons rfl (.w4) (.cons rfl (.ls) (.cons rfl (.ls) .nil))))
   ·simp
  ·rw[hi] at hkeep
   obtain⟨ht0,ht1⟩:=hxt hi
   obtain⟨q,rfl⟩:∃q:Nat,to=(q:Int):=⟨to.toNat,by omega⟩
   simp only[Bool.not_true,Bool.false_or,Int.toNat_natCast] at hkeep
   have e1:lC regs Lf (k+1) 0= .fs 1 regs (bF (Lf (k+1))):=rfl
   have e2:bF (Lf (k+1)) q 0= .b (Lf (k+1) q):=rfl
   have hq0:(0:Int)<=((k+1:Nat):Int):=by omega
   have hq1:((k+1:Nat):Int)<((cs.length+1:Nat):Int):=by omega
   have hq2:(0:Int)<=(q:Int):=ht0
   have hq3:(q:Int)<(regs:Int):=ht1
   cases hv:Lf (k+1) q
   ·rw[hv] at hkeep e2
    try simp only[ax,aL,aw,av,aK,aJ,aI,bN,bP,bQ,bO,br,bq,aW,aX,aM,bt,hq0,hq1,hq2,hq3,e1,e2,hw,go_sem,simprocAttr]
    repeat (rw[bA];simp only[ax,aL,aw,av,aK,aJ,aI,bN,bP,bQ,bO,br,bq,aW,aX,aM,bt,hq0,hq1,hq2,hq3,e1,e2,hw,go_sem,simprocAttr])
    repeat first|with_reducible refine ab ?_|simp only[hw,go_sem,simprocAttr]
    refine⟨_,_,_,?_,Wk.mk [3,2,1,0] [] ?_ ?_ ?_,k+1,out,rfl,by omega,by omega,fin0 hkeep,rfl,rfl⟩
    ·omega
    ·simp only[aB,aD,go_sem,simprocAttr]
     repeat' refine aa ?_ ?_
     all_goals first|exact bi|skip
    ·exact(.cons rfl (.k5) (.cons rfl (.w4) (.cons rfl (.ls) (.cons rfl (.ls) .nil))))
    ·simp
   ·rw[hv] at hkeep e2
    try simp only[ax,aL,aw,av,aK,aJ,aI,bN,bP,bQ,bO,br,bq,aW,aX,aM,bt,hq0,hq1,hq2,hq3,e1,e2,hw,go_sem,simprocAttr]
    repeat (rw[bA];simp only[ax,aL,aw,av,aK,aJ,aI,bN,bP,bQ,bO,br,bq,aW,aX,aM,bt,hq0,hq1,hq2,hq3,e1,e2,hw,go_sem,simprocAttr])
    repeat first|with_reducible refine ab ?_|simp only[hw,hlim.1,hlim.2.1,hlim.2.2.1,hlim.2.2.2,decide_true,go_sem,simprocAttr]
    refine⟨_,_,_,?_,Wk.mk [6,2,1,0] [] ?_ ?_ ?_,k+1,out++[(op,(q:Int),a,b,arg)],rfl,by omega,by simp;omega,fin1 hkeep,rfl,rfl⟩
    ·omega
    ·simp only[aB,aD,go_sem,simprocAttr]
     repeat' refine aa ?_ ?_
     all_goals first|exact bi|skip
    ·rw[hgo]
     exact(.cons rfl (.snoc (by simp only[go_sem,simprocAttr]<;>rfl) (by simp) (by rfl) rfl (by decide) (by omega) (λi j hi _=>by unfold cC;rw[aF hi]) (λj hj=>by unfold cC;rw[aG];rcases cJ hj with rfl|rfl|rfl|rfl|rfl<;>rfl) (λi j _ hj=>by rcases cJ hj with rfl|rfl|rfl|rfl|rfl<;>rfl)) (.cons rfl (.w4) (.cons rfl (.ls) (.cons rfl (.ls) .nil))))
    ·simp
 have hkn:k=cs.length:=by omega
 subst hkn
 rw[List.drop_length,cL,List.append_nil] at hs
 rw[hs]
 generalize hR:gz out.length out=R
 repeat first|with_reducible refine ab ?_|simp only[go_sem,simprocAttr]
 refine GA.loop (I:=λmm e H=>∃(f:Nat) (l:List In) (more:Bool),mm=2*f+(if more=true then 1 else 0)/\l.length<=f/\l.length<100000/\gz f l=R/\(more=false->l=R)/\e=au [(2,.p 1 0),(3,.n .i64 0),(7,.p 2 0),(10,.b more)]/\H=ao [aq 0 25 [.fs 2 na ra,.n .i64 regs,.n .i64 par,.fs 5 l.length (cC l)],aq 0 25 [.sl0,.n .i64 0,.n .i64 0,.sl0],aq 0 25 [.fs 2 na ra,.n .i64 regs,.n .i64 par,.fs 5 cs.length (cC cs)]]) (Wk.mk [2,1,0] [3] ?_ ?_ ?_) ⟨out.length,out,true,rfl,Nat.le_refl _,by omega,hR,(λh=>by cases h),rfl,rfl⟩ ?_
 ·simp only[aB,aD,go_sem,simprocAttr]
  repeat' refine aa ?_ ?_
  all_goals first|exact bi|skip
 ·exact(.cons rfl (.lstw (x:=_) (by simp only[go_sem,simprocAttr]<;>rfl) (by rfl) (by rfl) (by rfl) (by rfl) (by rfl) (by rfl) (by simp) (λi hi=>(by rcases Iw hi with rfl|rfl|rfl|rfl<;>(simp only[go_sem,simprocAttr];first|exact Wv.same rfl|exact Wv.cv (Cv.own (ty:=37) (z:=0) (by simp) (by simp only[go_sem,simprocAttr]<;>rfl) (λi j _ hj=>bh i hj)))))) (.cons rfl (.ls) (.cons rfl (.ls) .nil)))
 ·simp
 rintro mm e H ⟨f,l,more,rfl,hlf,hll,hd,hmo,rfl,rfl⟩
 cases more
 ·have:=hmo rfl
  subst this
  repeat first|with_reducible refine ab ?_|simp only[go_sem,simprocAttr]
  refine⟨[_,_],rfl,.v rfl rfl (.v rfl rfl .nil)⟩
 repeat first|with_reducible refine ab ?_|simp only[go_sem,simprocAttr]
 have hem:=sb l hll
 unfold I8 at hem
 cases hh:jc l with
 |none=>
  rw[hh] at hem
  simp only at hem
  refine cV hem ?_
  have hRl:l=R:=by
   rw[<-hd]
   cases f with
   |zero=>rfl
   |succ f=>rw[gz,hh]
  repeat first|with_reducible refine ab ?_|simp only[go_sem,simprocAttr]
  refine⟨_,_,_,?_,Wk.mk [2,1,0] [] ?_ ?_ ?_,f,l,false,rfl,hlf,hll,hd,λ_=>hRl,rfl,rfl⟩
  ·simp
  ·simp only[aB,aD,go_sem,simprocAttr]
   repeat' refine aa ?_ ?_
   all_goals first|exact bi|skip
  ·exact(.cons rfl (.lstw (x:=_) (by simp only[go_sem,simprocAttr]<;>rfl) (by rfl) (by rfl) (by rfl) (by rfl) (by rfl) (by rfl) (by simp) (λi hi=>(by rcases Iw hi with rfl|rfl|rfl|rfl<;>(simp only[go_sem,simprocAttr];exact Wv.same rfl)))) (.cons rfl (.ls) (.cons rfl (.ls) .nil)))
  ·simp
 |some i=>
  rw[hh] at hem
  simp only at hem
  refine cV hem ?_
  have hil:=j4 hh
  obtain⟨f,rfl⟩:∃g,f=g+1:=⟨f-1,by omega⟩
  rw[gz,hh] at hd
  simp only at hd
  have hdn:0<ke l i/\i+ke l i<=l.length:=by unfold ke;split<;>omega
  have hdl:=de hdn.2
  repeat first|with_reducible refine ab ?_|simp only[go_sem,simprocAttr]
  refine⟨_,_,_,?_,Wk.mk [2,1,0] [3] ?_ ?_ ?_,f,fq l i (ke l i),true,rfl,by omega,by omega,hd,(λh=>by cases h),rfl,rfl⟩
  ·simp
  ·simp only[aB,aD,go_sem,simprocAttr]
   repeat' refine aa ?_ ?_
   all_goals first|exact bi|skip
  ·exact(.cons rfl (.lstw (x:=_) (by simp only[go_sem,simprocAttr]<;>rfl) (by rfl) (by rfl) (by rfl) (by rfl) (by rfl) (by rfl) (by simp) (λi hi=>(by rcases Iw hi with rfl|rfl|rfl|rfl<;>(simp only[go_sem,simprocAttr];first|exact Wv.same rfl|exact Wv.cv (Cv.own (ty:=37) (z:=0) (by simp) (by simp only[go_sem,simprocAttr]<;>rfl) (λi j _ hj=>bh i hj)))))) (.cons rfl (.ls) (.cons rfl (.ls) .nil)))
  ·simp
end Go.Proofs.YtidhfimbnjaceaaGreat