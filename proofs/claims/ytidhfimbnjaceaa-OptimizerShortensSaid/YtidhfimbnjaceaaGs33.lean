/- A part of the proof of OptimizerShortens: LkA LkB PsA PsB AwA AwB AwC LaB LkG LkC LkD FrE PrD. No condition. -/
import Derived.Test.YtidhfimbnjaceaaGs12
import Derived.Test.YtidhfimbnjaceaaGs17
import Derived.Test.YtidhfimbnjaceaaGs32
import Derived.Test.YtidhfimbnjaceaaGs10
import Derived.Test.YtidhfimbnjaceaaGs13
import Derived.Test.YtidhfimbnjaceaaGs11
set_option linter.unusedSimpArgs false
set_option linter.unusedVariables false
set_option linter.constructorNameAsVariable false
set_option maxRecDepth 100000
set_option maxHeartbeats 4000000
namespace Go.Proofs.Ytidhfimbnjaceaa
open Go.RowKit
/-! ### code that Check accepts-/
structure mh(la:List (Bool×Int))(regs par:Int)(cs:List In):Prop where
 nA:la.length<=8
 nregs:0<=regs/\regs<=1024
 ncs:cs.length<=16384
 ins:∀x ∈ cs,dl regs par la.length (cw x)=0
 nest:(a8 (cs.map cw) 0 []).2=false
theorem jn{regs spills nA:Int}:∀(l:List RI) (k:Nat),cz regs spills nA l k=none->∀i ∈ l,dl regs spills nA i=0
 |[],_,_,i,hi=>by cases hi
 |x::l,k,h,i,hi=>by
  unfold cz at h
  split at h
  ·cases h
  rename_i h0
  rcases List.mem_cons.1 hi with rfl|hi
  ·exact Classical.not_not.1 h0
  ·exact jn l (k+1) h i hi
theorem kg{regs spills nA:Int}:∀(l:List RI) (k:Nat) (r:Int×Int),cz regs spills nA l k=some r->r.2≠0
 |[],_,_,h=>by cases h
 |x::l,k,r,h=>by
  unfold cz at h
  split at h
  ·rename_i h0;cases h;exact h0
  ·exact kg l (k+1) r h
theorem b6{la:List (Bool×Int)}{regs par:Int}{cs:List In}(h:(gF la regs par cs).2=0):mh la regs par cs:=by
 unfold gF bQ at h
 split at h
 ·simp at h
 rename_i h8
 split at h
 ·simp at h
 split at h
 ·simp at h
 rename_i hr
 split at h
 ·simp at h
 rename_i hc
 rw[List.length_map] at h8 hc
 split at h
 ·rename_i r hr;exact absurd h (kg _ _ _ hr)
 rename_i hi
 split at h
 ·simp at h
 rename_i hn
 rw[List.length_map] at hi
 refine⟨by omega,by omega,by omega,λx hx=>jn _ _ hi _ (List.mem_map.2 ⟨x,hx,rfl⟩),by simpa using hn⟩
theorem mh.tree{la:List (Bool×Int)}{regs par:Int}{cs:List In}(h:mh la regs par cs):∃t:T,cs.map cw=t.flat/\t.wf false 8:=pr _ h.nest
theorem jM:∀op:Nat,op<39->(bZ op).getD 1 false=dM op/\(bZ op).getD 2 false=fV op/\(bZ op).getD 3 false=gJ op:=by decide
structure qy(regs par nA:Int)(x:In):Prop where
 op:0<=x.1/\x.1<39
 to:if(bZ x.1.toNat).getD 1 false=true then 0<=x.2.1/\x.2.1<regs else x.2.1= -1
 a:if Ih x.1=true then 0<=x.2.2.1/\x.2.2.1<regs else x.2.2.1= -1
 b:if Jf x.1=true then 0<=x.2.2.2.1/\x.2.2.2.1<regs else x.2.2.2.1= -1
 arg:x.2.2.2.2<=bV nA par x.1
 isop:gf x.1=true
theorem lu{regs n:Int}{u:Bool}(h:¬aR regs n u=false):if u=true then 0<=n/\n<regs else n= -1:=by
 have h1:aR regs n u=true:=by simpa using h
 unfold aR at h1
 split at h1
 ·rename_i hu;rw[if_pos hu];simpa using h1
 ·rename_i hu;rw[if_neg hu];simpa using h1
theorem rB{regs par nA:Int}{x:In}(h:dl regs par nA (cw x)=0):qy regs par nA x:=by
 unfold dl at h
 split at h
 ·simp at h
 rename_i h1
 split at h
 ·simp at h
 rename_i h2
 simp only[not_or] at h2
 obtain⟨g1,g2,g3,g4⟩:=h2
 have h1':gf x.1=true:=by simpa [cw] using h1
 have hop:0<=x.1/\x.1<39:=by
  simp only[gf,decide_eq_true_eq] at h1'
  omega
 obtain⟨k,hk⟩:∃k:Nat,x.1=(k:Int):=⟨x.1.toNat,by omega⟩
 obtain⟨s1,s2,s3⟩:=jM k (by omega)
 have e:x.1.toNat=k:=by omega
 refine⟨hop,?_,?_,?_,?_,h1'⟩
 ·rw[e,s1,<-hk];exact lu g1
 ·unfold Ih;rw[e,s2,<-hk];exact lu g2
 ·unfold Jf;rw[e,s3,<-hk];exact lu g3
 ·have:(cw x).arg<=bV nA par (cw x).op:=by omega
  exact this
theorem qy.ok{regs:Nat}{par nA:Int}{x:In}(h:qy regs par nA x)(harg:0<=x.2.2.2.2/\x.2.2.2.2<4294967296):u9 regs x:=by
 refine⟨h.op,λhu=>?_,λhu=>?_,?_,harg⟩
 ·have:=h.a;rwa [if_pos hu] at this
 ·have:=h.b;rwa [if_pos hu] at this
 ·have:=h.to
  unfold b8
  split
  ·rename_i hu;rw[if_pos hu] at this;exact this.2
  ·omega
theorem vl(cs:List In)(b:Nat):(cs.getD b ej).1=dF (cs.map cw) b:=(jS cs b).symm
/-! ### the blocks-/
def dh(cs:List In)(pt:List Int)(i:Nat)(op:Int)(d:Nat):Option Nat:=
 if op=27 then some (d+1)
 else if op=28 then(if 0<d then some d else none)
 else if op=29 then(if(i:Int)<=pt.getD i 0/\pt.getD i 0<=cs.length then some d else none)
 else if op=31 then(if 0<=pt.getD i 0/\pt.getD i 0<=i then(if(cs.getD (pt.getD i 0).toNat ej).1=29 then some d else if 0<d then some (d-1) else none) else none)
 else some d
def fm(cs:List In)(pt:List Int):Nat->Nat->Nat->Option Nat
 |0,_,d=>some d
 |n+1,k,d=>(dh cs pt k (cs.getD k ej).1 d).bind (fm cs pt n (k+1))
def qC(pt:List Int)(k:Nat)(l:List Int):Prop:=∀j,j<l.length->pt.getD (k+j) 0=l.getD j 0
theorem qC.head{pt:List Int}{k:Nat}{x:Int}{l:List Int}(h:qC pt k (x::l)):pt.getD k 0=x:=by simpa using h 0 (by simp)
theorem qC.tail{pt:List Int}{k:Nat}{x:Int}{l:List Int}(h:qC pt k (x::l)):qC pt (k+1) l:=λj hj=>by
 have:=h (j+1) (by simp;omega)
 rw[show k+(j+1)=k+1+j by omega] at this
 simpa using this
theorem qC.left{pt:List Int}{k:Nat}{a b:List Int}(h:qC pt k (a++b)):qC pt k a:=λj hj=>by
 rw[h j (by rw[List.length_append];omega),List.getD_eq_getElem?_getD,List.getElem?_append_left hj,<-List.getD_eq_getElem?_getD]
theorem qC.right{pt:List Int}{k:Nat}{a b:List Int}(h:qC pt k (a++b)):qC pt (k+a.length) b:=λj hj=>by
 have:=h (a.length+j) (by rw[List.length_append];omega)
 rw[show k+(a.length+j)=k+a.length+j by omega] at this
 rw[this,List.getD_eq_getElem?_getD,List.getElem?_append_right (by omega),show a.length+j-a.length=j by omega,<-List.getD_eq_getElem?_getD]
theorem dV{cs:List In}{pt:List Int}:∀(t:T) (w:Bool) (dd k:Nat) (e:Int) (m d:Nat),iX (cs.map cw) k t.flat->qC pt k (t.rq k e)->t.wf w dd->k+t.size<=cs.length->
  fm cs pt (t.size+m) k d=fm cs pt m (k+t.size) d
 |.nil,w,dd,k,e,m,d,hc,hp,hw,hl=>by simp[T.size]
 |.plain i r,w,dd,k,e,m,d,hc,hp,hw,hl=>by
  obtain⟨⟨h1,h2,h3,h4⟩,h5,hr⟩:=hw
  have hi:(cs.getD k ej).1=i.op:=by rw[vl];show((cs.map cw).getD k default).op=_;rw[hc.head]
  simp only[T.size] at hl ⊢
  rw[show r.size+1+m=(r.size+m)+1 by omega,fm,hi]
  unfold dh
  rw[if_neg h1,if_neg h2,if_neg h3,if_neg h4,Option.bind_some,dV r w dd (k+1) e m d hc.tail hp.tail hr (by omega),show k+1+r.size=k+(r.size+1) by omega]
 |.ite i a j r,w,dd,k,e,m,d,hc,hp,hw,hl=>by
  obtain⟨h1,h2,h3,ha,hr⟩:=hw
  simp only[T.flat] at hc
  simp only[T.rq] at hp
  have hi:(cs.getD k ej).1=27:=by rw[vl];show((cs.map cw).getD k default).op=_;rw[hc.head,h1]
  have hcj:=hc.tail.right
  rw[a.flat_length] at hcj
  have hj:(cs.getD (k+1+a.size) ej).1=31:=by rw[vl];show((cs.map cw).getD (k+1+a.size) default).op=_;rw[hcj.head,h2]
  have hpj:=hp.tail.right
  rw[a.rq_length] at hpj
  simp only[T.size] at hl ⊢
  rw[show a.size+r.size+2+m=(a.size+(r.size+m+1))+1 by omega,fm,hi]
  unfold dh
  rw[if_pos rfl,Option.bind_some,dV a w (dd-1) (k+1) e (r.size+m+1) (d+1) hc.tail.left hp.tail.left ha (by omega),fm,hj]
  unfold dh
  rw[if_neg (by decide),if_neg (by decide),if_neg (by decide),if_pos rfl,hpj.head,if_pos (by omega),Int.toNat_natCast,hi,if_neg (by decide),if_pos (by omega),Option.bind_some,Nat.add_sub_cancel,
   dV r w dd (k+1+a.size+1) e m d hcj.tail (by have:=hpj.tail;rw[show k+a.size+2=k+1+a.size+1 by omega] at this;exact this) hr (by omega),show k+1+a.size+1+r.size=k+(a.size+r.size+2) by omega]
 |.loop i a j r,w,dd,k,e,m,d,hc,hp,hw,hl=>by
  obtain⟨h1,h2,h3,ha,hr⟩:=hw
  simp only[T.flat] at hc
  simp only[T.rq] at hp
  have hi:(cs.getD k ej).1=29:=by rw[vl];show((cs.map cw).getD k default).op=_;rw[hc.head,h1]
  have hcj:=hc.tail.right
  rw[a.flat_length] at hcj
  have hj:(cs.getD (k+1+a.size) ej).1=31:=by rw[vl];show((cs.map cw).getD (k+1+a.size) default).op=_;rw[hcj.head,h2]
  have hpj:=hp.tail.right
  rw[a.rq_length] at hpj
  simp only[T.size] at hl ⊢
  rw[show a.size+r.size+2+m=(a.size+(r.size+m+1))+1 by omega,fm,hi]
  unfold dh
  rw[if_neg (by decide),if_neg (by decide),if_pos rfl,hp.head,if_pos (by omega),Option.bind_some,dV a true (dd-1) (k+1) _ (r.size+m+1) d hc.tail.left hp.tail.left ha (by omega),fm,hj]
  unfold dh
  rw[if_neg (by decide),if_neg (by decide),if_neg (by decide),if_pos rfl,hpj.head,if_pos (by omega),Int.toNat_natCast,hi,if_pos rfl,Option.bind_some,
   dV r w dd (k+1+a.size+1) e m d hcj.tail (by have:=hpj.tail;rw[show k+a.size+2=k+1+a.size+1 by omega] at this;exact this) hr (by omega),show k+1+a.size+1+r.size=k+(a.size+r.size+2) by omega]
 |.ite2 i a x b j r,w,dd,k,e,m,d,hc,hp,hw,hl=>by
  obtain⟨h1,hx,h2,h3,ha,hb,hr⟩:=hw
  simp only[T.flat] at hc
  simp only[T.rq] at hp
  have hi:(cs.getD k ej).1=27:=by rw[vl];show((cs.map cw).getD k default).op=_;rw[hc.head,h1]
  have hcx:=hc.tail.right
  rw[a.flat_length] at hcx
  have hxo:(cs.getD (k+1+a.size) ej).1=28:=by rw[vl];show((cs.map cw).getD (k+1+a.size) default).op=_;rw[hcx.head,hx]
  have hcj:=hcx.tail.right
  rw[b.flat_length] at hcj
  have hj:(cs.getD (k+1+a.size+1+b.size) ej).1=31:=by rw[vl];show((cs.map cw).getD (k+1+a.size+1+b.size) default).op=_;rw[hcj.head,h2]
  have hpx:=hp.tail.right
  rw[a.rq_length] at hpx
  have hpj:=hpx.tail.right
  rw[b.rq_length] at hpj
  simp only[T.size] at hl ⊢
  rw[show a.size+b.size+r.size+3+m=(a.size+(b.size+(r.size+m+1)+1))+1 by omega,fm,hi]
  unfold dh
  rw[if_pos rfl,Option.bind_some,dV a w (dd-1) (k+1) e (b.size+(r.size+m+1)+1) (d+1) hc.tail.left hp.tail.left ha (by omega),fm,hxo]
  unfold dh
  have r3:k+a.size+2=k+1+a.size+1:=by omega
  have r4:k+a.size+b.size+3=k+1+a.size+1+b.size+1:=by omega
  rw[if_neg (by decide),if_pos rfl,if_pos (by omega),Option.bind_some,dV b w (dd-1) (k+1+a.size+1) e (r.size+m+1) (d+1) hcx.tail.left (by have:=hpx.tail.left;rw[r3] at this;exact this) hb (by omega),fm,hj]
  unfold dh
  rw[if_neg (by decide),if_neg (by decide),if_neg (by decide),if_pos rfl,hpj.head,if_pos (by omega),Int.toNat_natCast,hi,if_neg (by decide),if_pos (by omega),Option.bind_some,Nat.add_sub_cancel,
   dV r w dd (k+1+a.size+1+b.size+1) e m d hcj.tail (by have:=hpj.tail;rw[r4] at this;exact this) hr (by omega),show k+1+a.size+1+b.size+1+r.size=k+(a.size+b.size+r.size+3) by omega]
theorem Ij{cs:List In}{t:T}(ht:cs.map cw=t.flat)(hw:t.wf false 8):fm cs (t.rq 0 0) cs.length 0 0=some 0:=by
 have hl:cs.length=t.size:=by rw[<-t.flat_length,<-ht,List.length_map]
 have:=dV (cs:=cs) (pt:=t.rq 0 0) t false 8 0 0 0 0 (λj hj=>by rw[ht,Nat.zero_add]) (λj hj=>by rw[Nat.zero_add]) hw (by omega)
 rw[hl]
 exact this
/-! ### two walks-/
def zP{S:Type}(f:Nat->In->S->Option S):List In->Nat->S->Option S
 |[],_,s=>some s
 |x::l,i,s=>(f i x s).bind (zP f l (i+1))
theorem mR{F:Type}(D:In->F->Bool)(E:F->F->Bool)(V:In->List F->In×Bool×List F)(cs:List In)(pt:List Int):∀(l:List In) (i:Nat) (s:nq F),bI D E V cs pt l i s=zP (cu D E V cs pt) l i s
 |[],i,s=>rfl
 |x::l,i,s=>by
  unfold bI zP
  congr 1
  funext s
  exact mR D E V cs pt l (i+1) s
theorem IP{S1 S2:Type}{cs:List In}{pt:List Int}{f1:Nat->In->S1->Option S1}{f2:Nat->In->S2->Option S2}(R:Nat->Nat->S1->S2->Prop)
  (h:∀i d d' s1 s2,i<cs.length->dh cs pt i (cs.getD i ej).1 d=some d'->R i d s1 s2->∃a b,f1 i (cs.getD i ej) s1=some a/\f2 i (cs.getD i ej) s2=some b/\R (i+1) d' a b):
  ∀(n k d d':Nat) (s1:S1) (s2:S2),k+n=cs.length->fm cs pt n k d=some d'->R k d s1 s2->∃a b,zP f1 (cs.drop k) k s1=some a/\zP f2 (cs.drop k) k s2=some b/\R cs.length d' a b
 |0,k,d,d',s1,s2,hk,hs,hR=>by
  have:k=cs.length:=by omega
  subst this
  rw[fm] at hs
  cases hs
  rw[List.drop_length]
  exact⟨s1,s2,rfl,rfl,hR⟩
 |n+1,k,d,d',s1,s2,hk,hs,hR=>by
  rw[fm] at hs
  obtain⟨d1,h1,h2⟩:=Option.bind_eq_some_iff.1 hs
  obtain⟨a,b,e1,e2,hR'⟩:=h k d d1 s1 s2 (by omega) h1 hR
  rw[bq (d:=ej) (by omega),zP,zP,e1,e2,Option.bind_some,Option.bind_some]
  exact IP R h n (k+1) d1 d' a b (by omega) h2 hR'
theorem j5{α:Type}(p:α->Bool):∀(l:List α) (k:Nat),(dy p l k<0/\∀f ∈ l,p f=false)\/(∃j,j<l.length/\dy p l k=((k+j:Nat):Int)/\∃f,l[j]? =some f/\p f=true)
 |[],k=> .inl ⟨by simp[dy],λf hf=>by cases hf⟩
 |x::l,k=>by
  unfold dy
  split
  ·rename_i hp
   exact .inr ⟨0,by simp,by simp,x,rfl,hp⟩
  ·rename_i hp
   rcases j5 p l (k+1) with⟨h1,h2⟩|⟨j,h1,h2,f,h3,h4⟩
   ·refine .inl ⟨h1,λf hf=>?_⟩
    rcases List.mem_cons.1 hf with rfl|hf
    ·simpa using hp
    ·exact h2 f hf
   ·exact .inr ⟨j+1,by simp;omega,by rw[h2];congr 1;omega,f,by simpa using h3,h4⟩
def DK(x:In)(f:Int×Int):Bool:=decide (b8 x.1 x.2.1=f.1)
def EK(f g:Int×Int):Bool:=decide (f.1=g.1)&&decide (f.2=g.2)
def VK(x:In)(fs:List (Int×Int)):In×Bool×List (Int×Int):=(bO nk fs x,true,dG (bO nk fs x))
theorem kd(n:Nat)(r m:Int):(r,m) ∈ bP n↔∃q:Nat,r=(q:Int)/\q<n/\m=0:=by
 unfold bP
 simp only[List.mem_map,List.mem_range,Prod.mk.injEq]
 constructor
 ·rintro ⟨q,h1,h2,h3⟩;exact⟨q,h2.symm,h1,h3.symm⟩
 ·rintro ⟨q,h1,h2,h3⟩;exact⟨q,h2,h1.symm,h3.symm⟩
def eU(cs:List In):Prop:=∀x ∈ cs,0<=x.2.2.2.2/\x.2.2.2.2<4294967296
theorem mh.inC{la:List (Bool×Int)}{regs par:Int}{cs:List In}(h:mh la regs par cs):∀x ∈ cs,qy regs par la.length x:=λx hx=>rB (h.ins x hx)
theorem mh.inOk{la:List (Bool×Int)}{regs:Nat}{par:Int}{cs:List In}(h:mh la regs par cs)(ha:eU cs):∀x ∈ cs,u9 regs x:=λx hx=>(h.inC x hx).ok (ha x hx)
theorem mh.opOk{la:List (Bool×Int)}{regs par:Int}{cs:List In}(h:mh la regs par cs):∀x ∈ cs,Proofs.Ytidhfimbnjaceaa.opOk x:=λx hx=>(h.inC x hx).op
def me(cs:List In):List Int:=(dP cs).getD []
theorem mh.pt{la:List (Bool×Int)}{regs par:Int}{cs:List In}(h:mh la regs par cs):dP cs=some (me cs)/\(me cs).length=cs.length/\fm cs (me cs) cs.length 0 0=some 0/\∃t:T,cs.map cw=t.flat/\t.wf false 8/\me cs=t.rq 0 0:=by
 obtain⟨t,ht,hw⟩:=h.tree
 have hp:=nM ht hw
 have he:me cs=t.rq 0 0:=by unfold me;rw[hp];rfl
 rw[he]
 have hl:cs.length=t.size:=by rw[<-t.flat_length,<-ht,List.length_map]
 exact⟨hp,by rw[T.rq_length,hl],Ij ht hw,t,ht,hw,rfl⟩
theorem dY{F:Type}(D:In->F->Bool)(E:F->F->Bool)(V:In->List F->In×Bool×List F){cs:List In}{pt:List Int}(hV:∀x ∈ cs,(x.1=27\/x.1=28\/x.1=29\/x.1=31)->∀fs,(V x fs).2.1=true)(hsh:fm cs pt cs.length 0 0=some 0)(fs0:List F):
  ∃s,bI D E V cs pt cs 0 ⟨[],fs0,[]⟩=some s:=by
 obtain⟨a,b,e1,_,_⟩:=IP (cs:=cs) (pt:=pt) (f1:=cu D E V cs pt) (f2:=λ_ _ (s:Unit)=>some s) (λi d s _=>s.op.length=d) (λi d d' s1 s2 hi hs hR=>by
  have hmem:cs.getD i ej ∈ cs:=by rw[List.getD_eq_getElem?_getD,List.getElem?_eq_getElem hi];exact List.getElem_mem _
  have hv:=hV _ hmem
  generalize cs.getD i ej=x at hs hv ⊢
  obtain⟨out,fs,op⟩:=s1
  simp only at hR
  have hsw:∃q,eF D E cs pt i x.1 fs op=some q/\q.2.length=d':=by
   unfold dh at hs
   unfold eF
   by_cases c27:x.1=27
   ·rw[if_pos c27] at hs ⊢;cases hs;exact⟨_,rfl,by simp[hR]⟩
   rw[if_neg c27] at hs ⊢
   by_cases c28:x.1=28
   ·rw[if_pos c28] at hs ⊢
    split at hs
    rotate_left
    ·cases hs
    cases hs
    cases op with
    |nil=>simp at hR;omega
    |cons t r=>exact⟨_,rfl,by simpa using hR⟩
   rw[if_neg c28] at hs ⊢
   by_cases c29:x.1=29
   ·rw[if_pos c29] at hs ⊢
    split at hs
    rotate_left
    ·cases hs
    rename_i hp
    cases hs
    rw[if_pos hp]
    exact⟨_,rfl,hR⟩
   rw[if_neg c29] at hs ⊢
   by_cases c31:x.1=31
   ·rw[if_pos c31] at hs ⊢
    split at hs
    rotate_left
    ·cases hs
    rename_i hp
    rw[if_pos hp]
    split at hs
    ·rename_i hb
     cases hs
     rw[if_pos hb]
     exact⟨_,rfl,hR⟩
    ·rename_i hb
     rw[if_neg hb]
     split at hs
     rotate_left
     ·cases hs
     cases hs
     cases op with
     |nil=>simp at hR;omega
     |cons t r=>exact⟨_,rfl,by simp at hR ⊢;omega⟩
   rw[if_neg c31] at hs ⊢
   cases hs
   exact⟨_,rfl,hR⟩
  by_cases hr:(V x fs).2.1=true
  ·obtain⟨q,hq,hl⟩:=hsw
   refine⟨_,s2,by unfold cu;simp only[hr,if_true,hq,Option.map_some];rfl,rfl,hl⟩
  ·refine⟨_,s2,by unfold cu;rw[if_neg hr],rfl,?_⟩
   have hns:¬(x.1=27\/x.1=28\/x.1=29\/x.1=31):=λh=>hr (hv h fs)
   unfold dh at hs
   rw[if_neg (by omega),if_neg (by omega),if_neg (by omega),if_neg (by omega)] at hs
   cases hs
   exact hR) cs.length 0 0 0 ⟨[],fs0,[]⟩ () (by omega) hsh rfl
 rw[List.drop_zero] at e1
 exact⟨a,by rw[mR];exact e1⟩
/-! ### Fold-/
def dJ(regs:Nat)(cs:List In):List In:=((bI DK EK VK cs (me cs) cs 0 ⟨[],bP regs,[]⟩).map (·.out)).getD []
theorem jT{fs:List (Int×Int)}(hf:∀f ∈ fs,0<=f.2/\f.2<4294967296):∀{rs vs:List Int},bS fs rs=some vs->∀v ∈ vs,0<=v/\v<4294967296
 |[],vs,h,v,hv=>by simp[bS] at h;subst h;cases hv
 |r::rs,vs,h,v,hv=>by
  rw[bS] at h
  split at h
  ·cases h
  rename_i hi
  obtain⟨ws,hw,rfl⟩:=Option.map_eq_some_iff.1 h
  rcases List.mem_cons.1 hv with rfl|hv
  ·rcases j5 (λf:Int×Int=>decide (f.1=r)) fs 0 with⟨h1,_⟩|⟨j,h1,h2,f,h3,_⟩
   ·exact absurd h1 hi
   ·rw[h2,Int.toNat_natCast,Nat.zero_add,List.getD_eq_getElem?_getD,h3]
    exact hf f (List.mem_of_getElem? h3)
  ·exact jT hf hw v hv
theorem rI{vs:List Int}(h:∀v ∈ vs,0<=v/\v<4294967296)(i:Nat):0<=vs.getD i 0/\vs.getD i 0<4294967296:=by
 rw[List.getD_eq_getElem?_getD]
 cases hi:vs[i]? with
 |none=>simp
 |some v=>exact h v (List.mem_of_getElem? hi)
theorem hP{fs:List (Int×Int)}{x:In}(hf:∀f ∈ fs,0<=f.2/\f.2<4294967296)(hx:Proofs.Ytidhfimbnjaceaa.opOk x)(harg:0<=x.2.2.2.2/\x.2.2.2.2<4294967296):Proofs.Ytidhfimbnjaceaa.opOk (bO nk fs x)/\0<=(bO nk fs x).2.2.2.2/\(bO nk fs x).2.2.2.2<4294967296:=by
 unfold bO
 split
 ·exact⟨hx,harg⟩
 split
 ·exact⟨hx,harg⟩
 ·rename_i vs hv
  have hr:=rI (jT hf hv)
  split
  ·split
   ·exact⟨⟨by simp,by simp⟩,u4 _ _ _ (hr 0) (hr 1)⟩
   ·exact⟨hx,harg⟩
  ·exact⟨⟨by simp,by simp⟩,hr 0⟩
theorem kU{la:List (Bool×Int)}{na:Nat}{ra:Nat->Nat->AV}{regs:Nat}{par:Int}{cs:List In}(h:mh la regs par cs)(ha:eU cs):bj Try.prog 23 [af na ra regs par cs] [.v (.fs 5 (dJ regs cs).length (cC (dJ regs cs)))]:=by
 obtain⟨hp,hpl,hsh,_⟩:=h.pt
 have hr:=h.nregs
 have hn:=h.ncs
 obtain⟨s,hs⟩:=dY DK EK VK (λx hx _ fs=>rfl) hsh (bP regs)
 have he:dJ regs cs=s.out:=by unfold dJ;rw[hs];rfl
 rw[he]
 refine rS rfl (by omega) ?_
 refine iI (rs:=[.o 38 5 s.out.length 0 (cC s.out)]) ?_ rfl
 refine ph (n0:=regs) (pf:=λf=>0<=f.2/\f.2<4294967296) DK VK 35 37 cs (bP regs) (me cs) s ?_ ?_ ?_ ?_ (by omega) h.opOk (by rw[eJ];exact Nat.le_refl _) (by omega) ?_ hp hpl hs
 ·intro x hx f
  obtain⟨op,to,a,b,arg⟩:=x
  exact qa op to a b arg f hx
 ·intro x hx fs hl hf
  exact pZ nk (λop a b h h1 h2=>qp op a b h h1 h2) fs x hl hf (h.opOk x hx)
 ·intro x hx fs hf
  have hk:=hP hf (h.opOk x hx) (ha x hx)
  simp only[VK,dG]
  split
  ·refine⟨by simp,λf hm=>?_⟩
   rw[List.mem_singleton.1 hm]
   exact hk.2
  ·exact⟨by simp,λf hm=>by cases hm⟩
 ·intro x hx fs hf
  exact(hP hf (h.opOk x hx) (ha x hx)).1
 ·intro f hf
  obtain⟨q,_,_,h3⟩:=(kd regs f.1 f.2).1 hf
  omega
/-! ### Copies-/
def gn(cs:List In):List In:=((bI m0 (λf g=>decide (f.1=g.1)&&decide (f.2=g.2)) ep cs (me cs) cs 0 ⟨[],[],[]⟩).map (·.out)).getD []
theorem m8{la:List (Bool×Int)}{na:Nat}{ra:Nat->Nat->AV}{regs par:Int}{cs:List In}(h:mh la regs par cs):bj Try.prog 26 [af na ra regs par cs] [.v (.fs 5 (gn cs).length (cC (gn cs)))]:=by
 obtain⟨hp,hpl,hsh,_⟩:=h.pt
 have hn:=h.ncs
 obtain⟨s,hs⟩:=dY m0 (λf g=>decide (f.1=g.1)&&decide (f.2=g.2)) ep (λx hx hst fs=>by
  unfold ep gm
  rw[if_neg (by omega)]) hsh []
 have he:gn cs=s.out:=by unfold gn;rw[hs];rfl
 rw[he]
 exact iI (od (by omega) h.opOk hp hpl hs) rfl
/-! ### Share-/
def fX(cs:List In):List In:=((bI mZ dR ef cs (me cs) cs 0 ⟨[],[],[]⟩).map (·.out)).getD []
theorem ke{op:Int}(h:op=27\/op=28\/op=29\/op=31):fF op=false:=by
 rcases h with rfl|rfl|rfl|rfl<;>rfl
theorem my{la:List (Bool×Int)}{na:Nat}{ra:Nat->Nat->AV}{regs par:Int}{cs:List In}(h:mh la regs par cs):bj Try.prog 27 [af na ra regs par cs] [.v (.fs 5 (fX cs).length (cC (fX cs)))]:=by
 obtain⟨hp,hpl,hsh,_⟩:=h.pt
 have hn:=h.ncs
 obtain⟨s,hs⟩:=dY mZ dR ef (λx hx hst fs=>by
  unfold ef
  rw[ke hst]
  rfl) hsh []
 have he:fX cs=s.out:=by unfold fX;rw[hs];rfl
 rw[he]
 exact iI (pk (by omega) h.opOk hp hpl hs) rfl
/-! ### Prune-/
def js(fuel regs:Nat)(cs:List In):Option Lv:=rounds cs (me cs) regs fuel (λ_ _=>false)
def fN(fuel regs:Nat)(cs:List In):List In:=match js fuel regs cs with
 |some L=>iQ (cT L cs 0).length (cT L cs 0)
 |none=>[]
theorem pX{cs:List In}{pt:List Int}{i:Nat}(hi:i<cs.length)(hp: -1<=pt.getD i 0/\pt.getD i 0<cs.length):∀nx ∈ iP cs pt i,0<=nx/\nx<=cs.length:=by
 intro nx hm
 unfold iP at hm
 split at hm
 ·simp only[List.mem_singleton] at hm;omega
 split at hm
 ·simp only[List.mem_cons,List.mem_singleton,List.not_mem_nil,or_false] at hm;omega
 ·simp only[List.mem_singleton] at hm;omega
/-! ### the exported functions-/
theorem sH{la:List (Bool×Int)}:∀i j,i<la.length->j<2->(aC la i j).cell=true:=λi j _ hj=>by
 have:j=0\/j=1:=by omega
 rcases this with rfl|rfl<;>rfl
theorem iM{la:List (Bool×Int)}{regs par:Int}{cs cs2:List In}{g:FuncId}(h:mh la regs par cs)(hz:(gF la regs par cs).2=0)(ha:eU cs)(hl:cs2.length<=cs.length)(hg:bj Try.prog g [af la.length (aC la) regs par cs] [.v (.fs 5 cs2.length (cC cs2))]):
  bj Try.prog 22 [af la.length (aC la) regs par cs,.f g [] []] [.v (af la.length (aC la) regs par cs2),.v (.n .i64 0)]:=by
 have hn:=h.ncs
 have hA:=h.nA
 have hc:=kZ la regs par cs (by omega) (by omega) ha
 rw[hz] at hc
 exact nd hc hg (gl (by omega) sH (by omega))
theorem hZ{F:Type}{D:In->F->Bool}{E:F->F->Bool}{V:In->List F->In×Bool×List F}{cs:List In}{pt:List Int}:∀(l:List In) (i:Nat) (s s2:nq F),bI D E V cs pt l i s=some s2->s2.out.length<=s.out.length+l.length
 |[],_,s,s2,h=>by cases h;simp
 |x::l,i,s,s2,h=>by
  rw[bI] at h
  obtain⟨s1,h1,h2⟩:=Option.bind_eq_some_iff.1 h
  have:=hZ l (i+1) s1 s2 h2
  have h3:s1.out.length<=s.out.length+1:=by
   unfold cu at h1
   split at h1
   ·obtain⟨q,_,rfl⟩:=Option.map_eq_some_iff.1 h1
    simp
   ·cases h1;omega
  simp only[List.length_cons]
  omega
theorem gA{regs:Nat}{cs:List In}:(dJ regs cs).length<=cs.length:=by
 unfold dJ
 cases h:bI DK EK VK cs (me cs) cs 0 ⟨[],bP regs,[]⟩ with
 |none=>simp
 |some s=>simpa using hZ _ _ _ _ h
theorem iT{cs:List In}:(gn cs).length<=cs.length:=by
 unfold gn
 cases h:bI m0 (λf g=>decide (f.1=g.1)&&decide (f.2=g.2)) ep cs (me cs) cs 0 ⟨[],[],[]⟩ with
 |none=>simp
 |some s=>simpa using hZ _ _ _ _ h
theorem ic{cs:List In}:(fX cs).length<=cs.length:=by
 unfold fX
 cases h:bI mZ dR ef cs (me cs) cs 0 ⟨[],[],[]⟩ with
 |none=>simp
 |some s=>simpa using hZ _ _ _ _ h
theorem lh{la:List (Bool×Int)}{regs:Nat}{par:Int}{cs:List In}(hz:(gF la regs par cs).2=0)(ha:eU cs):bj Try.prog 11 [af la.length (aC la) regs par cs] [.v (af la.length (aC la) regs par (dJ regs cs)),.v (.n .i64 0)]:=
 tM (iM (b6 hz) hz ha gA (kU (b6 hz) ha))
theorem jq{la:List (Bool×Int)}{regs par:Int}{cs:List In}(hz:(gF la regs par cs).2=0)(ha:eU cs):bj Try.prog 14 [af la.length (aC la) regs par cs] [.v (af la.length (aC la) regs par (gn cs)),.v (.n .i64 0)]:=
 oD (iM (b6 hz) hz ha iT (m8 (b6 hz)))
theorem kp{la:List (Bool×Int)}{regs par:Int}{cs:List In}(hz:(gF la regs par cs).2=0)(ha:eU cs):bj Try.prog 15 [af la.length (aC la) regs par cs] [.v (af la.length (aC la) regs par (fX cs)),.v (.n .i64 0)]:=
 qv (iM (b6 hz) hz ha ic (my (b6 hz)))
/-! ### partners-/
theorem fq{n:Int}:∀(t:T) (k:Nat) (e:Int),(-1<=e/\e<n)->((k+t.size:Nat):Int)<=n->∀x ∈ t.rq k e,-1<=x/\x<n
 |.nil,k,e,he,hk,x,hx=>by cases hx
 |.plain i r,k,e,he,hk,x,hx=>by
  simp only[T.rq,List.mem_cons] at hx
  simp only[T.size] at hk
  rcases hx with rfl|hx
  ·split<;>omega
  ·exact fq r (k+1) e he (by omega) x hx
 |.ite i a j r,k,e,he,hk,x,hx=>by
  simp only[T.rq,List.mem_cons,List.mem_append] at hx
  simp only[T.size] at hk
  rcases hx with rfl|hx|rfl|hx
  ·omega
  ·exact fq a (k+1) e he (by omega) x hx
  ·omega
  ·exact fq r _ e he (by omega) x hx
 |.ite2 i a y b j r,k,e,he,hk,x,hx=>by
  simp only[T.rq,List.mem_cons,List.mem_append] at hx
  simp only[T.size] at hk
  rcases hx with rfl|hx|rfl|hx|rfl|hx
  ·omega
  ·exact fq a (k+1) e he (by omega) x hx
  ·omega
  ·exact fq b _ e he (by omega) x hx
  ·omega
  ·exact fq r _ e he (by omega) x hx
 |.loop i a j r,k,e,he,hk,x,hx=>by
  simp only[T.rq,List.mem_cons,List.mem_append] at hx
  simp only[T.size] at hk
  rcases hx with rfl|hx|rfl|hx
  ·omega
  ·exact fq a (k+1) _ (by omega) (by omega) x hx
  ·omega
  ·exact fq r _ e he (by omega) x hx
theorem vh{cs:List In}{pt:List Int}:∀(n k d d':Nat),fm cs pt n k d=some d'->∀i,k<=i->i<k+n->∃d1 d2,dh cs pt i (cs.getD i ej).1 d1=some d2
 |0,k,d,d',h,i,h1,h2=>by omega
 |n+1,k,d,d',h,i,h1,h2=>by
  rw[fm] at h
  obtain⟨d1,h3,h4⟩:=Option.bind_eq_some_iff.1 h
  by_cases hi:i=k
  ·subst hi;exact⟨d,d1,h3⟩
  ·exact vh n (k+1) d1 d' h4 i (by omega) (by omega)
theorem mh.ptr{la:List (Bool×Int)}{regs par:Int}{cs:List In}(h:mh la regs par cs):∀i,i<cs.length->(-1<=(me cs).getD i 0/\(me cs).getD i 0<cs.length)/\((cs.getD i (0,0,0,0,0)).1=31->0<=(me cs).getD i 0):=by
 obtain⟨hp,hpl,hsh,t,ht,hw,he⟩:=h.pt
 intro i hi
 have hl:cs.length=t.size:=by rw[<-t.flat_length,<-ht,List.length_map]
 constructor
 ·have hm:(me cs).getD i 0 ∈ t.rq 0 0:=by
   rw[<-he,List.getD_eq_getElem?_getD,List.getElem?_eq_getElem (by omega)];exact List.getElem_mem _
  exact fq t 0 0 (by omega) (by omega) _ hm
 ·intro h31
  obtain⟨d1,d2,hs⟩:=vh cs.length 0 0 0 hsh i (by omega) (by omega)
  unfold dh at hs
  have h31':(cs.getD i ej).1=31:=h31
  rw[h31',if_neg (by decide),if_neg (by decide),if_neg (by decide),if_pos rfl] at hs
  split at hs
  ·rename_i hp;exact hp.1
  ·cases hs
/-! ### the rounds-/
def cn(f:Nat->Nat):Nat->Nat
 |0=>0
 |n+1=>cn f n+f n
theorem so{f g:Nat->Nat}:∀n,(∀i,i<n->f i<=g i)->cn f n<=cn g n
 |0,_=>Nat.le_refl _
 |n+1,h=>Nat.add_le_add (so n λi hi=>h i (by omega)) (h n (by omega))
theorem sk{f g:Nat->Nat}:∀n,(∀i,i<n->f i<=g i)->(∃i,i<n/\f i<g i)->cn f n<cn g n
 |0,_,⟨i,hi,_⟩=>by omega
 |n+1,h,⟨i,hi,hlt⟩=>by
  have h1:=so n λi hi=>h i (Nat.lt_succ_of_lt hi)
  have h2:=h n (by omega)
  unfold cn
  by_cases e:i=n
  ·subst e;omega
  ·have:=sk n (λi hi=>h i (Nat.lt_succ_of_lt hi)) ⟨i,by omega,hlt⟩
   omega
theorem sq{f:Nat->Nat}{b:Nat}:∀n,(∀i,i<n->f i<=b)->cn f n<=n*b
 |0,_=>by simp[cn]
 |n+1,h=>by
  have:=sq n λi hi=>h i (Nat.lt_succ_of_lt hi)
  have:=h n (by omega)
  unfold cn
  rw[Nat.succ_mul]
  omega
def lw(regs:Nat)(f:Nat->Bool):Nat:=cn (λr=>if f r=true then 1 else 0) regs
def qB(n regs:Nat)(L:Lv):Nat:=cn (λi=>lw regs (L i)) n
theorem t8{regs:Nat}{f g:Nat->Bool}(h:∀r,f r=true->g r=true):lw regs f<=lw regs g:=by
 refine so _ λi _=>?_
 by_cases hf:f i=true
 ·rw[if_pos hf,if_pos (h i hf)];exact Nat.le_refl _
 ·rw[if_neg hf];exact Nat.zero_le _
theorem t7{regs:Nat}{f g:Nat->Bool}(h:∀r,f r=true->g r=true)(hne:tU regs g f≠true):lw regs f<lw regs g:=by
 have:∃r,r<regs/\g r≠f r:=by
  refine Classical.byContradiction λhc=>hne (lO.2 λr hr=>Classical.byContradiction λhh=>hc ⟨r,hr,hh⟩)
 obtain⟨r,hr,hgf⟩:=this
 refine sk _ (λi _=>?_) ⟨r,hr,?_⟩
 ·by_cases hf:f i=true
  ·rw[if_pos hf,if_pos (h i hf)];exact Nat.le_refl _
  ·rw[if_neg hf];exact Nat.zero_le _
 ·have hf:¬f r=true:=λhf=>hgf (by rw[hf,h r hf])
  have hg:g r=true:=by
   cases hg:g r
   ·have:f r=false:=by simpa using hf
    rw[hg,this] at hgf;exact absurd rfl hgf
   ·rfl
  rw[if_neg hf,if_pos hg];exact Nat.zero_lt_one
theorem t9{regs:Nat}{f:Nat->Bool}:lw regs f<=regs:=by
 have:=sq (f:=λr=>if f r=true then 1 else 0) (b:=1) regs (λi _=>by split<;>omega)
 unfold lw
 omega
theorem kN{cs:List In}{pt:List Int}{L:Lv}{i r:Nat}(h:L i r=true):lD cs pt L i r=true:=by
 unfold lD jV jW
 simp[h]
theorem nz{cs:List In}{pt:List Int}{regs i n:Nat}{s:Lv×Bool}(hi:i<n):qB n regs s.1<=qB n regs (fj cs pt regs i s).1/\((fj cs pt regs i s).2=true->s.2=true\/qB n regs s.1<qB n regs (fj cs pt regs i s).1):=by
 unfold fj
 split
 ·exact⟨Nat.le_refl _,λh=> .inl h⟩
 ·rename_i hne
  have hle:∀q,q<n->lw regs (s.1 q)<=lw regs (upd s.1 i (lD cs pt s.1 i) q):=λq _=>by
   unfold upd
   split
   ·rename_i e;subst e;exact t8 λr hr=>kN hr
   ·exact Nat.le_refl _
  have hlt:qB n regs s.1<qB n regs (upd s.1 i (lD cs pt s.1 i)):=by
   refine sk _ hle ⟨i,hi,?_⟩
   unfold upd
   rw[if_pos rfl]
   exact t7 (λr hr=>kN hr) hne
  exact⟨Nat.le_of_lt hlt,λ_=> .inr hlt⟩
theorem mp{cs:List In}{pt:List Int}{regs n:Nat}:∀(k:Nat) (s:Lv×Bool),k<=n->qB n regs s.1<=qB n regs (fK cs pt regs k s).1/\((fK cs pt regs k s).2=true->s.2=true\/qB n regs s.1<qB n regs (fK cs pt regs k s).1)
 |0,s,_=>⟨Nat.le_refl _,λh=> .inl h⟩
 |k+1,s,hk=>by
  obtain⟨h1,h2⟩:=nz (cs:=cs) (pt:=pt) (regs:=regs) (s:=s) (show k<n by omega)
  obtain⟨h3,h4⟩:=mp (cs:=cs) (pt:=pt) (regs:=regs) k (fj cs pt regs k s) (show k<=n by omega)
  rw[fK]
  refine⟨Nat.le_trans h1 h3,λh=>?_⟩
  rcases h4 h with h5|h5
  ·rcases h2 h5 with h6|h6
   ·exact .inl h6
   ·exact .inr (Nat.lt_of_lt_of_le h6 h3)
  ·exact .inr (Nat.lt_of_le_of_lt h1 h5)
theorem jg{cs:List In}{pt:List Int}{regs:Nat}:∀(f:Nat) (L:Lv),cs.length*regs<f+qB cs.length regs L->∃L',rounds cs pt regs f L=some L'
 |0,L,h=>by
  have:qB cs.length regs L<=cs.length*regs:=sq _ λi _=>t9
  omega
 |f+1,L,h=>by
  rw[rounds]
  split
  ·rename_i hc
   obtain⟨h1,h2⟩:=mp (cs:=cs) (pt:=pt) (regs:=regs) cs.length (L,false) (Nat.le_refl _)
   rcases h2 hc with h3|h3
   ·cases h3
   ·exact jg f _ (by simp only at h3;omega)
  ·exact⟨_,rfl⟩
theorem uv{x:In}{regs:Nat}{par nA:Int}(h:qy regs par nA x)(hi:gN x.1=true):0<=x.2.1/\x.2.1<regs:=by
 have ht:=h.to
 have hs:(bZ x.1.toNat).getD 1 false=true:=by
  obtain⟨k,hk⟩:∃k:Nat,x.1=(k:Int):=⟨x.1.toNat,by have:=h.op;omega⟩
  have hk39:k<39:=by have:=h.op;omega
  rw[hk] at hi ⊢
  rw[Int.toNat_natCast]
  have key:∀k:Nat,k<39->gN (k:Int)=true->(bZ k).getD 1 false=true:=by decide
  exact key k hk39 hi
 rw[if_pos hs] at ht
 exact ht
theorem mB{la:List (Bool×Int)}{regs:Nat}{par:Int}{cs:List In}(fuel:Nat){L:Lv}(h:mh la regs par cs)(ha:eU cs)(hL:js fuel regs cs=some L)
  (hdel:jv (cT L cs 0)≠none->lj Try.prog 42 38):
  bj Try.prog 24 [af la.length (aC la) regs par cs] [.v (.fs 5 (fN fuel regs cs).length (cC (fN fuel regs cs)))]:=by
 obtain⟨hp,hpl,hsh,_⟩:=h.pt
 have hn:=h.ncs
 have hr:=h.nregs
 have hlv:=ro (na:=la.length) (ra:=aC la) (par:=par) (fuel:=fuel) (Lf:=L) (by omega) (by omega) hp hpl (h.inOk ha) h.ptr (λi hi=>pX hi (h.ptr i hi).1) hL
 have he:fN fuel regs cs=iQ (cT L cs 0).length (cT L cs 0):=by unfold fN;rw[hL]
 rw[he]
 exact iI (pq (by omega) (by omega) (h.inOk ha) (λx hx hi=>uv (h.inC x hx) hi) hlv hdel) rfl
theorem uJ{cs:List In}{i d:Nat}:(fO cs i d).length<=cs.length:=by
 unfold fO
 rw[List.length_append,List.length_take,List.length_drop]
 omega
theorem o7:∀(f:Nat) (l:List In),(iQ f l).length<=l.length
 |0,l=>Nat.le_refl _
 |f+1,l=>by
  rw[iQ]
  split
  ·exact Nat.le_refl _
  ·exact Nat.le_trans (o7 f _) uJ
theorem iq{fuel regs:Nat}{cs:List In}:(fN fuel regs cs).length<=cs.length:=by
 unfold fN
 split
 ·exact Nat.le_trans (o7 _ _) (mD _ _ _)
 ·simp
theorem kr{la:List (Bool×Int)}{regs:Nat}{par:Int}{cs:List In}(fuel:Nat){L:Lv}(hz:(gF la regs par cs).2=0)(ha:eU cs)(hL:js fuel regs cs=some L)
  (hdel:jv (cT L cs 0)≠none->lj Try.prog 42 38):
  bj Try.prog 12 [af la.length (aC la) regs par cs] [.v (af la.length (aC la) regs par (fN fuel regs cs)),.v (.n .i64 0)]:=
 qw (iM (b6 hz) hz ha iq (mB fuel (b6 hz) ha hL hdel))
/-! ### Optimize-/
structure b9(la:List (Bool×Int))(regs:Nat)(par:Int)(cs:List In):Prop where
 chk:(gF la regs par cs).2=0
 arg:eU cs
theorem gU{la:List (Bool×Int)}{regs:Nat}{par:Int}{cs:List In}(Good:List In->Prop)(hgood:∀c,Good c->b9 la regs par c)(h1:∀c,Good c->Good (dJ regs c))(h2:∀c,Good c->Good (gn c))(h3:∀c,Good c->Good (fX c))(fuel:Nat)(hL:∀c,Good c->js fuel regs c≠none)
  (h4:∀c,Good c->Good (fN fuel regs c)) (hdel:∀c L,Good c->js fuel regs c=some L->jv (cT L c 0)≠none->lj Try.prog 42 38) (hg:Good cs) (hlen:(hI (λc=>fN fuel regs (fX (gn (dJ regs c)))) 8 cs).length<=cs.length):
  bj Try.prog 16 [af la.length (aC la) regs par cs] [.v (af la.length (aC la) regs par (hI (λc=>fN fuel regs (fX (gn (dJ regs c)))) 8 cs)),.v (.n .i64 0)]:=by
 have hz:=(hgood cs hg).chk
 have hk:=b6 hz
 have hA:=hk.nA
 refine mb (iM hk hz (hgood cs hg).arg hlen ?_)
 refine qV (Good:=Good) (by omega) sH (λc hc=>by have:=(b6 (hgood c hc).chk).ncs;omega) (λc hc=>⟨kU (b6 (hgood c hc).chk) (hgood c hc).arg,h1 c hc⟩) (λc hc=>⟨m8 (b6 (hgood c hc).chk),h2 c hc⟩) (λc hc=>⟨my (b6 (hgood c hc).chk),h3 c hc⟩) (λc hc=>⟨?_,h4 c hc⟩) hg
 cases hLc:js fuel regs c with
 |none=>exact absurd hLc (hL c hc)
 |some L=>exact mB fuel (b6 (hgood c hc).chk) (hgood c hc).arg hLc (hdel c L hc hLc)
theorem ux{P:Program}{f:FuncId}{args l l':List AV}(h:bj P f args (l.map .v))(hc:∀H,gG [] H l l')(hp:l'.all (AV.pu 3)=true):bj P f args (l'.map .v):=by
 refine⟨h.1,λφ w args' hφ ha=>(h.2 φ w args' hφ ha).mono λe w' hq=>?_⟩
 cases e with
 |panicked c=>exact hq.elim
 |outgrown=>exact hq.elim
 |returned u=>
  obtain⟨v,Hc,σ',⟨l2,rfl,hr⟩,hv,hHc,hbel,hfz⟩:=hq
  have hl2:∀{l l2:List AV},jc (l.map RT.v) l2 Hc->l2=l:=λ{l l2}=>by
   intro h
   induction l generalizing l2 with
   |nil=>cases l2 with
    |nil=>rfl
    |cons _ _=>exact h.elim
   |cons x l ih=>cases l2 with
    |nil=>exact h.elim
    |cons y l2=>
     have h1:y=x:=h.1.1
     rw[h1,ih h.2]
  have:=hl2 hr
  subst this
  obtain⟨us,hus,hback⟩:=eN hv
  obtain⟨σ2,q1,q2,q3,q4,q5,q6,q7⟩:=hHc.marks []
  have hd:=(hc Hc).ok hHc q1 q2 q7 hus
  refine⟨_,cZ Hc [],σ2,⟨_,rfl,kq _ hp⟩,hback (hc Hc).len.symm (hd.mono (Sg.bare_le _)),q6,hbel,λc hc=>?_⟩
  rw[q4 c hc];exact hfz c hc
theorem du(op to a b arg:Int):bj Try.prog 10 [.n .i64 op,.n .i64 to,.n .i64 a,.n .i64 b,.n .u32 arg] [.v (aI (op,to,a,b,arg))]:=by
 refine ae aH A9 ⟨by simp,by decide⟩ ?_
 simp only[aV]
 repeat first|with_reducible refine gg ?_|simp only[go_sem,simprocAttr]
 exact ag rfl rfl
theorem cm{cs:List In}:bj Try.prog 9 [.fs 5 cs.length (cC cs)] [.v (af 0 (aC []) 4 0 cs)]:=by
 refine ux (l:=[.agg [.sl0,.n .i64 4,.n .i64 0,.fs 5 cs.length (cC cs)]]) (l':=[af 0 (aC []) 4 0 cs]) ?_ (λH=> .cons (.agg rfl λi v v' h1 h2=>?_) .nil) rfl
 ·refine ae aH Bc ⟨by simp,by decide⟩ ?_
  simp only[aV]
  repeat first|with_reducible refine gg ?_|simp only[go_sem,simprocAttr]
  exact ag rfl rfl
 ·match i,h1,h2 with
  |0,h1,h2=>cases h1;cases h2;exact .sl0 _ _
  |1,h1,h2=>cases h1;cases h2;exact .rfl rfl
  |2,h1,h2=>cases h1;cases h2;exact .rfl rfl
  |3,h1,h2=>cases h1;cases h2;exact .rfl rfl
  |i+4,h1,h2=>cases h1
def cg:List In:=[(0,0,-1,-1,2),(0,1,-1,-1,3),(8,0,0,1,0),(34,-1,0,-1,0)]
def em:List In:=[(0,0,-1,-1,2),(0,1,-1,-1,3),(0,0,-1,-1,5),(34,-1,0,-1,0)]
def gu:List In:=[(0,0,-1,-1,5),(34,-1,0,-1,0)]
def cf:List In:=[(32,1,-1,-1,0),(36,2,1,-1,0),(34,-1,2,-1,0),(34,-1,1,-1,0)]
def ek:List In:=[(32,1,-1,-1,0),(36,2,1,-1,0),(34,-1,1,-1,0),(34,-1,1,-1,0)]
def gr:List In:=[(32,1,-1,-1,0),(34,-1,1,-1,0),(34,-1,1,-1,0)]
def ba:List In:=[(32,0,-1,-1,0),(32,1,-1,-1,0),(8,2,0,1,0),(8,3,0,1,0),(34,-1,3,-1,0)]
def bK:List In:=[(32,0,-1,-1,0),(36,1,0,-1,0),(8,2,0,1,0),(36,3,2,-1,0),(34,-1,3,-1,0)]
def dn:List In:=[(32,0,-1,-1,0),(8,2,0,0,0),(34,-1,2,-1,0)]
def fI:Nat:=8
theorem uS:dJ 4 cg=em:=by kernel_rfl
theorem sL:fN fI 4 em=gu:=by kernel_rfl
theorem qm:gn cf=ek:=by kernel_rfl
theorem qk:fN fI 4 ek=gr:=by kernel_rfl
theorem sK:fX ba=bK:=by kernel_rfl
theorem sM:hI (λc=>fN fI 4 (fX (gn (dJ 4 c)))) 8 ba=dn:=by kernel_rfl
def z9:List (List In):=[ba,bK,[(32,0,-1,-1,0),(32,1,-1,-1,0),(8,3,0,1,0),(34,-1,3,-1,0)],[(32,0,-1,-1,0),(36,1,0,-1,0),(8,2,0,0,0),(36,3,2,-1,0),(34,-1,2,-1,0)],
 [(32,0,-1,-1,0),(36,1,0,-1,0),(8,3,0,1,0),(34,-1,3,-1,0)],dn,[(32,0,-1,-1,0),(36,1,0,-1,0),(8,3,0,0,0),(34,-1,3,-1,0)],[(32,0,-1,-1,0),(8,3,0,0,0),(34,-1,3,-1,0)]]
def Ac(cs:List In):Bool:=cs.all λx=>decide (0<=x.2.2.2.2)&&decide (x.2.2.2.2<4294967296)
theorem iW{cs:List In}(h:Ac cs=true):eU cs:=λx hx=>by
 have:=List.all_eq_true.1 h x hx
 simpa using this
def mQ(cs:List In):Bool:=match js fI 4 cs with
 |some L=>decide (jv (cT L cs 0)=none)
 |none=>false
theorem j6{cs:List In}(h:mQ cs=true):∃L,js fI 4 cs=some L/\jv (cT L cs 0)=none:=by
 unfold mQ at h
 split at h
 ·rename_i L hL;exact⟨L,hL,by simpa using h⟩
 ·cases h
def LP(p:List In->Bool):Bool:=z9.all p
theorem eB{p:List In->Bool}(h:LP p=true){c:List In}(hc:c ∈ z9):p c=true:=List.all_eq_true.1 h c hc
theorem awF:bj Try.prog 11 [af 0 (aC []) 4 0 cg] [.v (af 0 (aC []) 4 0 em),.v (.n .i64 0)]:=by
 have h:=lh (la:=[]) (regs:=4) (par:=0) (cs:=cg) (by kernel_rfl) (iW (by kernel_rfl))
 rw[uS] at h
 exact h
theorem awP{cs cs2:List In}(hz:(gF [] 4 0 cs).2=0)(ha:Ac cs=true)(hh:mQ cs=true)(he:fN fI 4 cs=cs2):bj Try.prog 12 [af 0 (aC []) 4 0 cs] [.v (af 0 (aC []) 4 0 cs2),.v (.n .i64 0)]:=by
 obtain⟨L,hL,hn⟩:=j6 hh
 have h:=kr (la:=[]) (regs:=4) (par:=0) (cs:=cs) fI hz (iW ha) hL (λhne=>absurd hn hne)
 rw[he] at h
 exact h
theorem LO:bj Try.prog 12 [af 0 (aC []) 4 0 em] [.v (af 0 (aC []) 4 0 gu),.v (.n .i64 0)]:=awP (by kernel_rfl) (by kernel_rfl) (by kernel_rfl) sL
theorem awC:bj Try.prog 14 [af 0 (aC []) 4 0 cf] [.v (af 0 (aC []) 4 0 ek),.v (.n .i64 0)]:=by
 have h:=jq (la:=[]) (regs:=4) (par:=0) (cs:=cf) (by kernel_rfl) (iW (by kernel_rfl))
 rw[qm] at h
 exact h
theorem LN:bj Try.prog 12 [af 0 (aC []) 4 0 ek] [.v (af 0 (aC []) 4 0 gr),.v (.n .i64 0)]:=awP (by kernel_rfl) (by kernel_rfl) (by kernel_rfl) qk
theorem awS:bj Try.prog 15 [af 0 (aC []) 4 0 ba] [.v (af 0 (aC []) 4 0 bK),.v (.n .i64 0)]:=by
 have h:=kp (la:=[]) (regs:=4) (par:=0) (cs:=ba) (by kernel_rfl) (iW (by kernel_rfl))
 rw[sK] at h
 exact h
theorem awO:bj Try.prog 16 [af 0 (aC []) 4 0 ba] [.v (af 0 (aC []) 4 0 dn),.v (.n .i64 0)]:=by
 have h:=gU (la:=[]) (regs:=4) (par:=0) (cs:=ba) (λc=>c ∈ z9)
  (λc hc=>⟨of_decide_eq_true (eB (p:=λc=>decide ((gF [] 4 0 c).2=0)) (by kernel_rfl) hc),iW (eB (p:=Ac) (by kernel_rfl) hc)⟩)
  (λc hc=>of_decide_eq_true (eB (p:=λc=>decide (dJ 4 c ∈ z9)) (by kernel_rfl) hc))
  (λc hc=>of_decide_eq_true (eB (p:=λc=>decide (gn c ∈ z9)) (by kernel_rfl) hc))
  (λc hc=>of_decide_eq_true (eB (p:=λc=>decide (fX c ∈ z9)) (by kernel_rfl) hc)) fI
  (λc hc=>by
   obtain⟨L,hL,_⟩:=j6 (eB (p:=mQ) (by kernel_rfl) hc)
   rw[hL];simp)
  (λc hc=>of_decide_eq_true (eB (p:=λc=>decide (fN fI 4 c ∈ z9)) (by kernel_rfl) hc))
  (λc L hc hL hne=>by
   obtain⟨L',hL',hn⟩:=j6 (eB (p:=mQ) (by kernel_rfl) hc)
   rw[hL] at hL'
   cases hL'
   exact absurd hn hne)
  (of_decide_eq_true (by kernel_rfl)) (by rw[sM];exact of_decide_eq_true (by kernel_rfl))
 rw[sM] at h
 exact h
theorem ja(cs:List In)(h:cs.length<1000000):bj Try.prog 13 [af 0 (aC []) 4 0 cs,af 0 (aC []) 4 0 cs] [.v (.b true)]:=by
 have:=qN [] (by decide) 4 0 cs cs h
 rw[decide_eq_true rfl] at this
 exact this
theorem LH{i:Nat}(h:i<4):i=0\/i=1\/i=2\/i=3:=by omega
abbrev gq(cs:List In):List AV:=[.fs 2 0 (aC []),.n .i64 4,.n .i64 0,.fs 5 cs.length (cC cs)]
theorem dC.la{r:Nat->Option Nat}{M:List Nat}{H:AH}{b ty:Nat}{cs:List In}{x:AB}(hx:H.at b=some x:=by simp only[go_sem,simprocAttr]<;>rfl)(h1:x.ty=ty:=by rfl)(h2:x.esz=0:=by rfl)(h3:x.opn=false:=by rfl)(h4:x.size=(gq cs).length:=by rfl)(h5:x.fzn=0:=by rfl)(hM:M.contains b=false:=by rfl)(hl:(gq cs).length<1000000:=by simp)(hg:∀i,i<(gq cs).length->x.get i=(gq cs)[i]?.getD .u:=by intro i hi;rcases LH hi with rfl|rfl|rfl|rfl<;>(simp only[gq,go_sem,simprocAttr];first|done|rfl))(hp:(gq cs).all (AV.pu 3)=true:=by rfl):dC r M H b (aK 0 ty (gq cs)):= .lsti hx h1 h2 h3 h4 h5 hM hl hg hp
abbrev lV(x:In):List AV:=[.n .i64 x.1,.n .i64 x.2.1,.n .i64 x.2.2.1,.n .i64 x.2.2.2.1,.n .u32 x.2.2.2.2]
theorem LF{i:Nat}(h:i<2):i=0\/i=1:=by omega
theorem IM{i:Nat}(h:i<3):i=0\/i=1\/i=2:=by omega
theorem uk{i:Nat}(h:i<4):i=0\/i=1\/i=2\/i=3:=by omega
theorem pF{i:Nat}(h:i<5):i=0\/i=1\/i=2\/i=3\/i=4:=by omega
theorem aO:IntKind.wrap .i64 ((0:Int)+0)=0:=by decide
theorem bm:IntKind.wrap .i64 0=0:=by decide
theorem gB:bj Try.prog 5 [] [.v (.b true)]:=by
 refine ae aH A5 ⟨by simp,by decide⟩ ?_
 simp only[aV]
 repeat first|with_reducible refine gg ?_|simp only[go_sem,simprocAttr]
 refine g5 (du _ _ _ _ _) ?_
 simp only[aI,go_sem,simprocAttr]
 refine g5 (du _ _ _ _ _) ?_
 simp only[aI,go_sem,simprocAttr]
 refine g5 (du _ _ _ _ _) ?_
 simp only[aI,go_sem,simprocAttr]
 refine g5 (du _ _ _ _ _) ?_
 simp only[aI,go_sem,simprocAttr]
 refine ah [0] (fargs:=[.fs 5 cg.length (cC cg)]) (.cons (.sl (x:=_) (by simp) (by simp only[go_sem,simprocAttr]<;>rfl) (by simp only[cg,go_sem,simprocAttr]<;>decide) (by decide) (by simp only[go_sem,simprocAttr]<;>decide) (λi j hi hj=>?_) (λi j _ hj=>bt i hj)) .nil) cm (by simp only[go_sem,simprocAttr]) ?_
 ·rcases uk hi with rfl|rfl|rfl|rfl<;>rcases cD hj with rfl|rfl|rfl|rfl|rfl<;>rfl
 simp only[af,aI,go_sem,simprocAttr]
 refine GA.wk (Wk.mk (L:=[(1,.p 0 0)]) (bl:=[aK 0 25 (gq cg)]) [1] [] ?_ ?_ ?_) ?_
 ·simp only[aZ,a7,go_sem,simprocAttr]
  repeat' refine aa ?_ ?_
  all_goals first|exact dt|skip
 ·exact .cons rfl (.la) (.nil)
 ·simp
 have hF:=awF
 have hP1:=LO
 simp only[af] at hF hP1
 repeat first|with_reducible refine gg ?_|simp only[go_sem,simprocAttr]
 refine g1 hF ?_
 simp only[af,go_sem,simprocAttr]
 refine GA.wk (Wk.mk (L:=[(1,.p 0 0),(2,.p 1 0),(3,.n .i64 0)]) (bl:=[aK 0 25 (gq em),aK 0 25 (gq cg)]) [1,0] [] ?_ ?_ ?_) ?_
 ·simp only[aZ,a7,go_sem,simprocAttr]
  repeat' refine aa ?_ ?_
  all_goals first|exact dt|skip
 ·exact .cons rfl (.la) (.cons rfl (.la) (.nil))
 ·simp
 repeat first|with_reducible refine gg ?_|simp only[go_sem,simprocAttr]
 refine g1 hP1 ?_
 simp only[af,go_sem,simprocAttr]
 refine GA.wk (Wk.mk (L:=[(1,.p 0 0),(2,.p 1 0),(4,.p 2 0),(3,.n .i64 0),(5,.n .i64 0)]) (bl:=[aK 0 25 (gq gu),aK 0 25 (gq em),aK 0 25 (gq cg)]) [2,1,0] [] ?_ ?_ ?_) ?_
 ·simp only[aZ,a7,go_sem,simprocAttr]
  repeat' refine aa ?_ ?_
  all_goals first|exact dt|skip
 ·exact .cons rfl (.la) (.cons rfl (.la) (.cons rfl (.la) (.nil)))
 ·simp
 repeat first|with_reducible refine gg ?_|simp only[go_sem,simprocAttr]
 refine g5 (du _ _ _ _ _) ?_
 simp only[aI,go_sem,simprocAttr]
 refine GA.wk (Wk.mk (L:=[(1,.p 0 0),(2,.p 1 0),(4,.p 2 0),(6,.p 3 0),(3,.n .i64 0),(5,.n .i64 0)]) (bl:=[aK 0 38 (lV (0,0,-1,-1,5)),aK 0 25 (gq gu),aK 0 25 (gq em),aK 0 25 (gq cg)]) [3,2,1,0] [] ?_ ?_ ?_) ?_
 ·simp only[aZ,a7,go_sem,simprocAttr]
  repeat' refine aa ?_ ?_
  all_goals first|exact dt|skip
 ·exact .cons rfl (.lsti (x:=_) (by simp only[go_sem,simprocAttr]<;>rfl) (by rfl) (by rfl) (by rfl) (by rfl) (by rfl) (by rfl) (by simp) (λi hi=>by rcases cD hi with rfl|rfl|rfl|rfl|rfl<;>(simp only[lV,go_sem,simprocAttr];first|done|rfl)) (by rfl)) (.cons rfl (.la) (.cons rfl (.la) (.cons rfl (.la) (.nil))))
 ·simp
 have hl0:(0:Int)<(cg.length:Int):=by decide
 have hp0:(0:Int)<=0:=by decide
 have hn0:Int.toNat 0=0:=rfl
 have hc00:cC cg 0 0= .n .i64 (0):=rfl
 have hc01:cC cg 0 1= .n .i64 (0):=rfl
 have hc02:cC cg 0 2= .n .i64 (-1):=rfl
 have hc03:cC cg 0 3= .n .i64 (-1):=rfl
 have hc04:cC cg 0 4= .n .u32 (2):=rfl
 have hl1:(1:Int)<(cg.length:Int):=by decide
 have hp1:(0:Int)<=1:=by decide
 have hn1:Int.toNat 1=1:=rfl
 have hc10:cC cg 1 0= .n .i64 (0):=rfl
 have hc11:cC cg 1 1= .n .i64 (1):=rfl
 have hc12:cC cg 1 2= .n .i64 (-1):=rfl
 have hc13:cC cg 1 3= .n .i64 (-1):=rfl
 have hc14:cC cg 1 4= .n .u32 (3):=rfl
 have hl3:(3:Int)<(cg.length:Int):=by decide
 have hp3:(0:Int)<=3:=by decide
 have hn3:Int.toNat 3=3:=rfl
 have hc30:cC cg 3 0= .n .i64 (34):=rfl
 have hc31:cC cg 3 1= .n .i64 (-1):=rfl
 have hc32:cC cg 3 2= .n .i64 (0):=rfl
 have hc33:cC cg 3 3= .n .i64 (-1):=rfl
 have hc34:cC cg 3 4= .n .u32 (0):=rfl
 with_reducible refine GA.seq ?_
 with_reducible refine GA.seq ?_
 with_reducible refine GA.mixv aH ?_ ?_
 ·rfl
 try simp only[au,aE,ar,ao,aD,aB,aA,bw,bA,bB,bz,bh,bg,aM,aN,aF,bi,hl0,hp0,hn0,hc00,hc01,hc02,hc03,hc04,hl1,hp1,hn1,hc10,hc11,hc12,hc13,hc14,hl3,hp3,hn3,hc30,hc31,hc32,hc33,hc34,aO,bm,decide_true,decide_false,go_sem,simprocAttr]
 repeat (rw[bp];simp only[au,aE,ar,ao,aD,aB,aA,bw,bA,bB,bz,bh,bg,aM,aN,aF,bi,hl0,hp0,hn0,hc00,hc01,hc02,hc03,hc04,hl1,hp1,hn1,hc10,hc11,hc12,hc13,hc14,hl3,hp3,hn3,hc30,hc31,hc32,hc33,hc34,aO,bm,decide_true,decide_false,go_sem,simprocAttr])
 refine ah [4] (fargs:=[.fs 5 em.length (cC em)]) (.cons (.sl (x:=_) (by simp) (by simp only[go_sem,simprocAttr]<;>rfl) (by simp only[em,go_sem,simprocAttr]<;>decide) (by decide) (by simp only[go_sem,simprocAttr]<;>decide) (λi j hi hj=>?_) (λi j _ hj=>bt i hj)) .nil) cm (by simp only[go_sem,simprocAttr]) ?_
 ·rcases uk hi with rfl|rfl|rfl|rfl<;>rcases cD hj with rfl|rfl|rfl|rfl|rfl<;>rfl
 simp only[af,aI,au,aE,ar,ao,aD,aB,aA,bw,bA,bB,bz,bh,bg,aM,aN,aF,bi,hl0,hp0,hn0,hc00,hc01,hc02,hc03,hc04,hl1,hp1,hn1,hc10,hc11,hc12,hc13,hc14,hl3,hp3,hn3,hc30,hc31,hc32,hc33,hc34,aO,bm,decide_true,decide_false,go_sem,simprocAttr]
 try simp only[au,aE,ar,ao,aD,aB,aA,bw,bA,bB,bz,bh,bg,aM,aN,aF,bi,hl0,hp0,hn0,hc00,hc01,hc02,hc03,hc04,hl1,hp1,hn1,hc10,hc11,hc12,hc13,hc14,hl3,hp3,hn3,hc30,hc31,hc32,hc33,hc34,aO,bm,decide_true,decide_false,go_sem,simprocAttr]
 repeat (rw[bp];simp only[au,aE,ar,ao,aD,aB,aA,bw,bA,bB,bz,bh,bg,aM,aN,aF,bi,hl0,hp0,hn0,hc00,hc01,hc02,hc03,hc04,hl1,hp1,hn1,hc10,hc11,hc12,hc13,hc14,hl3,hp3,hn3,hc30,hc31,hc32,hc33,hc34,aO,bm,decide_true,decide_false,go_sem,simprocAttr])
 refine g2 (by have:=ja em (by decide);simp only[af] at this;exact this) ?_
 try simp only[au,aE,ar,ao,aD,aB,aA,bw,bA,bB,bz,bh,bg,aM,aN,aF,bi,hl0,hp0,hn0,hc00,hc01,hc02,hc03,hc04,hl1,hp1,hn1,hc10,hc11,hc12,hc13,hc14,hl3,hp3,hn3,hc30,hc31,hc32,hc33,hc34,aO,bm,decide_true,decide_false,go_sem,simprocAttr]
 repeat (rw[bp];simp only[au,aE,ar,ao,aD,aB,aA,bw,bA,bB,bz,bh,bg,aM,aN,aF,bi,hl0,hp0,hn0,hc00,hc01,hc02,hc03,hc04,hl1,hp1,hn1,hc10,hc11,hc12,hc13,hc14,hl3,hp3,hn3,hc30,hc31,hc32,hc33,hc34,aO,bm,decide_true,decide_false,go_sem,simprocAttr])
 refine ah [5] (fargs:=[.fs 5 gu.length (cC gu)]) (.cons (.sl (x:=_) (by simp) (by simp only[go_sem,simprocAttr]<;>rfl) (by simp only[gu,go_sem,simprocAttr]<;>decide) (by decide) (by simp only[go_sem,simprocAttr]<;>decide) (λi j hi hj=>?_) (λi j _ hj=>bt i hj)) .nil) cm (by simp only[go_sem,simprocAttr]) ?_
 ·rcases LF hi with rfl|rfl<;>rcases cD hj with rfl|rfl|rfl|rfl|rfl<;>rfl
 simp only[af,aI,au,aE,ar,ao,aD,aB,aA,bw,bA,bB,bz,bh,bg,aM,aN,aF,bi,hl0,hp0,hn0,hc00,hc01,hc02,hc03,hc04,hl1,hp1,hn1,hc10,hc11,hc12,hc13,hc14,hl3,hp3,hn3,hc30,hc31,hc32,hc33,hc34,aO,bm,decide_true,decide_false,go_sem,simprocAttr]
 try simp only[au,aE,ar,ao,aD,aB,aA,bw,bA,bB,bz,bh,bg,aM,aN,aF,bi,hl0,hp0,hn0,hc00,hc01,hc02,hc03,hc04,hl1,hp1,hn1,hc10,hc11,hc12,hc13,hc14,hl3,hp3,hn3,hc30,hc31,hc32,hc33,hc34,aO,bm,decide_true,decide_false,go_sem,simprocAttr]
 repeat (rw[bp];simp only[au,aE,ar,ao,aD,aB,aA,bw,bA,bB,bz,bh,bg,aM,aN,aF,bi,hl0,hp0,hn0,hc00,hc01,hc02,hc03,hc04,hl1,hp1,hn1,hc10,hc11,hc12,hc13,hc14,hl3,hp3,hn3,hc30,hc31,hc32,hc33,hc34,aO,bm,decide_true,decide_false,go_sem,simprocAttr])
 refine g2 (by have:=ja gu (by decide);simp only[af] at this;exact this) ?_
 try simp only[au,aE,ar,ao,aD,aB,aA,bw,bA,bB,bz,bh,bg,aM,aN,aF,bi,hl0,hp0,hn0,hc00,hc01,hc02,hc03,hc04,hl1,hp1,hn1,hc10,hc11,hc12,hc13,hc14,hl3,hp3,hn3,hc30,hc31,hc32,hc33,hc34,aO,bm,decide_true,decide_false,go_sem,simprocAttr]
 repeat (rw[bp];simp only[au,aE,ar,ao,aD,aB,aA,bw,bA,bB,bz,bh,bg,aM,aN,aF,bi,hl0,hp0,hn0,hc00,hc01,hc02,hc03,hc04,hl1,hp1,hn1,hc10,hc11,hc12,hc13,hc14,hl3,hp3,hn3,hc30,hc31,hc32,hc33,hc34,aO,bm,decide_true,decide_false,go_sem,simprocAttr])
 (try simp only[go_sem,simprocAttr])
 iterate 2 (with_reducible refine GA.go aH rfl ?_;try simp only[go_sem,simprocAttr])
 refine GA.wk (Wk.mk (L:=[]) (bl:=[]) [] [] ?_ ?_ ?_) ?_
 ·simp only[aZ,a7,go_sem,simprocAttr]
  repeat' refine aa ?_ ?_
  all_goals first|exact dt|skip
 ·exact True.intro
 ·simp
 clear hF hP1 hl0 hp0 hn0 hc00 hc01 hc02 hc03 hc04 hl1 hp1 hn1 hc10 hc11 hc12 hc13 hc14 hl3 hp3 hn3 hc30 hc31 hc32 hc33 hc34
 repeat first|with_reducible refine gg ?_|simp only[go_sem,simprocAttr]
 refine g5 (du _ _ _ _ _) ?_
 simp only[aI,go_sem,simprocAttr]
 refine g5 (du _ _ _ _ _) ?_
 simp only[aI,go_sem,simprocAttr]
 refine g5 (du _ _ _ _ _) ?_
 simp only[aI,go_sem,simprocAttr]
 refine g5 (du _ _ _ _ _) ?_
 simp only[aI,go_sem,simprocAttr]
 refine ah [0] (fargs:=[.fs 5 cf.length (cC cf)]) (.cons (.sl (x:=_) (by simp) (by simp only[go_sem,simprocAttr]<;>rfl) (by simp only[cf,go_sem,simprocAttr]<;>decide) (by decide) (by simp only[go_sem,simprocAttr]<;>decide) (λi j hi hj=>?_) (λi j _ hj=>bt i hj)) .nil) cm (by simp only[go_sem,simprocAttr]) ?_
 ·rcases uk hi with rfl|rfl|rfl|rfl<;>rcases cD hj with rfl|rfl|rfl|rfl|rfl<;>rfl
 simp only[af,aI,go_sem,simprocAttr]
 refine GA.wk (Wk.mk (L:=[(7,.p 0 0)]) (bl:=[aK 0 25 (gq cf)]) [1] [] ?_ ?_ ?_) ?_
 ·simp only[aZ,a7,go_sem,simprocAttr]
  repeat' refine aa ?_ ?_
  all_goals first|exact dt|skip
 ·exact .cons rfl (.la) (.nil)
 ·simp
 have hF:=awC
 have hP1:=LN
 simp only[af] at hF hP1
 repeat first|with_reducible refine gg ?_|simp only[go_sem,simprocAttr]
 refine g1 hF ?_
 simp only[af,go_sem,simprocAttr]
 refine GA.wk (Wk.mk (L:=[(7,.p 0 0),(8,.p 1 0),(3,.n .i64 0)]) (bl:=[aK 0 25 (gq ek),aK 0 25 (gq cf)]) [1,0] [] ?_ ?_ ?_) ?_
 ·simp only[aZ,a7,go_sem,simprocAttr]
  repeat' refine aa ?_ ?_
  all_goals first|exact dt|skip
 ·exact .cons rfl (.la) (.cons rfl (.la) (.nil))
 ·simp
 repeat first|with_reducible refine gg ?_|simp only[go_sem,simprocAttr]
 refine g1 hP1 ?_
 simp only[af,go_sem,simprocAttr]
 refine GA.wk (Wk.mk (L:=[(7,.p 0 0),(8,.p 1 0),(9,.p 2 0),(3,.n .i64 0),(5,.n .i64 0)]) (bl:=[aK 0 25 (gq gr),aK 0 25 (gq ek),aK 0 25 (gq cf)]) [2,1,0] [] ?_ ?_ ?_) ?_
 ·simp only[aZ,a7,go_sem,simprocAttr]
  repeat' refine aa ?_ ?_
  all_goals first|exact dt|skip
 ·exact .cons rfl (.la) (.cons rfl (.la) (.cons rfl (.la) (.nil)))
 ·simp
 have hl0:(0:Int)<(cf.length:Int):=by decide
 have hp0:(0:Int)<=0:=by decide
 have hn0:Int.toNat 0=0:=rfl
 have hc00:cC cf 0 0= .n .i64 (32):=rfl
 have hc01:cC cf 0 1= .n .i64 (1):=rfl
 have hc02:cC cf 0 2= .n .i64 (-1):=rfl
 have hc03:cC cf 0 3= .n .i64 (-1):=rfl
 have hc04:cC cf 0 4= .n .u32 (0):=rfl
 have hl1:(1:Int)<(cf.length:Int):=by decide
 have hp1:(0:Int)<=1:=by decide
 have hn1:Int.toNat 1=1:=rfl
 have hc10:cC cf 1 0= .n .i64 (36):=rfl
 have hc11:cC cf 1 1= .n .i64 (2):=rfl
 have hc12:cC cf 1 2= .n .i64 (1):=rfl
 have hc13:cC cf 1 3= .n .i64 (-1):=rfl
 have hc14:cC cf 1 4= .n .u32 (0):=rfl
 have hl3:(3:Int)<(cf.length:Int):=by decide
 have hp3:(0:Int)<=3:=by decide
 have hn3:Int.toNat 3=3:=rfl
 have hc30:cC cf 3 0= .n .i64 (34):=rfl
 have hc31:cC cf 3 1= .n .i64 (-1):=rfl
 have hc32:cC cf 3 2= .n .i64 (1):=rfl
 have hc33:cC cf 3 3= .n .i64 (-1):=rfl
 have hc34:cC cf 3 4= .n .u32 (0):=rfl
 with_reducible refine GA.seq ?_
 with_reducible refine GA.reg ?_
 simp only[hl0,hp0,hn0,hc00,hc01,hc02,hc03,hc04,hl1,hp1,hn1,hc10,hc11,hc12,hc13,hc14,hl3,hp3,hn3,hc30,hc31,hc32,hc33,hc34,aO,bm,decide_true,decide_false,go_sem,simprocAttr]
 refine GA.wk (Wk.mk (L:=[(7,.p 0 0),(8,.p 1 0),(9,.p 2 0),(10,.p 3 0),(3,.n .i64 0),(5,.n .i64 0)]) (bl:=[aK 0 38 (lV (34,-1,1,-1,0)),aK 0 25 (gq gr),aK 0 25 (gq ek),aK 0 25 (gq cf)]) [3,2,1,0] [] ?_ ?_ ?_) ?_
 ·simp only[aZ,a7,go_sem,simprocAttr]
  repeat' refine aa ?_ ?_
  all_goals first|exact dt|skip
 ·exact .cons rfl (.lsti (x:=_) (by simp only[go_sem,simprocAttr]<;>rfl) (by rfl) (by rfl) (by rfl) (by rfl) (by rfl) (by rfl) (by simp) (λi hi=>by rcases cD hi with rfl|rfl|rfl|rfl|rfl<;>(simp only[lV,go_sem,simprocAttr];first|done|rfl)) (by rfl)) (.cons rfl (.la) (.cons rfl (.la) (.cons rfl (.la) (.nil))))
 ·simp
 with_reducible refine GA.seq ?_
 with_reducible refine GA.seq ?_
 with_reducible refine GA.mixv aH ?_ ?_
 ·rfl
 try simp only[au,aE,ar,ao,aD,aB,aA,bw,bA,bB,bz,bh,bg,aM,aN,aF,bi,hl0,hp0,hn0,hc00,hc01,hc02,hc03,hc04,hl1,hp1,hn1,hc10,hc11,hc12,hc13,hc14,hl3,hp3,hn3,hc30,hc31,hc32,hc33,hc34,aO,bm,decide_true,decide_false,go_sem,simprocAttr]
 repeat (rw[bp];simp only[au,aE,ar,ao,aD,aB,aA,bw,bA,bB,bz,bh,bg,aM,aN,aF,bi,hl0,hp0,hn0,hc00,hc01,hc02,hc03,hc04,hl1,hp1,hn1,hc10,hc11,hc12,hc13,hc14,hl3,hp3,hn3,hc30,hc31,hc32,hc33,hc34,aO,bm,decide_true,decide_false,go_sem,simprocAttr])
 refine ah [4] (fargs:=[.fs 5 ek.length (cC ek)]) (.cons (.sl (x:=_) (by simp) (by simp only[go_sem,simprocAttr]<;>rfl) (by simp only[ek,go_sem,simprocAttr]<;>decide) (by decide) (by simp only[go_sem,simprocAttr]<;>decide) (λi j hi hj=>?_) (λi j _ hj=>bt i hj)) .nil) cm (by simp only[go_sem,simprocAttr]) ?_
 ·rcases uk hi with rfl|rfl|rfl|rfl<;>rcases cD hj with rfl|rfl|rfl|rfl|rfl<;>rfl
 simp only[af,aI,au,aE,ar,ao,aD,aB,aA,bw,bA,bB,bz,bh,bg,aM,aN,aF,bi,hl0,hp0,hn0,hc00,hc01,hc02,hc03,hc04,hl1,hp1,hn1,hc10,hc11,hc12,hc13,hc14,hl3,hp3,hn3,hc30,hc31,hc32,hc33,hc34,aO,bm,decide_true,decide_false,go_sem,simprocAttr]
 try simp only[au,aE,ar,ao,aD,aB,aA,bw,bA,bB,bz,bh,bg,aM,aN,aF,bi,hl0,hp0,hn0,hc00,hc01,hc02,hc03,hc04,hl1,hp1,hn1,hc10,hc11,hc12,hc13,hc14,hl3,hp3,hn3,hc30,hc31,hc32,hc33,hc34,aO,bm,decide_true,decide_false,go_sem,simprocAttr]
 repeat (rw[bp];simp only[au,aE,ar,ao,aD,aB,aA,bw,bA,bB,bz,bh,bg,aM,aN,aF,bi,hl0,hp0,hn0,hc00,hc01,hc02,hc03,hc04,hl1,hp1,hn1,hc10,hc11,hc12,hc13,hc14,hl3,hp3,hn3,hc30,hc31,hc32,hc33,hc34,aO,bm,decide_true,decide_false,go_sem,simprocAttr])
 refine g2 (by have:=ja ek (by decide);simp only[af] at this;exact this) ?_
 try simp only[au,aE,ar,ao,aD,aB,aA,bw,bA,bB,bz,bh,bg,aM,aN,aF,bi,hl0,hp0,hn0,hc00,hc01,hc02,hc03,hc04,hl1,hp1,hn1,hc10,hc11,hc12,hc13,hc14,hl3,hp3,hn3,hc30,hc31,hc32,hc33,hc34,aO,bm,decide_true,decide_false,go_sem,simprocAttr]
 repeat (rw[bp];simp only[au,aE,ar,ao,aD,aB,aA,bw,bA,bB,bz,bh,bg,aM,aN,aF,bi,hl0,hp0,hn0,hc00,hc01,hc02,hc03,hc04,hl1,hp1,hn1,hc10,hc11,hc12,hc13,hc14,hl3,hp3,hn3,hc30,hc31,hc32,hc33,hc34,aO,bm,decide_true,decide_false,go_sem,simprocAttr])
 refine ah [5] (fargs:=[.fs 5 gr.length (cC gr)]) (.cons (.sl (x:=_) (by simp) (by simp only[go_sem,simprocAttr]<;>rfl) (by simp only[gr,go_sem,simprocAttr]<;>decide) (by decide) (by simp only[go_sem,simprocAttr]<;>decide) (λi j hi hj=>?_) (λi j _ hj=>bt i hj)) .nil) cm (by simp only[go_sem,simprocAttr]) ?_
 ·rcases IM hi with rfl|rfl|rfl<;>rcases cD hj with rfl|rfl|rfl|rfl|rfl<;>rfl
 simp only[af,aI,au,aE,ar,ao,aD,aB,aA,bw,bA,bB,bz,bh,bg,aM,aN,aF,bi,hl0,hp0,hn0,hc00,hc01,hc02,hc03,hc04,hl1,hp1,hn1,hc10,hc11,hc12,hc13,hc14,hl3,hp3,hn3,hc30,hc31,hc32,hc33,hc34,aO,bm,decide_true,decide_false,go_sem,simprocAttr]
 try simp only[au,aE,ar,ao,aD,aB,aA,bw,bA,bB,bz,bh,bg,aM,aN,aF,bi,hl0,hp0,hn0,hc00,hc01,hc02,hc03,hc04,hl1,hp1,hn1,hc10,hc11,hc12,hc13,hc14,hl3,hp3,hn3,hc30,hc31,hc32,hc33,hc34,aO,bm,decide_true,decide_false,go_sem,simprocAttr]
 repeat (rw[bp];simp only[au,aE,ar,ao,aD,aB,aA,bw,bA,bB,bz,bh,bg,aM,aN,aF,bi,hl0,hp0,hn0,hc00,hc01,hc02,hc03,hc04,hl1,hp1,hn1,hc10,hc11,hc12,hc13,hc14,hl3,hp3,hn3,hc30,hc31,hc32,hc33,hc34,aO,bm,decide_true,decide_false,go_sem,simprocAttr])
 refine g2 (by have:=ja gr (by decide);simp only[af] at this;exact this) ?_
 try simp only[au,aE,ar,ao,aD,aB,aA,bw,bA,bB,bz,bh,bg,aM,aN,aF,bi,hl0,hp0,hn0,hc00,hc01,hc02,hc03,hc04,hl1,hp1,hn1,hc10,hc11,hc12,hc13,hc14,hl3,hp3,hn3,hc30,hc31,hc32,hc33,hc34,aO,bm,decide_true,decide_false,go_sem,simprocAttr]
 repeat (rw[bp];simp only[au,aE,ar,ao,aD,aB,aA,bw,bA,bB,bz,bh,bg,aM,aN,aF,bi,hl0,hp0,hn0,hc00,hc01,hc02,hc03,hc04,hl1,hp1,hn1,hc10,hc11,hc12,hc13,hc14,hl3,hp3,hn3,hc30,hc31,hc32,hc33,hc34,aO,bm,decide_true,decide_false,go_sem,simprocAttr])
 (try simp only[go_sem,simprocAttr])
 iterate 2 (with_reducible refine GA.go aH rfl ?_;try simp only[go_sem,simprocAttr])
 refine GA.wk (Wk.mk (L:=[]) (bl:=[]) [] [] ?_ ?_ ?_) ?_
 ·simp only[aZ,a7,go_sem,simprocAttr]
  repeat' refine aa ?_ ?_
  all_goals first|exact dt|skip
 ·exact True.intro
 ·simp
 clear hF hP1 hl0 hp0 hn0 hc00 hc01 hc02 hc03 hc04 hl1 hp1 hn1 hc10 hc11 hc12 hc13 hc14 hl3 hp3 hn3 hc30 hc31 hc32 hc33 hc34
 repeat first|with_reducible refine gg ?_|simp only[go_sem,simprocAttr]
 refine g5 (du _ _ _ _ _) ?_
 simp only[aI,go_sem,simprocAttr]
 refine g5 (du _ _ _ _ _) ?_
 simp only[aI,go_sem,simprocAttr]
 refine g5 (du _ _ _ _ _) ?_
 simp only[aI,go_sem,simprocAttr]
 refine g5 (du _ _ _ _ _) ?_
 simp only[aI,go_sem,simprocAttr]
 refine g5 (du _ _ _ _ _) ?_
 simp only[aI,go_sem,simprocAttr]
 refine ah [0] (fargs:=[.fs 5 ba.length (cC ba)]) (.cons (.sl (x:=_) (by simp) (by simp only[go_sem,simprocAttr]<;>rfl) (by simp only[ba,go_sem,simprocAttr]<;>decide) (by decide) (by simp only[go_sem,simprocAttr]<;>decide) (λi j hi hj=>?_) (λi j _ hj=>bt i hj)) .nil) cm (by simp only[go_sem,simprocAttr]) ?_
 ·rcases pF hi with rfl|rfl|rfl|rfl|rfl<;>rcases cD hj with rfl|rfl|rfl|rfl|rfl<;>rfl
 simp only[af,aI,go_sem,simprocAttr]
 refine GA.wk (Wk.mk (L:=[(11,.p 0 0)]) (bl:=[aK 0 25 (gq ba)]) [1] [] ?_ ?_ ?_) ?_
 ·simp only[aZ,a7,go_sem,simprocAttr]
  repeat' refine aa ?_ ?_
  all_goals first|exact dt|skip
 ·exact .cons rfl (.la) (.nil)
 ·simp
 have hF:=awS
 have hP1:=awO
 simp only[af] at hF hP1
 repeat first|with_reducible refine gg ?_|simp only[go_sem,simprocAttr]
 refine g1 hF ?_
 simp only[af,go_sem,simprocAttr]
 refine GA.wk (Wk.mk (L:=[(11,.p 0 0),(12,.p 1 0),(3,.n .i64 0)]) (bl:=[aK 0 25 (gq bK),aK 0 25 (gq ba)]) [1,0] [] ?_ ?_ ?_) ?_
 ·simp only[aZ,a7,go_sem,simprocAttr]
  repeat' refine aa ?_ ?_
  all_goals first|exact dt|skip
 ·exact .cons rfl (.la) (.cons rfl (.la) (.nil))
 ·simp
 repeat first|with_reducible refine gg ?_|simp only[go_sem,simprocAttr]
 refine g1 hP1 ?_
 simp only[af,go_sem,simprocAttr]
 refine GA.wk (Wk.mk (L:=[(11,.p 0 0),(12,.p 1 0),(13,.p 2 0),(3,.n .i64 0),(5,.n .i64 0)]) (bl:=[aK 0 25 (gq dn),aK 0 25 (gq bK),aK 0 25 (gq ba)]) [2,1,0] [] ?_ ?_ ?_) ?_
 ·simp only[aZ,a7,go_sem,simprocAttr]
  repeat' refine aa ?_ ?_
  all_goals first|exact dt|skip
 ·exact .cons rfl (.la) (.cons rfl (.la) (.cons rfl (.la) (.nil)))
 ·simp
 have hl0:(0:Int)<(ba.length:Int):=by decide
 have hp0:(0:Int)<=0:=by decide
 have hn0:Int.toNat 0=0:=rfl
 have hc00:cC ba 0 0= .n .i64 (32):=rfl
 have hc01:cC ba 0 1= .n .i64 (0):=rfl
 have hc02:cC ba 0 2= .n .i64 (-1):=rfl
 have hc03:cC ba 0 3= .n .i64 (-1):=rfl
 have hc04:cC ba 0 4= .n .u32 (0):=rfl
 have hl2:(2:Int)<(ba.length:Int):=by decide
 have hp2:(0:Int)<=2:=by decide
 have hn2:Int.toNat 2=2:=rfl
 have hc20:cC ba 2 0= .n .i64 (8):=rfl
 have hc21:cC ba 2 1= .n .i64 (2):=rfl
 have hc22:cC ba 2 2= .n .i64 (0):=rfl
 have hc23:cC ba 2 3= .n .i64 (1):=rfl
 have hc24:cC ba 2 4= .n .u32 (0):=rfl
 have hl4:(4:Int)<(ba.length:Int):=by decide
 have hp4:(0:Int)<=4:=by decide
 have hn4:Int.toNat 4=4:=rfl
 have hc40:cC ba 4 0= .n .i64 (34):=rfl
 have hc41:cC ba 4 1= .n .i64 (-1):=rfl
 have hc42:cC ba 4 2= .n .i64 (3):=rfl
 have hc43:cC ba 4 3= .n .i64 (-1):=rfl
 have hc44:cC ba 4 4= .n .u32 (0):=rfl
 have ht:(1:Nat)=1:=rfl
 refine GA.cut (aL [(11,.p 0 0),(12,.p 1 0),(13,.p 2 0),(3,.n .i64 0),(5,.n .i64 0),(14,.p 3 0)]) (aq [aK 0 25 (gq bK),aK 0 25 (gq dn),aK 0 25 (gq bK),aK 0 25 (gq ba)]) ?_ ?_
 ·refine GA.frkm aH 3 (by simp only[ee,go_sem,simprocAttr]) ?_
  simp only[hl0,hp0,hn0,hc00,hc01,hc02,hc03,hc04,hl2,hp2,hn2,hc20,hc21,hc22,hc23,hc24,hl4,hp4,hn4,hc40,hc41,hc42,hc43,hc44,aO,bm,decide_true,decide_false,go_sem,simprocAttr]
  repeat' with_reducible refine aa ?_ ?_
  all_goals (refine g5 (du _ _ _ _ _) ?_;simp only[aI,hl0,hp0,hn0,hc00,hc01,hc02,hc03,hc04,hl2,hp2,hn2,hc20,hc21,hc22,hc23,hc24,hl4,hp4,hn4,hc40,hc41,hc42,hc43,hc44,aO,bm,decide_true,decide_false,go_sem,simprocAttr];repeat' with_reducible refine aa ?_ ?_)
  all_goals (refine g5 (du _ _ _ _ _) ?_;simp only[aI,hl0,hp0,hn0,hc00,hc01,hc02,hc03,hc04,hl2,hp2,hn2,hc20,hc21,hc22,hc23,hc24,hl4,hp4,hn4,hc40,hc41,hc42,hc43,hc44,aO,bm,decide_true,decide_false,go_sem,simprocAttr];repeat' with_reducible refine aa ?_ ?_)
  ·refine ah [3] (fargs:=[.fs 5 bK.length (cC bK)]) (.cons (.sl (x:=_) (by simp) (by simp only[go_sem,simprocAttr]<;>rfl) (by simp only[go_sem,simprocAttr]<;>decide) (by decide) (by simp only[go_sem,simprocAttr]<;>decide) (λi j hi hj=>by rcases pF hi with rfl|rfl|rfl|rfl|rfl<;>rcases cD hj with rfl|rfl|rfl|rfl|rfl<;>rfl) (λi j _ hj=>bt i hj)) .nil) cm (by simp only[go_sem,simprocAttr]) ?_
   simp only[af,aI,hl0,hp0,hn0,hc00,hc01,hc02,hc03,hc04,hl2,hp2,hn2,hc20,hc21,hc22,hc23,hc24,hl4,hp4,hn4,hc40,hc41,hc42,hc43,hc44,aO,bm,decide_true,decide_false,go_sem,simprocAttr]
   repeat' with_reducible refine aa ?_ ?_
   all_goals try decide
   refine Wk.mk [4,2,1,0] [] ?_ ?_ (by simp)
   ·simp only[aZ,a7,go_sem,simprocAttr]
    repeat' refine aa ?_ ?_
    all_goals first|exact dt|skip
   ·exact .cons rfl (.la) (.cons rfl (.la) (.cons rfl (.la) (.cons rfl (.la) .nil)))
  ·refine ah [3] (fargs:=[.fs 5 bK.length (cC bK)]) (.cons (.sl (x:=_) (by simp) (by simp only[go_sem,simprocAttr]<;>rfl) (by simp only[go_sem,simprocAttr]<;>decide) (by decide) (by simp only[go_sem,simprocAttr]<;>decide) (λi j hi hj=>by rcases pF hi with rfl|rfl|rfl|rfl|rfl<;>rcases cD hj with rfl|rfl|rfl|rfl|rfl<;>rfl) (λi j _ hj=>bt i hj)) .nil) cm (by simp only[go_sem,simprocAttr]) ?_
   simp only[af,aI,hl0,hp0,hn0,hc00,hc01,hc02,hc03,hc04,hl2,hp2,hn2,hc20,hc21,hc22,hc23,hc24,hl4,hp4,hn4,hc40,hc41,hc42,hc43,hc44,aO,bm,decide_true,decide_false,go_sem,simprocAttr]
   repeat' with_reducible refine aa ?_ ?_
   all_goals try decide
   refine Wk.mk [4,2,1,0] [] ?_ ?_ (by simp)
   ·simp only[aZ,a7,go_sem,simprocAttr]
    repeat' refine aa ?_ ?_
    all_goals first|exact dt|skip
   ·exact .cons rfl (.la) (.cons rfl (.la) (.cons rfl (.la) (.cons rfl (.la) .nil)))
  ·refine ah [4] (fargs:=[.fs 5 bK.length (cC bK)]) (.cons (.sl (x:=_) (by simp) (by simp only[go_sem,simprocAttr]<;>rfl) (by simp only[go_sem,simprocAttr]<;>decide) (by decide) (by simp only[go_sem,simprocAttr]<;>decide) (λi j hi hj=>by rcases pF hi with rfl|rfl|rfl|rfl|rfl<;>rcases cD hj with rfl|rfl|rfl|rfl|rfl<;>rfl) (λi j _ hj=>bt i hj)) .nil) cm (by simp only[go_sem,simprocAttr]) ?_
   simp only[af,aI,hl0,hp0,hn0,hc00,hc01,hc02,hc03,hc04,hl2,hp2,hn2,hc20,hc21,hc22,hc23,hc24,hl4,hp4,hn4,hc40,hc41,hc42,hc43,hc44,aO,bm,decide_true,decide_false,go_sem,simprocAttr]
   repeat' with_reducible refine aa ?_ ?_
   all_goals try decide
   refine Wk.mk [3,2,1,0] [] ?_ ?_ (by simp)
   ·simp only[aZ,a7,go_sem,simprocAttr]
    repeat' refine aa ?_ ?_
    all_goals first|exact dt|skip
   ·exact .cons rfl (.la) (.cons rfl (.la) (.cons rfl (.la) (.cons rfl (.la) .nil)))
  ·refine ah [4] (fargs:=[.fs 5 bK.length (cC bK)]) (.cons (.sl (x:=_) (by simp) (by simp only[go_sem,simprocAttr]<;>rfl) (by simp only[go_sem,simprocAttr]<;>decide) (by decide) (by simp only[go_sem,simprocAttr]<;>decide) (λi j hi hj=>by rcases pF hi with rfl|rfl|rfl|rfl|rfl<;>rcases cD hj with rfl|rfl|rfl|rfl|rfl<;>rfl) (λi j _ hj=>bt i hj)) .nil) cm (by simp only[go_sem,simprocAttr]) ?_
   simp only[af,aI,hl0,hp0,hn0,hc00,hc01,hc02,hc03,hc04,hl2,hp2,hn2,hc20,hc21,hc22,hc23,hc24,hl4,hp4,hn4,hc40,hc41,hc42,hc43,hc44,aO,bm,decide_true,decide_false,go_sem,simprocAttr]
   repeat' with_reducible refine aa ?_ ?_
   all_goals try decide
   refine Wk.mk [3,2,1,0] [] ?_ ?_ (by simp)
   ·simp only[aZ,a7,go_sem,simprocAttr]
    repeat' refine aa ?_ ?_
    all_goals first|exact dt|skip
   ·exact .cons rfl (.la) (.cons rfl (.la) (.cons rfl (.la) (.cons rfl (.la) .nil)))
  ·refine ah [4] (fargs:=[.fs 5 bK.length (cC bK)]) (.cons (.sl (x:=_) (by simp) (by simp only[go_sem,simprocAttr]<;>rfl) (by simp only[go_sem,simprocAttr]<;>decide) (by decide) (by simp only[go_sem,simprocAttr]<;>decide) (λi j hi hj=>by rcases pF hi with rfl|rfl|rfl|rfl|rfl<;>rcases cD hj with rfl|rfl|rfl|rfl|rfl<;>rfl) (λi j _ hj=>bt i hj)) .nil) cm (by simp only[go_sem,simprocAttr]) ?_
   simp only[af,aI,hl0,hp0,hn0,hc00,hc01,hc02,hc03,hc04,hl2,hp2,hn2,hc20,hc21,hc22,hc23,hc24,hl4,hp4,hn4,hc40,hc41,hc42,hc43,hc44,aO,bm,decide_true,decide_false,go_sem,simprocAttr]
   repeat' with_reducible refine aa ?_ ?_
   all_goals try decide
   refine Wk.mk [3,2,1,0] [] ?_ ?_ (by simp)
   ·simp only[aZ,a7,go_sem,simprocAttr]
    repeat' refine aa ?_ ?_
    all_goals first|exact dt|skip
   ·exact .cons rfl (.la) (.cons rfl (.la) (.cons rfl (.la) (.cons rfl (.la) .nil)))
 with_reducible refine GA.seq ?_
 with_reducible refine GA.mixv aH ?_ ?_
 ·rfl
 try simp only[au,aE,ar,ao,aD,aB,aA,bw,bA,bB,bz,bh,bg,aM,aN,aF,bi,hl0,hp0,hn0,hc00,hc01,hc02,hc03,hc04,hl2,hp2,hn2,hc20,hc21,hc22,hc23,hc24,hl4,hp4,hn4,hc40,hc41,hc42,hc43,hc44,aO,bm,decide_true,decide_false,go_sem,simprocAttr]
 repeat (rw[bp];simp only[au,aE,ar,ao,aD,aB,aA,bw,bA,bB,bz,bh,bg,aM,aN,aF,bi,hl0,hp0,hn0,hc00,hc01,hc02,hc03,hc04,hl2,hp2,hn2,hc20,hc21,hc22,hc23,hc24,hl4,hp4,hn4,hc40,hc41,hc42,hc43,hc44,aO,bm,decide_true,decide_false,go_sem,simprocAttr])
 refine g2 (by have:=ja bK (by decide);simp only[af] at this;exact this) ?_
 try simp only[au,aE,ar,ao,aD,aB,aA,bw,bA,bB,bz,bh,bg,aM,aN,aF,bi,hl0,hp0,hn0,hc00,hc01,hc02,hc03,hc04,hl2,hp2,hn2,hc20,hc21,hc22,hc23,hc24,hl4,hp4,hn4,hc40,hc41,hc42,hc43,hc44,aO,bm,decide_true,decide_false,go_sem,simprocAttr]
 repeat (rw[bp];simp only[au,aE,ar,ao,aD,aB,aA,bw,bA,bB,bz,bh,bg,aM,aN,aF,bi,hl0,hp0,hn0,hc00,hc01,hc02,hc03,hc04,hl2,hp2,hn2,hc20,hc21,hc22,hc23,hc24,hl4,hp4,hn4,hc40,hc41,hc42,hc43,hc44,aO,bm,decide_true,decide_false,go_sem,simprocAttr])
 refine g5 (du _ _ _ _ _) ?_
 simp only[aI,au,aE,ar,ao,aD,aB,aA,bw,bA,bB,bz,bh,bg,aM,aN,aF,bi,hl0,hp0,hn0,hc00,hc01,hc02,hc03,hc04,hl2,hp2,hn2,hc20,hc21,hc22,hc23,hc24,hl4,hp4,hn4,hc40,hc41,hc42,hc43,hc44,aO,bm,decide_true,decide_false,go_sem,simprocAttr]
 try simp only[au,aE,ar,ao,aD,aB,aA,bw,bA,bB,bz,bh,bg,aM,aN,aF,bi,hl0,hp0,hn0,hc00,hc01,hc02,hc03,hc04,hl2,hp2,hn2,hc20,hc21,hc22,hc23,hc24,hl4,hp4,hn4,hc40,hc41,hc42,hc43,hc44,aO,bm,decide_true,decide_false,go_sem,simprocAttr]
 repeat (rw[bp];simp only[au,aE,ar,ao,aD,aB,aA,bw,bA,bB,bz,bh,bg,aM,aN,aF,bi,hl0,hp0,hn0,hc00,hc01,hc02,hc03,hc04,hl2,hp2,hn2,hc20,hc21,hc22,hc23,hc24,hl4,hp4,hn4,hc40,hc41,hc42,hc43,hc44,aO,bm,decide_true,decide_false,go_sem,simprocAttr])
 refine g5 (du _ _ _ _ _) ?_
 simp only[aI,au,aE,ar,ao,aD,aB,aA,bw,bA,bB,bz,bh,bg,aM,aN,aF,bi,hl0,hp0,hn0,hc00,hc01,hc02,hc03,hc04,hl2,hp2,hn2,hc20,hc21,hc22,hc23,hc24,hl4,hp4,hn4,hc40,hc41,hc42,hc43,hc44,aO,bm,decide_true,decide_false,go_sem,simprocAttr]
 try simp only[au,aE,ar,ao,aD,aB,aA,bw,bA,bB,bz,bh,bg,aM,aN,aF,bi,hl0,hp0,hn0,hc00,hc01,hc02,hc03,hc04,hl2,hp2,hn2,hc20,hc21,hc22,hc23,hc24,hl4,hp4,hn4,hc40,hc41,hc42,hc43,hc44,aO,bm,decide_true,decide_false,go_sem,simprocAttr]
 repeat (rw[bp];simp only[au,aE,ar,ao,aD,aB,aA,bw,bA,bB,bz,bh,bg,aM,aN,aF,bi,hl0,hp0,hn0,hc00,hc01,hc02,hc03,hc04,hl2,hp2,hn2,hc20,hc21,hc22,hc23,hc24,hl4,hp4,hn4,hc40,hc41,hc42,hc43,hc44,aO,bm,decide_true,decide_false,go_sem,simprocAttr])
 refine ah [4] (fargs:=[.fs 5 dn.length (cC dn)]) (.cons (.sl (x:=_) (by simp) (by simp only[go_sem,simprocAttr]<;>rfl) (by simp only[dn,go_sem,simprocAttr]<;>decide) (by decide) (by simp only[go_sem,simprocAttr]<;>decide) (λi j hi hj=>?_) (λi j _ hj=>bt i hj)) .nil) cm (by simp only[go_sem,simprocAttr]) ?_
 ·rcases IM hi with rfl|rfl|rfl<;>rcases cD hj with rfl|rfl|rfl|rfl|rfl<;>rfl
 simp only[af,aI,au,aE,ar,ao,aD,aB,aA,bw,bA,bB,bz,bh,bg,aM,aN,aF,bi,hl0,hp0,hn0,hc00,hc01,hc02,hc03,hc04,hl2,hp2,hn2,hc20,hc21,hc22,hc23,hc24,hl4,hp4,hn4,hc40,hc41,hc42,hc43,hc44,aO,bm,decide_true,decide_false,go_sem,simprocAttr]
 try simp only[au,aE,ar,ao,aD,aB,aA,bw,bA,bB,bz,bh,bg,aM,aN,aF,bi,hl0,hp0,hn0,hc00,hc01,hc02,hc03,hc04,hl2,hp2,hn2,hc20,hc21,hc22,hc23,hc24,hl4,hp4,hn4,hc40,hc41,hc42,hc43,hc44,aO,bm,decide_true,decide_false,go_sem,simprocAttr]
 repeat (rw[bp];simp only[au,aE,ar,ao,aD,aB,aA,bw,bA,bB,bz,bh,bg,aM,aN,aF,bi,hl0,hp0,hn0,hc00,hc01,hc02,hc03,hc04,hl2,hp2,hn2,hc20,hc21,hc22,hc23,hc24,hl4,hp4,hn4,hc40,hc41,hc42,hc43,hc44,aO,bm,decide_true,decide_false,go_sem,simprocAttr])
 refine g2 (by have:=ja dn (by decide);simp only[af] at this;exact this) ?_
 try simp only[au,aE,ar,ao,aD,aB,aA,bw,bA,bB,bz,bh,bg,aM,aN,aF,bi,hl0,hp0,hn0,hc00,hc01,hc02,hc03,hc04,hl2,hp2,hn2,hc20,hc21,hc22,hc23,hc24,hl4,hp4,hn4,hc40,hc41,hc42,hc43,hc44,aO,bm,decide_true,decide_false,go_sem,simprocAttr]
 repeat (rw[bp];simp only[au,aE,ar,ao,aD,aB,aA,bw,bA,bB,bz,bh,bg,aM,aN,aF,bi,hl0,hp0,hn0,hc00,hc01,hc02,hc03,hc04,hl2,hp2,hn2,hc20,hc21,hc22,hc23,hc24,hl4,hp4,hn4,hc40,hc41,hc42,hc43,hc44,aO,bm,decide_true,decide_false,go_sem,simprocAttr])
 with_reducible refine GA.ret ?_
 simp only[go_sem,simprocAttr]
 exact ag rfl rfl
/-! ### nesting,by the operations alone-/
def cj:List Int->List NB->Option (List NB)
 |[],o=>some o
 |x::l,o=>(ay x o).bind (cj l)
theorem eO:∀(a b:List Int) (o:List NB),cj (a++b) o=(cj a o).bind (cj b)
 |[],b,o=>rfl
 |x::a,b,o=>by
  rw[List.cons_append,cj,cj,Option.bind_assoc]
  congr 1
  funext o'
  exact eO a b o'
theorem gb:∀(l:List RI) (k:Nat) (o:List NB),(a8 l k o).2=false↔cj (l.map (·.op)) o=some []
 |[],k,o=>by
  simp only[a8,List.map_nil,cj,decide_eq_false_iff_not,Option.some.injEq]
  constructor
  ·intro h;exact List.eq_nil_of_length_eq_zero (by omega)
  ·rintro rfl;simp
 |i::l,k,o=>by
  rw[a8,List.map_cons,cj]
  cases h:ay i.op o with
  |none=>simp
  |some o'=>exact gb l (k+1) o'
theorem oQ(cs:List In):(cs.map cw).map (·.op)=cs.map (·.1):=by
 rw[List.map_map];rfl
def ei(op:Int):Prop:=op≠27/\op≠28/\op≠29/\op≠30/\op≠31
theorem c9{op:Int}(h:ei op)(o:List NB):ay op o=some o:=by
 obtain⟨h1,h2,h3,h4,h5⟩:=h
 unfold ay
 rw[if_neg h1,if_neg h3,if_neg h2,if_neg h4,if_neg h5]
/-! ### what Check asks-/
structure Gd(regs par nA:Int)(x:In):Prop where
 chk:dl regs par nA (cw x)=0
 arg:0<=x.2.2.2.2/\x.2.2.2.2<4294967296
theorem kY{regs spills nA:Int}:∀(l:List RI) (k:Nat),(∀i ∈ l,dl regs spills nA i=0)->cz regs spills nA l k=none
 |[],_,_=>rfl
 |x::l,k,h=>by
  unfold cz
  rw[if_neg (λhn=>hn (h x (List.mem_cons_self ..)))]
  exact kY l (k+1) λi hi=>h i (List.mem_cons_of_mem _ hi)
theorem b9.gd{la:List (Bool×Int)}{regs:Nat}{par:Int}{cs:List In}(h:b9 la regs par cs):∀x ∈ cs,Gd regs par la.length x:=λx hx=>⟨(b6 h.chk).ins x hx,h.arg x hx⟩
theorem b9.nest{la:List (Bool×Int)}{regs:Nat}{par:Int}{cs:List In}(h:b9 la regs par cs):cj (cs.map (·.1)) []=some []:=by
 have:=(gb _ _ _).1 (b6 h.chk).nest
 rwa [oQ] at this
theorem im{la:List (Bool×Int)}{regs:Nat}{par:Int}{cs cs2:List In}(h:b9 la regs par cs)(hl:cs2.length<=cs.length)(hi:∀x ∈ cs2,Gd regs par la.length x)(hn:cj (cs2.map (·.1)) []=some []):b9 la regs par cs2:=by
 refine⟨?_,λx hx=>(hi x hx).arg⟩
 have hz:=h.chk
 have hk:=b6 hz
 have hn2:(a8 (cs2.map cw) 0 []).2=false:=(gb _ _ _).2 (by rw[oQ];exact hn)
 have hc2:cz regs par ((la.map ku).length:Nat) (cs2.map cw) 0=none:=kY _ _ λi hm=>by
  obtain⟨x,hx,rfl⟩:=List.mem_map.1 hm
  rw[List.length_map]
  exact(hi x hx).chk
 have hlen:=hk.ncs
 unfold gF bQ at hz ⊢
 split at hz
 ·simp at hz
 rename_i h8
 rw[if_neg h8]
 split at hz
 ·simp at hz
 rename_i n hn1
 split at hz
 ·simp at hz
 rename_i hr
 rw[if_neg hr,if_neg (by rw[List.length_map];omega),hc2]
 simp only[hn2]
 rfl
/-! ### a walk keeps the nesting-/
variable {F:Type} {D:In->F->Bool} {E:F->F->Bool} {V:In->List F->In×Bool×List F} {cs:List In} {pt:List Int}
theorem Ii{pf:F->Prop}{i:Nat}{op:Int}{fs:List F}{st:List (List F)}{q:List F×List (List F)}(h:eF D E cs pt i op fs st=some q)(h1:∀f ∈ fs,pf f)(h2:∀t ∈ st,∀f ∈ t,pf f):(∀f ∈ q.1,pf f)/\∀t ∈ q.2,∀f ∈ t,pf f:=by
 have hwo:∀xs,∀f ∈ fT D fs xs,pf f:=λxs f hf=>h1 f (List.mem_filter.1 hf).1
 have hbo:∀t,∀f ∈ qj E fs t,pf f:=λt f hf=>h1 f (List.mem_filter.1 hf).1
 unfold eF at h
 split at h
 ·cases h
  exact⟨h1,λt ht=>(List.mem_cons.1 ht).elim (λe=>e ▸ h1) (h2 t)⟩
 split at h
 ·split at h
  ·cases h
   exact⟨h2 _ (List.mem_cons_self ..),λt ht=>(List.mem_cons.1 ht).elim (λe=>e ▸ h1) λh'=>h2 t (List.mem_cons_of_mem _ h')⟩
  ·cases h
 split at h
 ·split at h
  ·cases h;exact⟨hwo _,h2⟩
  ·cases h
 split at h
 ·split at h
  ·split at h
   ·cases h;exact⟨hwo _,h2⟩
   ·split at h
    ·cases h;exact⟨hbo _,λt ht=>h2 t (List.mem_cons_of_mem _ ht)⟩
    ·cases h
  ·cases h
 cases h
 exact⟨h1,h2⟩
theorem eL{pf:F->Prop}{G:In->Prop}
  (hv:∀x ∈ cs,∀fs,(∀f ∈ fs,pf f)->if(V x fs).2.1=true then G (V x fs).1/\(∀o,ay (V x fs).1.1 o=ay x.1 o)/\∀f ∈ (V x fs).2.2,pf f else ei x.1):
  ∀(l:List In) (i:Nat) (s s2:nq F),(∀x ∈ l,x ∈ cs)->bI D E V cs pt l i s=some s2->(∀f ∈ s.fs,pf f)->(∀t ∈ s.op,∀f ∈ t,pf f)->
   ∃l2:List In,s2.out=s.out++l2/\(∀y ∈ l2,G y)/\∀o,cj (l2.map (·.1)) o=cj (l.map (·.1)) o
 |[],i,s,s2,_,h,_,_=>by
  cases h
  exact⟨[],by simp,(λy hy=>by cases hy),λo=>rfl⟩
 |x::l,i,s,s2,hm,h,h1,h2=>by
  rw[bI] at h
  obtain⟨s1,hs,h⟩:=Option.bind_eq_some_iff.1 h
  have hx:=hv x (hm x (List.mem_cons_self ..)) s.fs h1
  unfold cu at hs
  split at hs
  ·rename_i hr
   rw[if_pos hr] at hx
   obtain⟨hG,hne,hpf⟩:=hx
   obtain⟨q,hq,rfl⟩:=Option.map_eq_some_iff.1 hs
   obtain⟨g1,g2⟩:=Ii hq h1 h2
   obtain⟨l2,e1,e2,e3⟩:=eL hv l (i+1) _ s2 (λy hy=>hm y (List.mem_cons_of_mem _ hy)) h (λf hf=>by
    rcases List.mem_append.1 hf with hf|hf
    ·exact g1 f (List.mem_filter.1 hf).1
    ·exact hpf f hf) g2
   refine⟨(V x s.fs).1::l2,by rw[e1];simp,λy hy=>(List.mem_cons.1 hy).elim (λe=>e ▸ hG) (e2 y),λo=>?_⟩
   rw[List.map_cons,List.map_cons,cj,cj,hne]
   congr 1
   funext o'
   exact e3 o'
  ·rename_i hr
   rw[if_neg hr] at hx
   cases hs
   obtain⟨l2,e1,e2,e3⟩:=eL hv l (i+1) _ s2 (λy hy=>hm y (List.mem_cons_of_mem _ hy)) h h1 h2
   refine⟨l2,e1,e2,λo=>?_⟩
   rw[List.map_cons,cj,c9 hx,Option.bind_some]
   exact e3 o
/-! ### the instructions that passes make-/
theorem qy.gd{regs par nA:Int}{x:In}(h:qy regs par nA x)(ha:0<=x.2.2.2.2/\x.2.2.2.2<4294967296):Gd regs par nA x:=by
 refine⟨?_,ha⟩
 obtain⟨k,hk⟩:∃k:Nat,x.1=(k:Int):=⟨x.1.toNat,by have:=h.op;omega⟩
 obtain⟨s1,s2,s3⟩:=jM k (by have:=h.op;omega)
 have rr:∀(n:Int) (u v:Bool),u=v->(if v=true then 0<=n/\n<regs else n= -1)->aR regs n u=true:=by
  rintro n u v rfl hv
  unfold aR
  cases u<;>simp_all
 have e:x.1.toNat=k:=by omega
 have t1:=rr x.2.1 (dM x.1) _ (by rw[e,s1,<-hk]) h.to
 have t2:=rr x.2.2.1 (fV x.1) _ (by unfold Ih;rw[e,s2,<-hk]) h.a
 have t3:=rr x.2.2.2.1 (gJ x.1) _ (by unfold Jf;rw[e,s3,<-hk]) h.b
 have t4:=h.arg
 have t5:=h.isop
 unfold dl
 rw[if_neg (show ¬gf (cw x).op=false by show ¬gf x.1=false;rw[t5];simp),if_neg ?_]
 show ¬(aR regs x.2.1 (dM x.1)=false\/aR regs x.2.2.1 (fV x.1)=false\/aR regs x.2.2.2.1 (gJ x.1)=false\/bV nA par x.1<x.2.2.2.2)
 rw[t1,t2,t3];simp;omega
theorem Gd.inC{regs par nA:Int}{x:In}(h:Gd regs par nA x):qy regs par nA x:=rB h.chk
theorem kl{op:Int}(h:ce op=true):ei op:=by
 obtain⟨h1,h2⟩:=k9 h
 exact⟨by omega,by omega,by omega,by omega,by omega⟩
theorem mY{op:Int}(h:fF op=true):ei op:=by
 unfold fF at h
 simp only[Bool.or_eq_true,decide_eq_true_eq] at h
 rcases h with((h|h)|h)|h
 ·exact kl h
 all_goals subst h;exact⟨by decide,by decide,by decide,by decide,by decide⟩
theorem n8:ei 0:=⟨by decide,by decide,by decide,by decide,by decide⟩
theorem jD:ei 36:=⟨by decide,by decide,by decide,by decide,by decide⟩
theorem uH:ei 38:=⟨by decide,by decide,by decide,by decide,by decide⟩
theorem vg{op:Int}(h0:0<=op)(h:ce op=true\/op=36):(bZ op.toNat).getD 1 false=true:=by
 have key:∀k:Nat,k<39->(ce (k:Int)=true\/(k:Int)=36)->(bZ k).getD 1 false=true:=by decide
 rcases h with h|h
 ·obtain⟨h1,h2⟩:=k9 h
  exact key op.toNat (by omega) (.inl (by rw[show((op.toNat:Nat):Int)=op by omega];exact h))
 ·exact key op.toNat (by omega) (.inr (by omega))
/-! ### Fold-/
theorem pY{regs:Nat}{par nA:Int}{x:In}(hx:Gd regs par nA x)(fs:List (Int×Int))(hf:∀f ∈ fs,0<=f.2/\f.2<4294967296):
  Gd regs par nA (bO nk fs x)/\(∀o,ay (bO nk fs x).1 o=ay x.1 o)/\∀f ∈ dG (bO nk fs x),0<=f.2/\f.2<4294967296:=by
 have hc:=hx.inC
 have hop:Proofs.Ytidhfimbnjaceaa.opOk x:=hc.op
 have hok:=(hP hf hop hx.arg).2
 have h3:∀f ∈ dG (bO nk fs x),0<=f.2/\f.2<4294967296:=λf hm=>by
  unfold dG at hm
  split at hm
  ·rw[List.mem_singleton.1 hm];exact hok
  ·cases hm
 refine⟨?_,?_,h3⟩
 ·
  have push:∀n:Int,0<=n/\n<4294967296->(ce x.1=true\/x.1=36)->Gd regs par nA (0,x.2.1,-1,-1,n):=λn hn h=>by
   have ht:=hc.to
   rw[if_pos (vg hc.op.1 h)] at ht
   refine qy.gd ⟨by simp,?_,?_,?_,?_,rfl⟩ hn
   ·exact ht
   ·exact rfl
   ·exact rfl
   ·show n<=bV nA par 0
    unfold bV
    rw[if_pos rfl];omega
  revert hok
  unfold bO
  split
  ·intro _;exact hx
  rename_i h1
  have h2:ce x.1=true\/x.1=36:=by
   simp only[Bool.and_eq_true,Bool.not_eq_true',decide_eq_false_iff_not,not_and,Classical.not_not] at h1
   cases ha:ce x.1
   ·exact .inr (h1 ha)
   ·exact .inl rfl
  split
  ·intro _;exact hx
  split
  ·split
   ·intro h;exact push _ h h2
   ·intro _;exact hx
  ·intro h;exact push _ h h2
 ·intro o
  unfold bO
  split
  ·rfl
  rename_i h1
  have hfl:ei x.1:=by
   cases ha:ce x.1
   ·have:x.1=36:=by simpa [ha] using h1
    rw[this];exact jD
   ·exact kl ha
  split
  ·rfl
  split
  ·split
   ·rw[c9 hfl,c9 n8]
   ·rfl
  ·rw[c9 hfl,c9 n8]
theorem eA{la:List (Bool×Int)}{regs:Nat}{par:Int}{cs:List In}(h:b9 la regs par cs):b9 la regs par (dJ regs cs):=by
 obtain⟨_,_,hsh,_⟩:=(b6 h.chk).pt
 obtain⟨s,hs⟩:=dY DK EK VK (λx hx _ fs=>rfl) hsh (bP regs)
 have he:dJ regs cs=s.out:=by unfold dJ;rw[hs];rfl
 obtain⟨l2,e1,e2,e3⟩:=eL (pf:=λf=>0<=f.2/\f.2<4294967296) (G:=Gd regs par la.length) (λx hx fs hf=>by
  rw[if_pos (show(VK x fs).2.1=true from rfl)]
  exact pY (h.gd x hx) fs hf) cs 0 _ s (λx hx=>hx) hs (λf hf=>by
   obtain⟨q,_,_,h3⟩:=(kd regs f.1 f.2).1 hf
   omega) (by simp)
 refine im h gA ?_ ?_
 ·rw[he,e1];simpa using e2
 ·rw[he,e1]
  simp only[List.nil_append]
  rw[e3,h.nest]
/-! ### Copies-/
theorem mq{regs:Nat}{fs:List (Int×Int)}(hf:∀f ∈ fs,(0<=f.1/\f.1<regs)/\0<=f.2/\f.2<regs)(r:Int):(0<=r/\r<regs->0<=dN fs r/\dN fs r<regs)/\(r= -1->dN fs r= -1):=by
 induction fs with
 |nil=>exact⟨λh=>h,λh=>h⟩
 |cons f l ih=>
  have ih:=ih λg hg=>hf g (List.mem_cons_of_mem _ hg)
  have h1:=hf f (List.mem_cons_self ..)
  rw[dN]
  split
  ·exact⟨λ_=>h1.2,λh=>by omega⟩
  ·exact ih
theorem si{regs:Nat}{par nA:Int}{x:In}(hx:Gd regs par nA x)(fs:List (Int×Int))(hf:∀f ∈ fs,(0<=f.1/\f.1<regs)/\0<=f.2/\f.2<regs):
  if(ep x fs).2.1=true then Gd regs par nA (ep x fs).1/\(∀o,ay (ep x fs).1.1 o=ay x.1 o)/\∀f ∈ (ep x fs).2.2,(0<=f.1/\f.1<regs)/\0<=f.2/\f.2<regs else ei x.1:=by
 have hc:=hx.inC
 have ra:=mq hf x.2.2.1
 have rb:=mq hf x.2.2.2.1
 have gd:Gd regs par nA (x.1,x.2.1,dN fs x.2.2.1,dN fs x.2.2.2.1,x.2.2.2.2):=by
  refine qy.gd ⟨hc.op,hc.to,?_,?_,hc.arg,hc.isop⟩ hx.arg
  ·have:=hc.a
   simp only
   split
   ·rename_i hu;rw[if_pos hu] at this;exact ra.1 this
   ·rename_i hu;rw[if_neg hu] at this;exact ra.2 this
  ·have:=hc.b
   simp only
   split
   ·rename_i hu;rw[if_pos hu] at this;exact rb.1 this
   ·rename_i hu;rw[if_neg hu] at this;exact rb.2 this
 unfold ep gm
 by_cases h36:x.1=36
 ·rw[if_pos h36]
  by_cases e:dN fs x.2.2.1=x.2.1
  ·rw[if_pos e,if_neg (by simp),h36];exact jD
  ·rw[if_neg e,if_pos rfl]
   refine⟨gd,λo=>rfl,λf hm=>?_⟩
   rw[List.mem_singleton.1 hm]
   have ht:=hc.to
   rw[if_pos (vg hc.op.1 (.inr h36))] at ht
   have:=hc.a
   rw[h36,if_pos (show Ih 36=true from Ig.1)] at this
   exact⟨ht,ra.1 this⟩
 ·rw[if_neg h36,if_pos rfl]
  exact⟨gd,λo=>rfl,λf hm=>by cases hm⟩
theorem fG{la:List (Bool×Int)}{regs:Nat}{par:Int}{cs:List In}(h:b9 la regs par cs):b9 la regs par (gn cs):=by
 obtain⟨_,_,hsh,_⟩:=(b6 h.chk).pt
 obtain⟨s,hs⟩:=dY m0 (λf g=>decide (f.1=g.1)&&decide (f.2=g.2)) ep (λx hx hst fs=>by
  unfold ep gm
  rw[if_neg (by omega)]) hsh []
 have he:gn cs=s.out:=by unfold gn;rw[hs];rfl
 obtain⟨l2,e1,e2,e3⟩:=eL (pf:=λf=>(0<=f.1/\f.1<(regs:Int))/\0<=f.2/\f.2<(regs:Int)) (G:=Gd regs par la.length) (λx hx fs hf=>si (h.gd x hx) fs hf) cs 0 _ s (λx hx=>hx) hs (λf hf=>by cases hf) (by simp)
 refine im h iT ?_ ?_
 ·rw[he,e1];simpa using e2
 ·rw[he,e1]
  simp only[List.nil_append]
  rw[e3,h.nest]
/-! ### Share-/
theorem zS:∀k:Nat,k<39->fF (k:Int)=true->(bZ k).getD 1 false=true:=by decide
theorem qy.expTo{regs par nA:Int}{x:In}(h:qy regs par nA x)(he:fF x.1=true):0<=x.2.1/\x.2.1<regs:=by
 have:=h.to
 obtain⟨k,hk⟩:∃k:Nat,x.1=(k:Int):=⟨x.1.toNat,by have:=h.op;omega⟩
 rw[hk] at he
 rw[hk,Int.toNat_natCast,if_pos (zS k (by have:=h.op;omega) he)] at this
 exact this
theorem qK{regs:Nat}{par nA:Int}{x:In}(hx:Gd regs par nA x)(fs:List In)(hf:∀f ∈ fs,0<=f.2.1/\f.2.1<regs):
  if(ef x fs).2.1=true then Gd regs par nA (ef x fs).1/\(∀o,ay (ef x fs).1.1 o=ay x.1 o)/\∀f ∈ (ef x fs).2.2,0<=f.2.1/\f.2.1<regs else ei x.1:=by
 have hc:=hx.inC
 unfold ef
 by_cases he:fF x.1=true
 ·have hto:=hc.expTo he
  have hfl:=mY he
  rw[if_pos he]
  by_cases hi:0<=dy (λf=>iU f x) fs 0
  ·have hm:0<=(fs.getD (dy (λf=>iU f x) fs 0).toNat (0,0,0,0,0)).2.1/\(fs.getD (dy (λf=>iU f x) fs 0).toNat (0,0,0,0,0)).2.1<regs:=by
    rcases j5 (λf=>iU f x) fs 0 with⟨h1,_⟩|⟨j,hj,h1,f,h3,_⟩
    ·omega
    ·rw[h1,Int.toNat_natCast,Nat.zero_add,List.getD_eq_getElem?_getD,h3]
     exact hf f (List.mem_of_getElem? h3)
   rw[if_pos hi]
   generalize (fs.getD (dy (λf=>iU f x) fs 0).toNat (0,0,0,0,0)).2.1=z at hm ⊢
   by_cases hz:z=x.2.1
   ·rw[if_pos hz,if_neg (by simp)];exact hfl
   ·rw[if_neg hz,if_pos rfl]
    refine⟨qy.gd ⟨by simp,hto,hm,rfl,by show(0:Int)<=bV nA par 36;unfold bV;simp,rfl⟩ (by simp),λo=>?_,λf hm=>by cases hm⟩
    rw[c9 hfl,c9 jD]
  ·rw[if_neg hi]
   by_cases hq:x.2.1=x.2.2.1\/x.2.1=x.2.2.2.1
   ·rw[if_pos hq,if_pos rfl];exact⟨hx,λo=>rfl,λf hm=>by cases hm⟩
   ·rw[if_neg hq,if_pos rfl]
    exact⟨hx,λo=>rfl,λf hm=>by rw[List.mem_singleton.1 hm];exact hto⟩
 ·rw[if_neg he,if_pos rfl]
  exact⟨hx,λo=>rfl,λf hm=>by cases hm⟩
theorem fk{la:List (Bool×Int)}{regs:Nat}{par:Int}{cs:List In}(h:b9 la regs par cs):b9 la regs par (fX cs):=by
 obtain⟨_,_,hsh,_⟩:=(b6 h.chk).pt
 obtain⟨s,hs⟩:=dY mZ dR ef (λx hx hst fs=>by
  unfold ef
  rw[ke hst]
  rfl) hsh []
 have he:fX cs=s.out:=by unfold fX;rw[hs];rfl
 obtain⟨l2,e1,e2,e3⟩:=eL (pf:=λf=>0<=f.2.1/\f.2.1<(regs:Int)) (G:=Gd regs par la.length) (λx hx fs hf=>qK (h.gd x hx) fs hf) cs 0 _ s (λx hx=>hx) hs (λf hf=>by cases hf) (by simp)
 refine im h ic ?_ ?_
 ·rw[he,e1];simpa using e2
 ·rw[he,e1]
  simp only[List.nil_append]
  rw[e3,h.nest]
/-! ### Prune-/
theorem mC{L:Lv}:∀(l:List In) (i:Nat),∀x ∈ cT L l i,x ∈ l
 |[],_,x,h=>h
 |y::l,i,x,h=>by
  unfold cT at h
  rcases List.mem_append.1 h with h|h
  ·split at h
   ·rw[List.mem_singleton.1 h];exact List.mem_cons_self ..
   ·cases h
  ·exact List.mem_cons_of_mem _ (mC l (i+1) x h)
theorem pP{op:Int}(h:gN op=true):ei op:=by
 unfold gN at h
 simp only[Bool.or_eq_true,decide_eq_true_eq] at h
 rcases h with((h|h)|h)|h
 ·exact mY h
 ·subst h;exact n8
 ·subst h;exact jD
 ·subst h;exact uH
theorem i5{L:Lv}:∀(l:List In) (i:Nat) (o:List NB),cj ((cT L l i).map (·.1)) o=cj (l.map (·.1)) o
 |[],_,o=>rfl
 |x::l,i,o=>by
  unfold cT
  rw[List.map_append,eO,List.map_cons,cj]
  split
  ·rw[List.map_cons,List.map_nil,cj,Option.bind_assoc]
   congr 1
   funext o'
   exact i5 l (i+1) o'
  ·rename_i hk
   have hi:gN x.1=true:=by
    unfold ez at hk
    simp only[Bool.or_eq_true,not_or,Bool.not_eq_true,Bool.not_eq_false'] at hk
    exact hk.1
   rw[c9 (pP hi)]
   exact i5 l (i+1) o
theorem kQ{cs:List In}:∀{f k i:Nat},gP cs f k=some i->rE cs i=true
 |0,k,i,h=>by cases h
 |f+1,k,i,h=>by
  rw[gP] at h
  split at h
  ·split at h
   ·rename_i hh;cases h;exact hh
   ·exact kQ h
  ·cases h
theorem sa{l:List In}{i:Nat}(h:jv l=some i){o o2:List NB}(hn:cj (l.map (·.1)) o=some o2):cj ((fO l i (uK l i)).map (·.1)) o=some o2:=by
 have hlt:=j7 h
 have hh:=kQ h
 have hl:l=l.take i++l.getD i (0,0,0,0,0)::l.getD (i+1) (0,0,0,0,0)::l.drop (i+2):=by
  rw[<-bq (d:=(0,0,0,0,0)) (show i+1<l.length by omega),<-bq (d:=(0,0,0,0,0)) (show i<l.length by omega),List.take_append_drop]
 have h1:(l.getD (i+1) (0,0,0,0,0)).1=31:=by
  unfold rE at hh
  simp only[Bool.and_eq_true,decide_eq_true_eq] at hh
  exact hh.1
 have h2:(l.getD i (0,0,0,0,0)).1=27\/(l.getD i (0,0,0,0,0)).1=29\/(l.getD i (0,0,0,0,0)).1=28:=by
  unfold rE at hh
  simp only[Bool.and_eq_true,Bool.or_eq_true,decide_eq_true_eq] at hh
  omega
 have ho:l.map (·.1)=(l.take i).map (·.1)++(l.getD i (0,0,0,0,0)).1::(l.getD (i+1) (0,0,0,0,0)).1::(l.drop (i+2)).map (·.1):=by
  conv=>lhs;rw[hl]
  simp only[List.map_append,List.map_cons]
 rw[ho,eO,h1] at hn
 obtain⟨o1,g1,g2⟩:=Option.bind_eq_some_iff.1 hn
 rw[cj] at g2
 obtain⟨o3,g3,g4⟩:=Option.bind_eq_some_iff.1 g2
 rw[cj] at g4
 obtain⟨o4,g5,g6⟩:=Option.bind_eq_some_iff.1 g4
 unfold fO uK
 by_cases h28:(l.getD i (0,0,0,0,0)).1=28
 ·rw[if_pos h28,bq (d:=(0,0,0,0,0)) (show i+1<l.length by omega)]
  simp only[List.map_append,List.map_cons]
  rw[eO,g1,Option.bind_some,h1,cj]
  rw[h28] at g3
  unfold ay at g3 g5 ⊢
  simp only[Int.reduceEq,if_false,if_true] at g3 g5 ⊢
  split at g3
  ·rename_i hc
   cases g3
   rw[if_pos hc.1,Option.bind_some]
   rw[if_pos (by simp)] at g5
   cases g5
   simpa using g6
  ·cases g3
 ·rw[if_neg h28]
  simp only[List.map_append]
  rw[eO,g1,Option.bind_some]
  unfold ay at g3 g5
  simp only[Int.reduceEq,if_false,if_true] at g5
  rcases h2 with h2|h2|h2
  ·rw[h2] at g3
   simp only[Int.reduceEq,if_false,if_true] at g3
   split at g3
   ·cases g3
    rw[if_pos (by simp)] at g5
    cases g5
    simpa using g6
   ·cases g3
  ·rw[h2] at g3
   simp only[Int.reduceEq,if_false,if_true] at g3
   split at g3
   ·cases g3
    rw[if_pos (by simp)] at g5
    cases g5
    simpa using g6
   ·cases g3
  ·exact absurd h2 h28
theorem kX:∀(f:Nat) (l:List In) (o o2:List NB),cj (l.map (·.1)) o=some o2->cj ((iQ f l).map (·.1)) o=some o2/\∀x ∈ iQ f l,x ∈ l
 |0,l,o,o2,h=>⟨h,λx hx=>hx⟩
 |f+1,l,o,o2,h=>by
  rw[iQ]
  split
  ·exact⟨h,λx hx=>hx⟩
  ·rename_i i hi
   obtain⟨h1,h2⟩:=kX f _ o o2 (sa hi h)
   refine⟨h1,λx hx=>?_⟩
   have:=h2 x hx
   unfold fO at this
   rcases List.mem_append.1 this with h'|h'
   ·exact List.mem_of_mem_take h'
   ·exact List.mem_of_mem_drop h'
theorem gZ{la:List (Bool×Int)}{regs fuel:Nat}{par:Int}{cs:List In}(hL:js fuel regs cs≠none)(h:b9 la regs par cs):b9 la regs par (fN fuel regs cs):=by
 refine im h iq ?_ ?_
 all_goals
  unfold fN
  cases hc:js fuel regs cs with
  |none=>exact absurd hc hL
  |some L=>
   simp only
   obtain⟨h1,h2⟩:=kX (cT L cs 0).length (cT L cs 0) [] [] (by rw[i5,h.nest])
   first
    |exact h1
    |exact λx hx=>h.gd x (mC _ _ x (h2 x hx))
variable {F K:Type} {R:List F->K->Prop} {D:In->F->Bool} {E:F->F->Bool} {V:In->List F->In×Bool×List F} {wo:K->List In->K} {bo:K->K->K} {Fi:In->K->K->Option (In×K)} {cs:List In} {pt:List Int}
theorem sb(l:List In)(k d:Nat)(hk:k+d<=l.length)(i j:Nat):(if i<k then cC l i j else cC l (k+d+(i-k)) j)=cC (fO l k d) i j:=by
 unfold cC fO
 simp only[List.getD_eq_getElem?_getD]
 have hl:(l.take k).length=k:=by rw[List.length_take];omega
 by_cases h:i<k
 ·rw[if_pos h,List.getElem?_append_left (by omega),List.getElem?_take_of_lt h]
 ·rw[if_neg h,List.getElem?_append_right (by omega),hl,List.getElem?_drop]
end Go.Proofs.Ytidhfimbnjaceaa