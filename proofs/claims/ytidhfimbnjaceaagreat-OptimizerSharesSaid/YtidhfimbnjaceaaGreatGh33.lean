/- A part of the proof of OptimizerShares: LkA LkB LkC LkD FrE. No condition. -/
import Derived.Test.YtidhfimbnjaceaaGreatGh12
import Derived.Test.YtidhfimbnjaceaaGreatGh17
import Derived.Test.YtidhfimbnjaceaaGreatGh32
import Derived.Test.YtidhfimbnjaceaaGreatGh13
import Derived.Test.YtidhfimbnjaceaaGreatGh11
set_option linter.unusedSimpArgs false
set_option linter.unusedVariables false
set_option linter.constructorNameAsVariable false
set_option maxRecDepth 100000
set_option maxHeartbeats 4000000
namespace Go.Proofs.YtidhfimbnjaceaaGreat
open Go.RowKit
/-! ### code that Check accepts-/
structure mU (la:List (Bool×Int)) (regs par:Int) (cs:List In):Prop where
 nA:la.length<=8
 nregs:0<=regs/\regs<=1024
 ncs:cs.length<=16384
 ins:∀x ∈ cs,dL regs par la.length (cN x)=0
 nest:(bg (cs.map cN) 0 []).2=false
theorem jH {regs spills nA:Int}:∀(l:List RI) (k:Nat),cj regs spills nA l k=none->∀i ∈ l,dL regs spills nA i=0
 |[],_,_,i,hi=>by cases hi
 |x::l,k,h,i,hi=>by
  unfold cj at h
  split at h
  ·cases h
  rename_i h0
  rcases List.mem_cons.1 hi with rfl|hi
  ·exact Classical.not_not.1 h0
  ·exact jH l (k+1) h i hi
theorem kF {regs spills nA:Int}:∀(l:List RI) (k:Nat) (r:Int×Int),cj regs spills nA l k=some r->r.2≠0
 |[],_,_,h=>by cases h
 |x::l,k,r,h=>by
  unfold cj at h
  split at h
  ·rename_i h0;cases h;exact h0
  ·exact kF l (k+1) r h
theorem dh {la:List (Bool×Int)} {regs par:Int} {cs:List In} (h:(fe la regs par cs).2=0):mU la regs par cs:=by
 unfold fe bE at h
 split at h
 ·simp at h
 rename_i h8
 split at h
 ·simp at h
 split at h
 ·simp at h
 rename_i hr
 split at h
 ·simp at h
 rename_i hc
 rw[List.length_map] at h8 hc
 split at h
 ·rename_i r hr;exact absurd h (kF _ _ _ hr)
 rename_i hi
 split at h
 ·simp at h
 rename_i hn
 rw[List.length_map] at hi
 refine⟨by omega,by omega,by omega,λx hx=>jH _ _ hi _ (List.mem_map.2 ⟨x,hx,rfl⟩),by simpa using hn⟩
theorem mU.tree {la:List (Bool×Int)} {regs par:Int} {cs:List In} (h:mU la regs par cs):∃t:T,cs.map cN=t.flat/\t.wf false 8:=lG _ h.nest
theorem ov:∀op:Nat,op<39->(b9 op).getD 1 false=cM op/\(b9 op).getD 2 false=dY op/\(b9 op).getD 3 false=ek op:=by decide
structure sf (regs par nA:Int) (x:In):Prop where
 op:0<=x.1/\x.1<39
 to:if(b9 x.1.toNat).getD 1 false=true then 0<=x.2.1/\x.2.1<regs else x.2.1= -1
 a:if P2 x.1=true then 0<=x.2.2.1/\x.2.2.1<regs else x.2.2.1= -1
 b:if P1 x.1=true then 0<=x.2.2.2.1/\x.2.2.2.1<regs else x.2.2.2.1= -1
 arg:x.2.2.2.2<=b6 nA par x.1
 isop:dI x.1=true
theorem l9 {regs n:Int} {u:Bool} (h:¬az regs n u=false):if u=true then 0<=n/\n<regs else n= -1:=by
 have h1:az regs n u=true:=by simpa using h
 unfold az at h1
 split at h1
 ·rename_i hu;rw[if_pos hu];simpa using h1
 ·rename_i hu;rw[if_neg hu];simpa using h1
theorem CC {regs par nA:Int} {x:In} (h:dL regs par nA (cN x)=0):sf regs par nA x:=by
 unfold dL at h
 split at h
 ·simp at h
 rename_i h1
 split at h
 ·simp at h
 rename_i h2
 simp only[not_or] at h2
 obtain⟨g1,g2,g3,g4⟩:=h2
 have h1':dI x.1=true:=by simpa [cN] using h1
 have hop:0<=x.1/\x.1<39:=by
  simp only[dI,decide_eq_true_eq] at h1'
  omega
 obtain⟨k,hk⟩:∃k:Nat,x.1=(k:Int):=⟨x.1.toNat,by omega⟩
 obtain⟨s1,s2,s3⟩:=ov k (by omega)
 have e:x.1.toNat=k:=by omega
 refine⟨hop,?_,?_,?_,?_,h1'⟩
 ·rw[e,s1,<-hk];exact l9 g1
 ·unfold P2;rw[e,s2,<-hk];exact l9 g2
 ·unfold P1;rw[e,s3,<-hk];exact l9 g3
 ·have:(cN x).arg<=b6 nA par (cN x).op:=by omega
  exact this
theorem sf.ok {regs:Nat} {par nA:Int} {x:In} (h:sf regs par nA x) (harg:0<=x.2.2.2.2/\x.2.2.2.2<4294967296):wJ regs x:=by
 refine⟨h.op,λhu=>?_,λhu=>?_,?_,harg⟩
 ·have:=h.a;rwa [if_pos hu] at this
 ·have:=h.b;rwa [if_pos hu] at this
 ·have:=h.to
  unfold bf
  split
  ·rename_i hu;rw[if_pos hu] at this;exact this.2
  ·omega
theorem wX (cs:List In) (b:Nat):(cs.getD b dt).1=aM (cs.map cN) b:=(kf cs b).symm
/-! ### the blocks-/
def dg (cs:List In) (pt:List Int) (i:Nat) (op:Int) (d:Nat):Option Nat:=
 if op=27 then some (d+1)
 else if op=28 then(if 0<d then some d else none)
 else if op=29 then(if(i:Int)<=pt.getD i 0/\pt.getD i 0<=cs.length then some d else none)
 else if op=31 then(if 0<=pt.getD i 0/\pt.getD i 0<=i then(if(cs.getD (pt.getD i 0).toNat dt).1=29 then some d else if 0<d then some (d-1) else none) else none)
 else some d
def eV (cs:List In) (pt:List Int):Nat->Nat->Nat->Option Nat
 |0,_,d=>some d
 |n+1,k,d=>(dg cs pt k (cs.getD k dt).1 d).bind (eV cs pt n (k+1))
def sd (pt:List Int) (k:Nat) (l:List Int):Prop:=∀j,j<l.length->pt.getD (k+j) 0=l.getD j 0
theorem sd.head {pt:List Int} {k:Nat} {x:Int} {l:List Int} (h:sd pt k (x::l)):pt.getD k 0=x:=by simpa using h 0 (by simp)
theorem sd.tail {pt:List Int} {k:Nat} {x:Int} {l:List Int} (h:sd pt k (x::l)):sd pt (k+1) l:=λj hj=>by
 have:=h (j+1) (by simp;omega)
 rw[show k+(j+1)=k+1+j by omega] at this
 simpa using this
theorem sd.left {pt:List Int} {k:Nat} {a b:List Int} (h:sd pt k (a++b)):sd pt k a:=λj hj=>by
 rw[h j (by rw[List.length_append];omega),List.getD_eq_getElem?_getD,List.getElem?_append_left hj,<-List.getD_eq_getElem?_getD]
theorem sd.right {pt:List Int} {k:Nat} {a b:List Int} (h:sd pt k (a++b)):sd pt (k+a.length) b:=λj hj=>by
 have:=h (a.length+j) (by rw[List.length_append];omega)
 rw[show k+(a.length+j)=k+a.length+j by omega] at this
 rw[this,List.getD_eq_getElem?_getD,List.getElem?_append_right (by omega),show a.length+j-a.length=j by omega,<-List.getD_eq_getElem?_getD]
theorem et {cs:List In} {pt:List Int}:∀(t:T) (w:Bool) (dd k:Nat) (e:Int) (m d:Nat),gZ (cs.map cN) k t.flat->sd pt k (t.rq k e)->t.wf w dd->k+t.size<=cs.length->
  eV cs pt (t.size+m) k d=eV cs pt m (k+t.size) d
 |.nil,w,dd,k,e,m,d,hc,hp,hw,hl=>by simp[T.size]
 |.plain i r,w,dd,k,e,m,d,hc,hp,hw,hl=>by
  obtain⟨⟨h1,h2,h3,h4⟩,h5,hr⟩:=hw
  have hi:(cs.getD k dt).1=i.op:=by rw[wX];show((cs.map cN).getD k default).op=_;rw[hc.head]
  simp only[T.size] at hl ⊢
  rw[show r.size+1+m=(r.size+m)+1 by omega,eV,hi]
  unfold dg
  rw[if_neg h1,if_neg h2,if_neg h3,if_neg h4,Option.bind_some,et r w dd (k+1) e m d hc.tail hp.tail hr (by omega),show k+1+r.size=k+(r.size+1) by omega]
 |.ite i a j r,w,dd,k,e,m,d,hc,hp,hw,hl=>by
  obtain⟨h1,h2,h3,ha,hr⟩:=hw
  simp only[T.flat] at hc
  simp only[T.rq] at hp
  have hi:(cs.getD k dt).1=27:=by rw[wX];show((cs.map cN).getD k default).op=_;rw[hc.head,h1]
  have hcj:=hc.tail.right
  rw[a.flat_length] at hcj
  have hj:(cs.getD (k+1+a.size) dt).1=31:=by rw[wX];show((cs.map cN).getD (k+1+a.size) default).op=_;rw[hcj.head,h2]
  have hpj:=hp.tail.right
  rw[a.rq_length] at hpj
  simp only[T.size] at hl ⊢
  rw[show a.size+r.size+2+m=(a.size+(r.size+m+1))+1 by omega,eV,hi]
  unfold dg
  rw[if_pos rfl,Option.bind_some,et a w (dd-1) (k+1) e (r.size+m+1) (d+1) hc.tail.left hp.tail.left ha (by omega),eV,hj]
  unfold dg
  rw[if_neg (by decide),if_neg (by decide),if_neg (by decide),if_pos rfl,hpj.head,if_pos (by omega),Int.toNat_natCast,hi,if_neg (by decide),if_pos (by omega),Option.bind_some,Nat.add_sub_cancel,
   et r w dd (k+1+a.size+1) e m d hcj.tail (by have:=hpj.tail;rw[show k+a.size+2=k+1+a.size+1 by omega] at this;exact this) hr (by omega),show k+1+a.size+1+r.size=k+(a.size+r.size+2) by omega]
 |.loop i a j r,w,dd,k,e,m,d,hc,hp,hw,hl=>by
  obtain⟨h1,h2,h3,ha,hr⟩:=hw
  simp only[T.flat] at hc
  simp only[T.rq] at hp
  have hi:(cs.getD k dt).1=29:=by rw[wX];show((cs.map cN).getD k default).op=_;rw[hc.head,h1]
  have hcj:=hc.tail.right
  rw[a.flat_length] at hcj
  have hj:(cs.getD (k+1+a.size) dt).1=31:=by rw[wX];show((cs.map cN).getD (k+1+a.size) default).op=_;rw[hcj.head,h2]
  have hpj:=hp.tail.right
  rw[a.rq_length] at hpj
  simp only[T.size] at hl ⊢
  rw[show a.size+r.size+2+m=(a.size+(r.size+m+1))+1 by omega,eV,hi]
  unfold dg
  rw[if_neg (by decide),if_neg (by decide),if_pos rfl,hp.head,if_pos (by omega),Option.bind_some,et a true (dd-1) (k+1) _ (r.size+m+1) d hc.tail.left hp.tail.left ha (by omega),eV,hj]
  unfold dg
  rw[if_neg (by decide),if_neg (by decide),if_neg (by decide),if_pos rfl,hpj.head,if_pos (by omega),Int.toNat_natCast,hi,if_pos rfl,Option.bind_some,
   et r w dd (k+1+a.size+1) e m d hcj.tail (by have:=hpj.tail;rw[show k+a.size+2=k+1+a.size+1 by omega] at this;exact this) hr (by omega),show k+1+a.size+1+r.size=k+(a.size+r.size+2) by omega]
 |.ite2 i a x b j r,w,dd,k,e,m,d,hc,hp,hw,hl=>by
  obtain⟨h1,hx,h2,h3,ha,hb,hr⟩:=hw
  simp only[T.flat] at hc
  simp only[T.rq] at hp
  have hi:(cs.getD k dt).1=27:=by rw[wX];show((cs.map cN).getD k default).op=_;rw[hc.head,h1]
  have hcx:=hc.tail.right
  rw[a.flat_length] at hcx
  have hxo:(cs.getD (k+1+a.size) dt).1=28:=by rw[wX];show((cs.map cN).getD (k+1+a.size) default).op=_;rw[hcx.head,hx]
  have hcj:=hcx.tail.right
  rw[b.flat_length] at hcj
  have hj:(cs.getD (k+1+a.size+1+b.size) dt).1=31:=by rw[wX];show((cs.map cN).getD (k+1+a.size+1+b.size) default).op=_;rw[hcj.head,h2]
  have hpx:=hp.tail.right
  rw[a.rq_length] at hpx
  have hpj:=hpx.tail.right
  rw[b.rq_length] at hpj
  simp only[T.size] at hl ⊢
  rw[show a.size+b.size+r.size+3+m=(a.size+(b.size+(r.size+m+1)+1))+1 by omega,eV,hi]
  unfold dg
  rw[if_pos rfl,Option.bind_some,et a w (dd-1) (k+1) e (b.size+(r.size+m+1)+1) (d+1) hc.tail.left hp.tail.left ha (by omega),eV,hxo]
  unfold dg
  have r3:k+a.size+2=k+1+a.size+1:=by omega
  have r4:k+a.size+b.size+3=k+1+a.size+1+b.size+1:=by omega
  rw[if_neg (by decide),if_pos rfl,if_pos (by omega),Option.bind_some,et b w (dd-1) (k+1+a.size+1) e (r.size+m+1) (d+1) hcx.tail.left (by have:=hpx.tail.left;rw[r3] at this;exact this) hb (by omega),eV,hj]
  unfold dg
  rw[if_neg (by decide),if_neg (by decide),if_neg (by decide),if_pos rfl,hpj.head,if_pos (by omega),Int.toNat_natCast,hi,if_neg (by decide),if_pos (by omega),Option.bind_some,Nat.add_sub_cancel,
   et r w dd (k+1+a.size+1+b.size+1) e m d hcj.tail (by have:=hpj.tail;rw[r4] at this;exact this) hr (by omega),show k+1+a.size+1+b.size+1+r.size=k+(a.size+b.size+r.size+3) by omega]
theorem Mj {cs:List In} {t:T} (ht:cs.map cN=t.flat) (hw:t.wf false 8):eV cs (t.rq 0 0) cs.length 0 0=some 0:=by
 have hl:cs.length=t.size:=by rw[<-t.flat_length,<-ht,List.length_map]
 have:=et (cs:=cs) (pt:=t.rq 0 0) t false 8 0 0 0 0 (λj hj=>by rw[ht,Nat.zero_add]) (λj hj=>by rw[Nat.zero_add]) hw (by omega)
 rw[hl]
 exact this
/-! ### two walks-/
def vX {S:Type} (f:Nat->In->S->Option S):List In->Nat->S->Option S
 |[],_,s=>some s
 |x::l,i,s=>(f i x s).bind (vX f l (i+1))
theorem kw {F:Type} (D:In->F->Bool) (E:F->F->Bool) (V:In->List F->In×Bool×List F) (cs:List In) (pt:List Int):∀(l:List In) (i:Nat) (s:n5 F),bS D E V cs pt l i s=vX (cy D E V cs pt) l i s
 |[],i,s=>rfl
 |x::l,i,s=>by
  unfold bS vX
  congr 1
  funext s
  exact kw D E V cs pt l (i+1) s
theorem CA {S1 S2:Type} {cs:List In} {pt:List Int} {f1:Nat->In->S1->Option S1} {f2:Nat->In->S2->Option S2} (R:Nat->Nat->S1->S2->Prop)
  (h:∀i d d' s1 s2,i<cs.length->dg cs pt i (cs.getD i dt).1 d=some d'->R i d s1 s2->∃a b,f1 i (cs.getD i dt) s1=some a/\f2 i (cs.getD i dt) s2=some b/\R (i+1) d' a b):
  ∀(n k d d':Nat) (s1:S1) (s2:S2),k+n=cs.length->eV cs pt n k d=some d'->R k d s1 s2->∃a b,vX f1 (cs.drop k) k s1=some a/\vX f2 (cs.drop k) k s2=some b/\R cs.length d' a b
 |0,k,d,d',s1,s2,hk,hs,hR=>by
  have:k=cs.length:=by omega
  subst this
  rw[eV] at hs
  cases hs
  rw[List.drop_length]
  exact⟨s1,s2,rfl,rfl,hR⟩
 |n+1,k,d,d',s1,s2,hk,hs,hR=>by
  rw[eV] at hs
  obtain⟨d1,h1,h2⟩:=Option.bind_eq_some_iff.1 hs
  obtain⟨a,b,e1,e2,hR'⟩:=h k d d1 s1 s2 (by omega) h1 hR
  rw[bJ (d:=dt) (by omega),vX,vX,e1,e2,Option.bind_some,Option.bind_some]
  exact CA R h n (k+1) d1 d' a b (by omega) h2 hR'
inductive sa {α β:Type} (R:α->β->Prop):List α->List β->Prop
 |nil:sa R [] []
 |cons {a:α} {b:β} {l:List α} {m:List β} (h:R a b) (t:sa R l m):sa R (a::l) (b::m)
theorem i0 {α:Type} (p:α->Bool):∀(l:List α) (k:Nat),(cQ p l k<0/\∀f ∈ l,p f=false)\/(∃j,j<l.length/\cQ p l k=((k+j:Nat):Int)/\∃f,l[j]? =some f/\p f=true)
 |[],k=> .inl ⟨by simp[cQ],λf hf=>by cases hf⟩
 |x::l,k=>by
  unfold cQ
  split
  ·rename_i hp
   exact .inr ⟨0,by simp,by simp,x,rfl,hp⟩
  ·rename_i hp
   rcases i0 p l (k+1) with⟨h1,h2⟩|⟨j,h1,h2,f,h3,h4⟩
   ·refine .inl ⟨h1,λf hf=>?_⟩
    rcases List.mem_cons.1 hf with rfl|hf
    ·simpa using hp
    ·exact h2 f hf
   ·exact .inr ⟨j+1,by simp;omega,by rw[h2];congr 1;omega,f,by simpa using h3,h4⟩
def DK (x:In) (f:Int×Int):Bool:=decide (bf x.1 x.2.1=f.1)
def EK (f g:Int×Int):Bool:=decide (f.1=g.1)&&decide (f.2=g.2)
def VK (x:In) (fs:List (Int×Int)):In×Bool×List (Int×Int):=(da rS fs x,true,gy (da rS fs x))
theorem o4 (n:Nat) (r m:Int):(r,m) ∈ ci n↔∃q:Nat,r=(q:Int)/\q<n/\m=0:=by
 unfold ci
 simp only[List.mem_map,List.mem_range,Prod.mk.injEq]
 constructor
 ·rintro ⟨q,h1,h2,h3⟩;exact⟨q,h2.symm,h1,h3.symm⟩
 ·rintro ⟨q,h1,h2,h3⟩;exact⟨q,h2,h1.symm,h3.symm⟩
structure sg (K:Type) where
 out:List In
 k:K
 st:List K
def C3 {K:Type} (wo:K->List In->K) (bo:K->K->K) (cs:List In) (pt:List Int) (i:Nat) (op:Int) (k:K) (st:List K):Option (K×List K):=
 if op=27 then some (k,k::st)
 else if op=28 then match st with
  |t::r=>some (t,k::r)
  |[]=>none
 else if op=29 then(if(i:Int)<=pt.getD i 0/\pt.getD i 0<=cs.length then some (wo k ((cs.take (pt.getD i 0).toNat).drop i),st) else none)
 else if op=31 then(if 0<=pt.getD i 0/\pt.getD i 0<=i then
   (if(cs.getD (pt.getD i 0).toNat dt).1=29 then some (wo k ((cs.take i).drop (pt.getD i 0).toNat),st)
   else match st with
    |t::r=>some (bo k t,r)
    |[]=>none)
  else none)
 else some (k,st)
def oX {K:Type} (F:In->K->K->Option (In×K)) (x:In) (s:sg K) (q:K×List K):sg K:=match F x s.k q.1 with
 |some r=>⟨s.out++[r.1],r.2,q.2⟩
 |none=>⟨s.out,q.1,q.2⟩
def nJ {K:Type} (wo:K->List In->K) (bo:K->K->K) (F:In->K->K->Option (In×K)) (cs:List In) (pt:List Int) (i:Nat) (x:In) (s:sg K):Option (sg K):=
 (C3 wo bo cs pt i x.1 s.k s.st).map (oX F x s)
def v5 {K:Type} (wo:K->List In->K) (bo:K->K->K) (F:In->K->K->Option (In×K)) (cs:List In) (pt:List Int):List In->Nat->sg K->Option (sg K)
 |[],_,s=>some s
 |x::l,i,s=>(nJ wo bo F cs pt i x s).bind (v5 wo bo F cs pt l (i+1))
theorem w3 {K:Type} (wo:K->List In->K) (bo:K->K->K) (F:In->K->K->Option (In×K)) (cs:List In) (pt:List Int):∀(l:List In) (i:Nat) (s:sg K),v5 wo bo F cs pt l i s=vX (nJ wo bo F cs pt) l i s
 |[],i,s=>rfl
 |x::l,i,s=>by
  unfold v5 vX
  congr 1
  funext s
  exact w3 wo bo F cs pt l (i+1) s
def nz (op:Int):Prop:=op=27\/op=28\/op=29\/op=31
structure GR {F K:Type} (R:List F->K->Prop) (d:Nat) (s:n5 F) (r:sg K):Prop where
 out:s.out=r.out
 k:R s.fs r.k
 d:s.op.length=d
 st:sa R s.op r.st
variable {F K:Type} {R:List F->K->Prop} {D:In->F->Bool} {E:F->F->Bool} {V:In->List F->In×Bool×List F} {wo:K->List In->K} {bo:K->K->K} {Fi:In->K->K->Option (In×K)} {cs:List In} {pt:List Int}
theorem vw {i d d':Nat} {x:In} {fs:List F} {op:List (List F)} {k:K} {st:List K}
  (hwo:∀fs k xs,(∀x ∈ xs,x ∈ cs)->R fs k->R (fH D fs xs) (wo k xs)) (hbo:∀fs k t k2,R fs k->R t k2->R (qh E fs t) (bo k k2))
  (hs:dg cs pt i x.1 d=some d') (h3:R fs k) (h4:op.length=d) (h5:sa R op st):
  ∃q1 q2,eU D E cs pt i x.1 fs op=some q1/\C3 wo bo cs pt i x.1 k st=some q2/\R q1.1 q2.1/\q1.2.length=d'/\sa R q1.2 q2.2/\(nz x.1\/(q1=(fs,op)/\q2=(k,st)/\d'=d)):=by
 have sub1:∀a b,∀x ∈ (cs.take a).drop b,x ∈ cs:=λa b x hx=>List.mem_of_mem_take (List.mem_of_mem_drop hx)
 unfold dg at hs
 unfold eU C3 nz
 by_cases c27:x.1=27
 ·rw[if_pos c27] at hs ⊢
  rw[if_pos c27]
  cases hs
  exact⟨_,_,rfl,rfl,h3,by simp[h4],.cons h3 h5,.inl (.inl c27)⟩
 rw[if_neg c27] at hs ⊢
 rw[if_neg c27]
 by_cases c28:x.1=28
 ·rw[if_pos c28] at hs ⊢
  rw[if_pos c28]
  split at hs
  rotate_left
  ·cases hs
  cases hs
  cases h5 with
  |nil=>simp at h4;omega
  |@cons t k r r2 ht hr=>exact⟨_,_,rfl,rfl,ht,by simpa using h4,.cons h3 hr,.inl (.inr (.inl c28))⟩
 rw[if_neg c28] at hs ⊢
 rw[if_neg c28]
 by_cases c29:x.1=29
 ·rw[if_pos c29] at hs ⊢
  rw[if_pos c29]
  split at hs
  rotate_left
  ·cases hs
  rename_i hp
  cases hs
  rw[if_pos hp,if_pos hp]
  exact⟨_,_,rfl,rfl,hwo _ _ _ (sub1 _ _) h3,h4,h5,.inl (.inr (.inr (.inl c29)))⟩
 rw[if_neg c29] at hs ⊢
 rw[if_neg c29]
 by_cases c31:x.1=31
 ·rw[if_pos c31] at hs ⊢
  rw[if_pos c31]
  split at hs
  rotate_left
  ·cases hs
  rename_i hp
  rw[if_pos hp,if_pos hp]
  split at hs
  ·rename_i hb
   cases hs
   rw[if_pos hb,if_pos hb]
   exact⟨_,_,rfl,rfl,hwo _ _ _ (sub1 _ _) h3,h4,h5,.inl (.inr (.inr (.inr c31)))⟩
  ·rename_i hb
   rw[if_neg hb,if_neg hb]
   split at hs
   rotate_left
   ·cases hs
   cases hs
   cases h5 with
   |nil=>simp at h4;omega
   |@cons t k r r2 ht hr=>exact⟨_,_,rfl,rfl,hbo _ _ _ _ h3 ht,by simp at h4 ⊢;omega,hr,.inl (.inr (.inr (.inr c31)))⟩
 rw[if_neg c31] at hs ⊢
 rw[if_neg c31]
 cases hs
 exact⟨_,_,rfl,rfl,h3,h4,h5,.inr ⟨rfl,rfl,rfl⟩⟩
theorem qn {fs0:List F} {k0:K}
  (hwo:∀fs k xs,(∀x ∈ xs,x ∈ cs)->R fs k->R (fH D fs xs) (wo k xs)) (hbo:∀fs k t k2,R fs k->R t k2->R (qh E fs t) (bo k k2))
  (hv:∀x ∈ cs,∀fs k fs' k',R fs k->R fs' k'->(nz x.1\/(fs'=fs/\k'=k))->
   if(V x fs).2.1=true then ∃k2,Fi x k k'=some ((V x fs).1,k2)/\R (fH D fs' [(V x fs).1]++(V x fs).2.2) k2 else Fi x k k'=none/\¬nz x.1)
  (h0:R fs0 k0) (hsh:eV cs pt cs.length 0 0=some 0):
  ∃a b,bS D E V cs pt cs 0 ⟨[],fs0,[]⟩=some a/\v5 wo bo Fi cs pt cs 0 ⟨[],k0,[]⟩=some b/\a.out=b.out:=by
 obtain⟨a,b,e1,e2,hR⟩:=CA (cs:=cs) (pt:=pt) (f1:=cy D E V cs pt) (f2:=nJ wo bo Fi cs pt) (λi d s r=>GR R d s r) (λi d d' s1 s2 hi hs hR=>by
   have hmem:cs.getD i dt ∈ cs:=by rw[List.getD_eq_getElem?_getD,List.getElem?_eq_getElem hi];exact List.getElem_mem _
   generalize cs.getD i dt=x at hs hmem ⊢
   obtain⟨out,fs,op⟩:=s1
   obtain⟨rout,k,st⟩:=s2
   obtain⟨h1,h3,h4,h5⟩:=hR
   simp only at h1 h3 h4 h5
   obtain⟨q1,q2,g1,g2,g3,g4,g5,g6⟩:=vw (D:=D) (E:=E) (wo:=wo) (bo:=bo) hwo hbo hs h3 h4 h5
   have hv:=hv x hmem fs k q1.1 q2.1 h3 g3 (g6.imp id λg=>by rw[g.1,g.2.1];exact⟨rfl,rfl⟩)
   unfold cy nJ
   simp only
   rw[g1,g2]
   by_cases hr:(V x fs).2.1=true
   ·rw[if_pos hr] at hv ⊢
    obtain⟨k2,e1,e2⟩:=hv
    refine⟨_,_,rfl,rfl,?_⟩
    unfold oX
    simp only
    rw[e1]
    exact⟨by rw[h1],e2,g4,g5⟩
   ·rw[if_neg hr] at hv ⊢
    rcases g6 with g6|⟨rfl,rfl,rfl⟩
    ·exact absurd g6 hv.2
    refine⟨_,_,rfl,rfl,?_⟩
    unfold oX
    simp only
    rw[hv.1]
    exact⟨h1,h3,h4,h5⟩) cs.length 0 0 0 ⟨[],fs0,[]⟩ ⟨[],k0,[]⟩ (by omega) hsh ⟨rfl,h0,rfl,.nil⟩
 rw[List.drop_zero] at e1 e2
 exact⟨a,b,by rw[kw];exact e1,by rw[w3];exact e2,hR.out⟩
end Go.Proofs.YtidhfimbnjaceaaGreat