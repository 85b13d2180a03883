/- A part of the proof of AllocateLives: LkA LkB PsA PsB. No condition. -/
import Derived.Test.YteopfmnnhlhbmaaHl16
import Derived.Test.YteopfmnnhlhbmaaHl37
import Derived.Test.YteopfmnnhlhbmaaHl44
set_option linter.unusedSimpArgs false
set_option linter.unusedVariables false
set_option linter.constructorNameAsVariable false
set_option maxRecDepth 100000
set_option maxHeartbeats 4000000
namespace Go.Proofs.Yteopfmnnhlhbmaa
open Go.RowKit
/-! ### code that Check accepts-/
structure Gv(la:List (Bool×Int))(regs par:Int)(cs:List In):Prop where
 nA:la.length<=8
 nregs:0<=regs/\regs<=1024
 ncs:cs.length<=16384
 ins:∀x ∈ cs,dp regs par la.length (bu x)=0
 nest:(aU (cs.map bu) 0 []).2=false
theorem j3{regs spills nA:Int}:∀(l:List RI) (k:Nat),bT regs spills nA l k=none->∀i ∈ l,dp regs spills nA i=0
 |[],_,_,i,hi=>by cases hi
 |x::l,k,h,i,hi=>by
  unfold bT at h
  split at h
  ·cases h
  rename_i h0
  rcases List.mem_cons.1 hi with rfl|hi
  ·exact Classical.not_not.1 h0
  ·exact j3 l (k+1) h i hi
theorem lF{regs spills nA:Int}:∀(l:List RI) (k:Nat) (r:Int×Int),bT regs spills nA l k=some r->r.2≠0
 |[],_,_,h=>by cases h
 |x::l,k,r,h=>by
  unfold bT at h
  split at h
  ·rename_i h0;cases h;exact h0
  ·exact lF l (k+1) r h
theorem cy{la:List (Bool×Int)}{regs par:Int}{cs:List In}(h:(gh la regs par cs).2=0):Gv la regs par cs:=by
 unfold gh br at h
 split at h
 ·simp at h
 rename_i h8
 split at h
 ·simp at h
 split at h
 ·simp at h
 rename_i hr
 split at h
 ·simp at h
 rename_i hc
 rw[List.length_map] at h8 hc
 split at h
 ·rename_i r hr;exact absurd h (lF _ _ _ hr)
 rename_i hi
 split at h
 ·simp at h
 rename_i hn
 rw[List.length_map] at hi
 refine⟨by omega,by omega,by omega,λx hx=>j3 _ _ hi _ (List.mem_map.2 ⟨x,hx,rfl⟩),by simpa using hn⟩
theorem Gv.tree{la:List (Bool×Int)}{regs par:Int}{cs:List In}(h:Gv la regs par cs):∃t:T,cs.map bu=t.flat/\t.wf false 8:=mH _ h.nest
theorem qB:∀op:Nat,op<39->(ch op).getD 1 false=cw op/\(ch op).getD 2 false=dG op/\(ch op).getD 3 false=dV op:=by decide
structure vg(regs par nA:Int)(x:In):Prop where
 op:0<=x.1/\x.1<39
 to:if(ch x.1.toNat).getD 1 false=true then 0<=x.2.1/\x.2.1<regs else x.2.1= -1
 a:if Gy x.1=true then 0<=x.2.2.1/\x.2.2.1<regs else x.2.2.1= -1
 b:if Gx x.1=true then 0<=x.2.2.2.1/\x.2.2.2.1<regs else x.2.2.2.1= -1
 arg:x.2.2.2.2<=b7 nA par x.1
 isop:dm x.1=true
theorem nF{regs n:Int}{u:Bool}(h:¬aD regs n u=false):if u=true then 0<=n/\n<regs else n= -1:=by
 have h1:aD regs n u=true:=by simpa using h
 unfold aD at h1
 split at h1
 ·rename_i hu;rw[if_pos hu];simpa using h1
 ·rename_i hu;rw[if_neg hu];simpa using h1
theorem FX{regs par nA:Int}{x:In}(h:dp regs par nA (bu x)=0):vg regs par nA x:=by
 unfold dp at h
 split at h
 ·simp at h
 rename_i h1
 split at h
 ·simp at h
 rename_i h2
 simp only[not_or] at h2
 obtain⟨g1,g2,g3,g4⟩:=h2
 have h1':dm x.1=true:=by simpa [bu] using h1
 have hop:0<=x.1/\x.1<39:=by
  simp only[dm,decide_eq_true_eq] at h1'
  omega
 obtain⟨k,hk⟩:∃k:Nat,x.1=(k:Int):=⟨x.1.toNat,by omega⟩
 obtain⟨s1,s2,s3⟩:=qB k (by omega)
 have e:x.1.toNat=k:=by omega
 refine⟨hop,?_,?_,?_,?_,h1'⟩
 ·rw[e,s1,<-hk];exact nF g1
 ·unfold Gy;rw[e,s2,<-hk];exact nF g2
 ·unfold Gx;rw[e,s3,<-hk];exact nF g3
 ·have:(bu x).arg<=b7 nA par (bu x).op:=by omega
  exact this
theorem Bj(cs:List In)(b:Nat):(cs.getD b xH).1=aj (cs.map bu) b:=(dK cs b).symm
/-! ### the blocks-/
def ff(cs:List In)(pt:List Int)(i:Nat)(op:Int)(d:Nat):Option Nat:=
 if op=27 then some (d+1)
 else if op=28 then(if 0<d then some d else none)
 else if op=29 then(if(i:Int)<=pt.getD i 0/\pt.getD i 0<=cs.length then some d else none)
 else if op=31 then(if 0<=pt.getD i 0/\pt.getD i 0<=i then(if(cs.getD (pt.getD i 0).toNat xH).1=29 then some d else if 0<d then some (d-1) else none) else none)
 else some d
def jm(cs:List In)(pt:List Int):Nat->Nat->Nat->Option Nat
 |0,_,d=>some d
 |n+1,k,d=>(ff cs pt k (cs.getD k xH).1 d).bind (jm cs pt n (k+1))
def uX(pt:List Int)(k:Nat)(l:List Int):Prop:=∀j,j<l.length->pt.getD (k+j) 0=l.getD j 0
theorem uX.head{pt:List Int}{k:Nat}{x:Int}{l:List Int}(h:uX pt k (x::l)):pt.getD k 0=x:=by simpa using h 0 (by simp)
theorem uX.tail{pt:List Int}{k:Nat}{x:Int}{l:List Int}(h:uX pt k (x::l)):uX pt (k+1) l:=λj hj=>by
 have:=h (j+1) (by simp;omega)
 rw[show k+(j+1)=k+1+j by omega] at this
 simpa using this
theorem uX.left{pt:List Int}{k:Nat}{a b:List Int}(h:uX pt k (a++b)):uX pt k a:=λj hj=>by
 rw[h j (by rw[List.length_append];omega),List.getD_eq_getElem?_getD,List.getElem?_append_left hj,<-List.getD_eq_getElem?_getD]
theorem uX.right{pt:List Int}{k:Nat}{a b:List Int}(h:uX pt k (a++b)):uX pt (k+a.length) b:=λj hj=>by
 have:=h (a.length+j) (by rw[List.length_append];omega)
 rw[show k+(a.length+j)=k+a.length+j by omega] at this
 rw[this,List.getD_eq_getElem?_getD,List.getElem?_append_right (by omega),show a.length+j-a.length=j by omega,<-List.getD_eq_getElem?_getD]
theorem dX{cs:List In}{pt:List Int}:∀(t:T) (w:Bool) (dd k:Nat) (e:Int) (m d:Nat),fC (cs.map bu) k t.flat->uX pt k (t.rq k e)->t.wf w dd->k+t.size<=cs.length->
  jm cs pt (t.size+m) k d=jm cs pt m (k+t.size) d
 |.nil,w,dd,k,e,m,d,hc,hp,hw,hl=>by simp[T.size]
 |.plain i r,w,dd,k,e,m,d,hc,hp,hw,hl=>by
  obtain⟨⟨h1,h2,h3,h4⟩,h5,hr⟩:=hw
  have hi:(cs.getD k xH).1=i.op:=by rw[Bj];show((cs.map bu).getD k default).op=_;rw[hc.head]
  simp only[T.size] at hl ⊢
  rw[show r.size+1+m=(r.size+m)+1 by omega,jm,hi]
  unfold ff
  rw[if_neg h1,if_neg h2,if_neg h3,if_neg h4,Option.bind_some,dX r w dd (k+1) e m d hc.tail hp.tail hr (by omega),show k+1+r.size=k+(r.size+1) by omega]
 |.ite i a j r,w,dd,k,e,m,d,hc,hp,hw,hl=>by
  obtain⟨h1,h2,h3,ha,hr⟩:=hw
  simp only[T.flat] at hc
  simp only[T.rq] at hp
  have hi:(cs.getD k xH).1=27:=by rw[Bj];show((cs.map bu).getD k default).op=_;rw[hc.head,h1]
  have hcj:=hc.tail.right
  rw[a.flat_length] at hcj
  have hj:(cs.getD (k+1+a.size) xH).1=31:=by rw[Bj];show((cs.map bu).getD (k+1+a.size) default).op=_;rw[hcj.head,h2]
  have hpj:=hp.tail.right
  rw[a.rq_length] at hpj
  simp only[T.size] at hl ⊢
  rw[show a.size+r.size+2+m=(a.size+(r.size+m+1))+1 by omega,jm,hi]
  unfold ff
  rw[if_pos rfl,Option.bind_some,dX a w (dd-1) (k+1) e (r.size+m+1) (d+1) hc.tail.left hp.tail.left ha (by omega),jm,hj]
  unfold ff
  rw[if_neg (by decide),if_neg (by decide),if_neg (by decide),if_pos rfl,hpj.head,if_pos (by omega),Int.toNat_natCast,hi,if_neg (by decide),if_pos (by omega),Option.bind_some,Nat.add_sub_cancel,
   dX r w dd (k+1+a.size+1) e m d hcj.tail (by have:=hpj.tail;rw[show k+a.size+2=k+1+a.size+1 by omega] at this;exact this) hr (by omega),show k+1+a.size+1+r.size=k+(a.size+r.size+2) by omega]
 |.loop i a j r,w,dd,k,e,m,d,hc,hp,hw,hl=>by
  obtain⟨h1,h2,h3,ha,hr⟩:=hw
  simp only[T.flat] at hc
  simp only[T.rq] at hp
  have hi:(cs.getD k xH).1=29:=by rw[Bj];show((cs.map bu).getD k default).op=_;rw[hc.head,h1]
  have hcj:=hc.tail.right
  rw[a.flat_length] at hcj
  have hj:(cs.getD (k+1+a.size) xH).1=31:=by rw[Bj];show((cs.map bu).getD (k+1+a.size) default).op=_;rw[hcj.head,h2]
  have hpj:=hp.tail.right
  rw[a.rq_length] at hpj
  simp only[T.size] at hl ⊢
  rw[show a.size+r.size+2+m=(a.size+(r.size+m+1))+1 by omega,jm,hi]
  unfold ff
  rw[if_neg (by decide),if_neg (by decide),if_pos rfl,hp.head,if_pos (by omega),Option.bind_some,dX a true (dd-1) (k+1) _ (r.size+m+1) d hc.tail.left hp.tail.left ha (by omega),jm,hj]
  unfold ff
  rw[if_neg (by decide),if_neg (by decide),if_neg (by decide),if_pos rfl,hpj.head,if_pos (by omega),Int.toNat_natCast,hi,if_pos rfl,Option.bind_some,
   dX r w dd (k+1+a.size+1) e m d hcj.tail (by have:=hpj.tail;rw[show k+a.size+2=k+1+a.size+1 by omega] at this;exact this) hr (by omega),show k+1+a.size+1+r.size=k+(a.size+r.size+2) by omega]
 |.ite2 i a x b j r,w,dd,k,e,m,d,hc,hp,hw,hl=>by
  obtain⟨h1,hx,h2,h3,ha,hb,hr⟩:=hw
  simp only[T.flat] at hc
  simp only[T.rq] at hp
  have hi:(cs.getD k xH).1=27:=by rw[Bj];show((cs.map bu).getD k default).op=_;rw[hc.head,h1]
  have hcx:=hc.tail.right
  rw[a.flat_length] at hcx
  have hxo:(cs.getD (k+1+a.size) xH).1=28:=by rw[Bj];show((cs.map bu).getD (k+1+a.size) default).op=_;rw[hcx.head,hx]
  have hcj:=hcx.tail.right
  rw[b.flat_length] at hcj
  have hj:(cs.getD (k+1+a.size+1+b.size) xH).1=31:=by rw[Bj];show((cs.map bu).getD (k+1+a.size+1+b.size) default).op=_;rw[hcj.head,h2]
  have hpx:=hp.tail.right
  rw[a.rq_length] at hpx
  have hpj:=hpx.tail.right
  rw[b.rq_length] at hpj
  simp only[T.size] at hl ⊢
  rw[show a.size+b.size+r.size+3+m=(a.size+(b.size+(r.size+m+1)+1))+1 by omega,jm,hi]
  unfold ff
  rw[if_pos rfl,Option.bind_some,dX a w (dd-1) (k+1) e (b.size+(r.size+m+1)+1) (d+1) hc.tail.left hp.tail.left ha (by omega),jm,hxo]
  unfold ff
  have r3:k+a.size+2=k+1+a.size+1:=by omega
  have r4:k+a.size+b.size+3=k+1+a.size+1+b.size+1:=by omega
  rw[if_neg (by decide),if_pos rfl,if_pos (by omega),Option.bind_some,dX b w (dd-1) (k+1+a.size+1) e (r.size+m+1) (d+1) hcx.tail.left (by have:=hpx.tail.left;rw[r3] at this;exact this) hb (by omega),jm,hj]
  unfold ff
  rw[if_neg (by decide),if_neg (by decide),if_neg (by decide),if_pos rfl,hpj.head,if_pos (by omega),Int.toNat_natCast,hi,if_neg (by decide),if_pos (by omega),Option.bind_some,Nat.add_sub_cancel,
   dX r w dd (k+1+a.size+1+b.size+1) e m d hcj.tail (by have:=hpj.tail;rw[r4] at this;exact this) hr (by omega),show k+1+a.size+1+b.size+1+r.size=k+(a.size+b.size+r.size+3) by omega]
theorem Mj{cs:List In}{t:T}(ht:cs.map bu=t.flat)(hw:t.wf false 8):jm cs (t.rq 0 0) cs.length 0 0=some 0:=by
 have hl:cs.length=t.size:=by rw[<-t.flat_length,<-ht,List.length_map]
 have:=dX (cs:=cs) (pt:=t.rq 0 0) t false 8 0 0 0 0 (λj hj=>by rw[ht,Nat.zero_add]) (λj hj=>by rw[Nat.zero_add]) hw (by omega)
 rw[hl]
 exact this
/-! ### two walks-/
def nk(cs:List In):Prop:=∀x ∈ cs,0<=x.2.2.2.2/\x.2.2.2.2<4294967296
def qG(cs:List In):List Int:=(nL cs).getD []
theorem Gv.pt{la:List (Bool×Int)}{regs par:Int}{cs:List In}(h:Gv la regs par cs):nL cs=some (qG cs)/\(qG cs).length=cs.length/\jm cs (qG cs) cs.length 0 0=some 0/\∃t:T,cs.map bu=t.flat/\t.wf false 8/\qG cs=t.rq 0 0:=by
 obtain⟨t,ht,hw⟩:=h.tree
 have hp:=qK ht hw
 have he:qG cs=t.rq 0 0:=by unfold qG;rw[hp];rfl
 rw[he]
 have hl:cs.length=t.size:=by rw[<-t.flat_length,<-ht,List.length_map]
 exact⟨hp,by rw[T.rq_length,hl],Mj ht hw,t,ht,hw,rfl⟩
/-! ### Fold-/
/-! ### Copies-/
/-! ### Share-/
/-! ### Prune-/
/-! ### the exported functions-/
theorem M4{la:List (Bool×Int)}:∀i j,i<la.length->j<2->(aC la i j).cell=true:=λi j _ hj=>by
 have:j=0\/j=1:=by omega
 rcases this with rfl|rfl<;>rfl
/-! ### partners-/
theorem fi{n:Int}:∀(t:T) (k:Nat) (e:Int),(-1<=e/\e<n)->((k+t.size:Nat):Int)<=n->∀x ∈ t.rq k e,-1<=x/\x<n
 |.nil,k,e,he,hk,x,hx=>by cases hx
 |.plain i r,k,e,he,hk,x,hx=>by
  simp only[T.rq,List.mem_cons] at hx
  simp only[T.size] at hk
  rcases hx with rfl|hx
  ·split<;>omega
  ·exact fi r (k+1) e he (by omega) x hx
 |.ite i a j r,k,e,he,hk,x,hx=>by
  simp only[T.rq,List.mem_cons,List.mem_append] at hx
  simp only[T.size] at hk
  rcases hx with rfl|hx|rfl|hx
  ·omega
  ·exact fi a (k+1) e he (by omega) x hx
  ·omega
  ·exact fi r _ e he (by omega) x hx
 |.ite2 i a y b j r,k,e,he,hk,x,hx=>by
  simp only[T.rq,List.mem_cons,List.mem_append] at hx
  simp only[T.size] at hk
  rcases hx with rfl|hx|rfl|hx|rfl|hx
  ·omega
  ·exact fi a (k+1) e he (by omega) x hx
  ·omega
  ·exact fi b _ e he (by omega) x hx
  ·omega
  ·exact fi r _ e he (by omega) x hx
 |.loop i a j r,k,e,he,hk,x,hx=>by
  simp only[T.rq,List.mem_cons,List.mem_append] at hx
  simp only[T.size] at hk
  rcases hx with rfl|hx|rfl|hx
  ·omega
  ·exact fi a (k+1) _ (by omega) (by omega) x hx
  ·omega
  ·exact fi r _ e he (by omega) x hx
/-! ### the rounds-/
/-! ### Optimize-/
end Go.Proofs.Yteopfmnnhlhbmaa