/- A part of the proof of AllocateNeeds: LkA LkB PsA PsB. No condition. -/
import Derived.Test.YteopfmnnhlhbmaaHn16
import Derived.Test.YteopfmnnhlhbmaaHn37
import Derived.Test.YteopfmnnhlhbmaaHn44
set_option linter.unusedSimpArgs false
set_option linter.unusedVariables false
set_option linter.constructorNameAsVariable false
set_option maxRecDepth 100000
set_option maxHeartbeats 4000000
namespace Go.Proofs.Yteopfmnnhlhbmaa
open Go.RowKit
/-! ### code that Check accepts-/
structure zZ(la:List (Bool×Int))(regs par:Int)(cs:List In):Prop where
 nA:la.length<=8
 nregs:0<=regs/\regs<=1024
 ncs:cs.length<=16384
 ins:∀x ∈ cs,dD regs par la.length (bq x)=0
 nest:(aX (cs.map bq) 0 []).2=false
theorem kv{regs spills nA:Int}:∀(l:List RI) (k:Nat),bW regs spills nA l k=none->∀i ∈ l,dD regs spills nA i=0
 |[],_,_,i,hi=>by cases hi
 |x::l,k,h,i,hi=>by
  unfold bW at h
  split at h
  ·cases h
  rename_i h0
  rcases List.mem_cons.1 hi with rfl|hi
  ·exact Classical.not_not.1 h0
  ·exact kv l (k+1) h i hi
theorem mw{regs spills nA:Int}:∀(l:List RI) (k:Nat) (r:Int×Int),bW regs spills nA l k=some r->r.2≠0
 |[],_,_,h=>by cases h
 |x::l,k,r,h=>by
  unfold bW at h
  split at h
  ·rename_i h0;cases h;exact h0
  ·exact mw l (k+1) r h
theorem cw{la:List (Bool×Int)}{regs par:Int}{cs:List In}(h:(fy la regs par cs).2=0):zZ la regs par cs:=by
 unfold fy bA at h
 split at h
 ·simp at h
 rename_i h8
 split at h
 ·simp at h
 split at h
 ·simp at h
 rename_i hr
 split at h
 ·simp at h
 rename_i hc
 rw[List.length_map] at h8 hc
 split at h
 ·rename_i r hr;exact absurd h (mw _ _ _ hr)
 rename_i hi
 split at h
 ·simp at h
 rename_i hn
 rw[List.length_map] at hi
 refine⟨by omega,by omega,by omega,λx hx=>kv _ _ hi _ (List.mem_map.2 ⟨x,hx,rfl⟩),by simpa using hn⟩
theorem zZ.tree{la:List (Bool×Int)}{regs par:Int}{cs:List In}(h:zZ la regs par cs):∃t:T,cs.map bq=t.flat/\t.wf false 8:=nG _ h.nest
theorem rI:∀op:Nat,op<39->(cn op).getD 1 false=cH op/\(cn op).getD 2 false=dT op/\(cn op).getD 3 false=ee op:=by decide
structure te(regs par nA:Int)(x:In):Prop where
 op:0<=x.1/\x.1<39
 to:if(cn x.1.toNat).getD 1 false=true then 0<=x.2.1/\x.2.1<regs else x.2.1= -1
 a:if F5 x.1=true then 0<=x.2.2.1/\x.2.2.1<regs else x.2.2.1= -1
 b:if F4 x.1=true then 0<=x.2.2.2.1/\x.2.2.2.1<regs else x.2.2.2.1= -1
 arg:x.2.2.2.2<=ch nA par x.1
 isop:dA x.1=true
theorem ox{regs n:Int}{u:Bool}(h:¬aF regs n u=false):if u=true then 0<=n/\n<regs else n= -1:=by
 have h1:aF regs n u=true:=by simpa using h
 unfold aF at h1
 split at h1
 ·rename_i hu;rw[if_pos hu];simpa using h1
 ·rename_i hu;rw[if_neg hu];simpa using h1
theorem yg{regs par nA:Int}{x:In}(h:dD regs par nA (bq x)=0):te regs par nA x:=by
 unfold dD at h
 split at h
 ·simp at h
 rename_i h1
 split at h
 ·simp at h
 rename_i h2
 simp only[not_or] at h2
 obtain⟨g1,g2,g3,g4⟩:=h2
 have h1':dA x.1=true:=by simpa [bq] using h1
 have hop:0<=x.1/\x.1<39:=by
  simp only[dA,decide_eq_true_eq] at h1'
  omega
 obtain⟨k,hk⟩:∃k:Nat,x.1=(k:Int):=⟨x.1.toNat,by omega⟩
 obtain⟨s1,s2,s3⟩:=rI k (by omega)
 have e:x.1.toNat=k:=by omega
 refine⟨hop,?_,?_,?_,?_,h1'⟩
 ·rw[e,s1,<-hk];exact ox g1
 ·unfold F5;rw[e,s2,<-hk];exact ox g2
 ·unfold F4;rw[e,s3,<-hk];exact ox g3
 ·have:(bq x).arg<=ch nA par (bq x).op:=by omega
  exact this
theorem te.ok{regs:Nat}{par nA:Int}{x:In}(h:te regs par nA x)(harg:0<=x.2.2.2.2/\x.2.2.2.2<4294967296):RZ regs x:=by
 refine⟨h.op,λhu=>?_,λhu=>?_,?_,harg⟩
 ·have:=h.a;rwa [if_pos hu] at this
 ·have:=h.b;rwa [if_pos hu] at this
 ·have:=h.to
  unfold a8
  split
  ·rename_i hu;rw[if_pos hu] at this;exact this.2
  ·omega
theorem Cp(cs:List In)(b:Nat):(cs.getD b yU).1=aq (cs.map bq) b:=(dW cs b).symm
/-! ### the blocks-/
def fJ(cs:List In)(pt:List Int)(i:Nat)(op:Int)(d:Nat):Option Nat:=
 if op=27 then some (d+1)
 else if op=28 then(if 0<d then some d else none)
 else if op=29 then(if(i:Int)<=pt.getD i 0/\pt.getD i 0<=cs.length then some d else none)
 else if op=31 then(if 0<=pt.getD i 0/\pt.getD i 0<=i then(if(cs.getD (pt.getD i 0).toNat yU).1=29 then some d else if 0<d then some (d-1) else none) else none)
 else some d
def jO(cs:List In)(pt:List Int):Nat->Nat->Nat->Option Nat
 |0,_,d=>some d
 |n+1,k,d=>(fJ cs pt k (cs.getD k yU).1 d).bind (jO cs pt n (k+1))
def we(pt:List Int)(k:Nat)(l:List Int):Prop:=∀j,j<l.length->pt.getD (k+j) 0=l.getD j 0
theorem we.head{pt:List Int}{k:Nat}{x:Int}{l:List Int}(h:we pt k (x::l)):pt.getD k 0=x:=by simpa using h 0 (by simp)
theorem we.tail{pt:List Int}{k:Nat}{x:Int}{l:List Int}(h:we pt k (x::l)):we pt (k+1) l:=λj hj=>by
 have:=h (j+1) (by simp;omega)
 rw[show k+(j+1)=k+1+j by omega] at this
 simpa using this
theorem we.left{pt:List Int}{k:Nat}{a b:List Int}(h:we pt k (a++b)):we pt k a:=λj hj=>by
 rw[h j (by rw[List.length_append];omega),List.getD_eq_getElem?_getD,List.getElem?_append_left hj,<-List.getD_eq_getElem?_getD]
theorem we.right{pt:List Int}{k:Nat}{a b:List Int}(h:we pt k (a++b)):we pt (k+a.length) b:=λj hj=>by
 have:=h (a.length+j) (by rw[List.length_append];omega)
 rw[show k+(a.length+j)=k+a.length+j by omega] at this
 rw[this,List.getD_eq_getElem?_getD,List.getElem?_append_right (by omega),show a.length+j-a.length=j by omega,<-List.getD_eq_getElem?_getD]
theorem eh{cs:List In}{pt:List Int}:∀(t:T) (w:Bool) (dd k:Nat) (e:Int) (m d:Nat),gb (cs.map bq) k t.flat->we pt k (t.rq k e)->t.wf w dd->k+t.size<=cs.length->
  jO cs pt (t.size+m) k d=jO cs pt m (k+t.size) d
 |.nil,w,dd,k,e,m,d,hc,hp,hw,hl=>by simp[T.size]
 |.plain i r,w,dd,k,e,m,d,hc,hp,hw,hl=>by
  obtain⟨⟨h1,h2,h3,h4⟩,h5,hr⟩:=hw
  have hi:(cs.getD k yU).1=i.op:=by rw[Cp];show((cs.map bq).getD k default).op=_;rw[hc.head]
  simp only[T.size] at hl ⊢
  rw[show r.size+1+m=(r.size+m)+1 by omega,jO,hi]
  unfold fJ
  rw[if_neg h1,if_neg h2,if_neg h3,if_neg h4,Option.bind_some,eh r w dd (k+1) e m d hc.tail hp.tail hr (by omega),show k+1+r.size=k+(r.size+1) by omega]
 |.ite i a j r,w,dd,k,e,m,d,hc,hp,hw,hl=>by
  obtain⟨h1,h2,h3,ha,hr⟩:=hw
  simp only[T.flat] at hc
  simp only[T.rq] at hp
  have hi:(cs.getD k yU).1=27:=by rw[Cp];show((cs.map bq).getD k default).op=_;rw[hc.head,h1]
  have hcj:=hc.tail.right
  rw[a.flat_length] at hcj
  have hj:(cs.getD (k+1+a.size) yU).1=31:=by rw[Cp];show((cs.map bq).getD (k+1+a.size) default).op=_;rw[hcj.head,h2]
  have hpj:=hp.tail.right
  rw[a.rq_length] at hpj
  simp only[T.size] at hl ⊢
  rw[show a.size+r.size+2+m=(a.size+(r.size+m+1))+1 by omega,jO,hi]
  unfold fJ
  rw[if_pos rfl,Option.bind_some,eh a w (dd-1) (k+1) e (r.size+m+1) (d+1) hc.tail.left hp.tail.left ha (by omega),jO,hj]
  unfold fJ
  rw[if_neg (by decide),if_neg (by decide),if_neg (by decide),if_pos rfl,hpj.head,if_pos (by omega),Int.toNat_natCast,hi,if_neg (by decide),if_pos (by omega),Option.bind_some,Nat.add_sub_cancel,
   eh r w dd (k+1+a.size+1) e m d hcj.tail (by have:=hpj.tail;rw[show k+a.size+2=k+1+a.size+1 by omega] at this;exact this) hr (by omega),show k+1+a.size+1+r.size=k+(a.size+r.size+2) by omega]
 |.loop i a j r,w,dd,k,e,m,d,hc,hp,hw,hl=>by
  obtain⟨h1,h2,h3,ha,hr⟩:=hw
  simp only[T.flat] at hc
  simp only[T.rq] at hp
  have hi:(cs.getD k yU).1=29:=by rw[Cp];show((cs.map bq).getD k default).op=_;rw[hc.head,h1]
  have hcj:=hc.tail.right
  rw[a.flat_length] at hcj
  have hj:(cs.getD (k+1+a.size) yU).1=31:=by rw[Cp];show((cs.map bq).getD (k+1+a.size) default).op=_;rw[hcj.head,h2]
  have hpj:=hp.tail.right
  rw[a.rq_length] at hpj
  simp only[T.size] at hl ⊢
  rw[show a.size+r.size+2+m=(a.size+(r.size+m+1))+1 by omega,jO,hi]
  unfold fJ
  rw[if_neg (by decide),if_neg (by decide),if_pos rfl,hp.head,if_pos (by omega),Option.bind_some,eh a true (dd-1) (k+1) _ (r.size+m+1) d hc.tail.left hp.tail.left ha (by omega),jO,hj]
  unfold fJ
  rw[if_neg (by decide),if_neg (by decide),if_neg (by decide),if_pos rfl,hpj.head,if_pos (by omega),Int.toNat_natCast,hi,if_pos rfl,Option.bind_some,
   eh r w dd (k+1+a.size+1) e m d hcj.tail (by have:=hpj.tail;rw[show k+a.size+2=k+1+a.size+1 by omega] at this;exact this) hr (by omega),show k+1+a.size+1+r.size=k+(a.size+r.size+2) by omega]
 |.ite2 i a x b j r,w,dd,k,e,m,d,hc,hp,hw,hl=>by
  obtain⟨h1,hx,h2,h3,ha,hb,hr⟩:=hw
  simp only[T.flat] at hc
  simp only[T.rq] at hp
  have hi:(cs.getD k yU).1=27:=by rw[Cp];show((cs.map bq).getD k default).op=_;rw[hc.head,h1]
  have hcx:=hc.tail.right
  rw[a.flat_length] at hcx
  have hxo:(cs.getD (k+1+a.size) yU).1=28:=by rw[Cp];show((cs.map bq).getD (k+1+a.size) default).op=_;rw[hcx.head,hx]
  have hcj:=hcx.tail.right
  rw[b.flat_length] at hcj
  have hj:(cs.getD (k+1+a.size+1+b.size) yU).1=31:=by rw[Cp];show((cs.map bq).getD (k+1+a.size+1+b.size) default).op=_;rw[hcj.head,h2]
  have hpx:=hp.tail.right
  rw[a.rq_length] at hpx
  have hpj:=hpx.tail.right
  rw[b.rq_length] at hpj
  simp only[T.size] at hl ⊢
  rw[show a.size+b.size+r.size+3+m=(a.size+(b.size+(r.size+m+1)+1))+1 by omega,jO,hi]
  unfold fJ
  rw[if_pos rfl,Option.bind_some,eh a w (dd-1) (k+1) e (b.size+(r.size+m+1)+1) (d+1) hc.tail.left hp.tail.left ha (by omega),jO,hxo]
  unfold fJ
  have r3:k+a.size+2=k+1+a.size+1:=by omega
  have r4:k+a.size+b.size+3=k+1+a.size+1+b.size+1:=by omega
  rw[if_neg (by decide),if_pos rfl,if_pos (by omega),Option.bind_some,eh b w (dd-1) (k+1+a.size+1) e (r.size+m+1) (d+1) hcx.tail.left (by have:=hpx.tail.left;rw[r3] at this;exact this) hb (by omega),jO,hj]
  unfold fJ
  rw[if_neg (by decide),if_neg (by decide),if_neg (by decide),if_pos rfl,hpj.head,if_pos (by omega),Int.toNat_natCast,hi,if_neg (by decide),if_pos (by omega),Option.bind_some,Nat.add_sub_cancel,
   eh r w dd (k+1+a.size+1+b.size+1) e m d hcj.tail (by have:=hpj.tail;rw[r4] at this;exact this) hr (by omega),show k+1+a.size+1+b.size+1+r.size=k+(a.size+b.size+r.size+3) by omega]
theorem Om{cs:List In}{t:T}(ht:cs.map bq=t.flat)(hw:t.wf false 8):jO cs (t.rq 0 0) cs.length 0 0=some 0:=by
 have hl:cs.length=t.size:=by rw[<-t.flat_length,<-ht,List.length_map]
 have:=eh (cs:=cs) (pt:=t.rq 0 0) t false 8 0 0 0 0 (λj hj=>by rw[ht,Nat.zero_add]) (λj hj=>by rw[Nat.zero_add]) hw (by omega)
 rw[hl]
 exact this
/-! ### two walks-/
def gV(cs:List In):Prop:=∀x ∈ cs,0<=x.2.2.2.2/\x.2.2.2.2<4294967296
theorem zZ.inC{la:List (Bool×Int)}{regs par:Int}{cs:List In}(h:zZ la regs par cs):∀x ∈ cs,te regs par la.length x:=λx hx=>yg (h.ins x hx)
theorem zZ.to{la:List (Bool×Int)}{regs par:Int}{cs:List In}(h:zZ la regs par cs):∀x ∈ cs,(cn x.1.toNat).getD 1 false=true->0<=x.2.1:=λx hx hs=>by
 have:=(h.inC x hx).to
 rw[if_pos hs] at this
 exact this.1
def jK(cs:List In):List Int:=(oC cs).getD []
theorem zZ.pt{la:List (Bool×Int)}{regs par:Int}{cs:List In}(h:zZ la regs par cs):oC cs=some (jK cs)/\(jK cs).length=cs.length/\jO cs (jK cs) cs.length 0 0=some 0/\∃t:T,cs.map bq=t.flat/\t.wf false 8/\jK cs=t.rq 0 0:=by
 obtain⟨t,ht,hw⟩:=h.tree
 have hp:=rR ht hw
 have he:jK cs=t.rq 0 0:=by unfold jK;rw[hp];rfl
 rw[he]
 have hl:cs.length=t.size:=by rw[<-t.flat_length,<-ht,List.length_map]
 exact⟨hp,by rw[T.rq_length,hl],Om ht hw,t,ht,hw,rfl⟩
/-! ### Fold-/
/-! ### Copies-/
/-! ### Share-/
/-! ### Prune-/
/-! ### the exported functions-/
theorem Pb{la:List (Bool×Int)}:∀i j,i<la.length->j<2->(aC la i j).cell=true:=λi j _ hj=>by
 have:j=0\/j=1:=by omega
 rcases this with rfl|rfl<;>rfl
/-! ### partners-/
theorem fM{n:Int}:∀(t:T) (k:Nat) (e:Int),(-1<=e/\e<n)->((k+t.size:Nat):Int)<=n->∀x ∈ t.rq k e,-1<=x/\x<n
 |.nil,k,e,he,hk,x,hx=>by cases hx
 |.plain i r,k,e,he,hk,x,hx=>by
  simp only[T.rq,List.mem_cons] at hx
  simp only[T.size] at hk
  rcases hx with rfl|hx
  ·split<;>omega
  ·exact fM r (k+1) e he (by omega) x hx
 |.ite i a j r,k,e,he,hk,x,hx=>by
  simp only[T.rq,List.mem_cons,List.mem_append] at hx
  simp only[T.size] at hk
  rcases hx with rfl|hx|rfl|hx
  ·omega
  ·exact fM a (k+1) e he (by omega) x hx
  ·omega
  ·exact fM r _ e he (by omega) x hx
 |.ite2 i a y b j r,k,e,he,hk,x,hx=>by
  simp only[T.rq,List.mem_cons,List.mem_append] at hx
  simp only[T.size] at hk
  rcases hx with rfl|hx|rfl|hx|rfl|hx
  ·omega
  ·exact fM a (k+1) e he (by omega) x hx
  ·omega
  ·exact fM b _ e he (by omega) x hx
  ·omega
  ·exact fM r _ e he (by omega) x hx
 |.loop i a j r,k,e,he,hk,x,hx=>by
  simp only[T.rq,List.mem_cons,List.mem_append] at hx
  simp only[T.size] at hk
  rcases hx with rfl|hx|rfl|hx
  ·omega
  ·exact fM a (k+1) _ (by omega) (by omega) x hx
  ·omega
  ·exact fM r _ e he (by omega) x hx
/-! ### the rounds-/
/-! ### Optimize-/
end Go.Proofs.Yteopfmnnhlhbmaa