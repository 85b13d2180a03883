/- A part of the proof of AllocateSpills: LkA LkB PsA PsB. No condition. -/
import Derived.Test.YteopfmnnhlhbmaaHp16
import Derived.Test.YteopfmnnhlhbmaaHp38
import Derived.Test.YteopfmnnhlhbmaaHp45
set_option linter.unusedSimpArgs false
set_option linter.unusedVariables false
set_option linter.constructorNameAsVariable false
set_option maxRecDepth 100000
set_option maxHeartbeats 4000000
namespace Go.Proofs.Yteopfmnnhlhbmaa
open Go.RowKit
/-! ### code that Check accepts-/
structure J6(la:List (Bool×Int))(regs par:Int)(cs:List In):Prop where
 nA:la.length<=8
 nregs:0<=regs/\regs<=1024
 ncs:cs.length<=16384
 ins:∀x ∈ cs,dD regs par la.length (bw x)=0
 nest:(a7 (cs.map bw) 0 []).2=false
theorem kx{regs spills nA:Int}:∀(l:List RI) (k:Nat),b6 regs spills nA l k=none->∀i ∈ l,dD regs spills nA i=0
 |[],_,_,i,hi=>by cases hi
 |x::l,k,h,i,hi=>by
  unfold b6 at h
  split at h
  ·cases h
  rename_i h0
  rcases List.mem_cons.1 hi with rfl|hi
  ·exact Classical.not_not.1 h0
  ·exact kx l (k+1) h i hi
theorem mq{regs spills nA:Int}:∀(l:List RI) (k:Nat) (r:Int×Int),b6 regs spills nA l k=some r->r.2≠0
 |[],_,_,h=>by cases h
 |x::l,k,r,h=>by
  unfold b6 at h
  split at h
  ·rename_i h0;cases h;exact h0
  ·exact mq l (k+1) r h
theorem bZ{la:List (Bool×Int)}{regs par:Int}{cs:List In}(h:(gk la regs par cs).2=0):J6 la regs par cs:=by
 unfold gk bu at h
 split at h
 ·simp at h
 rename_i h8
 split at h
 ·simp at h
 split at h
 ·simp at h
 rename_i hr
 split at h
 ·simp at h
 rename_i hc
 rw[List.length_map] at h8 hc
 split at h
 ·rename_i r hr;exact absurd h (mq _ _ _ hr)
 rename_i hi
 split at h
 ·simp at h
 rename_i hn
 rw[List.length_map] at hi
 refine⟨by omega,by omega,by omega,λx hx=>kx _ _ hi _ (List.mem_map.2 ⟨x,hx,rfl⟩),by simpa using hn⟩
theorem J6.tree{la:List (Bool×Int)}{regs par:Int}{cs:List In}(h:J6 la regs par cs):∃t:T,cs.map bw=t.flat/\t.wf false 8:=nD _ h.nest
theorem rU:∀op:Nat,op<39->(cr op).getD 1 false=cG op/\(cr op).getD 2 false=dU op/\(cr op).getD 3 false=ei op:=by decide
structure wK(regs par nA:Int)(x:In):Prop where
 op:0<=x.1/\x.1<39
 to:if(cr x.1.toNat).getD 1 false=true then 0<=x.2.1/\x.2.1<regs else x.2.1= -1
 a:if J9 x.1=true then 0<=x.2.2.1/\x.2.2.1<regs else x.2.2.1= -1
 b:if J8 x.1=true then 0<=x.2.2.2.1/\x.2.2.2.1<regs else x.2.2.2.1= -1
 arg:x.2.2.2.2<=ch nA par x.1
 isop:dB x.1=true
theorem oI{regs n:Int}{u:Bool}(h:¬aI regs n u=false):if u=true then 0<=n/\n<regs else n= -1:=by
 have h1:aI regs n u=true:=by simpa using h
 unfold aI at h1
 split at h1
 ·rename_i hu;rw[if_pos hu];simpa using h1
 ·rename_i hu;rw[if_neg hu];simpa using h1
theorem JG{regs par nA:Int}{x:In}(h:dD regs par nA (bw x)=0):wK regs par nA x:=by
 unfold dD at h
 split at h
 ·simp at h
 rename_i h1
 split at h
 ·simp at h
 rename_i h2
 simp only[not_or] at h2
 obtain⟨g1,g2,g3,g4⟩:=h2
 have h1':dB x.1=true:=by simpa [bw] using h1
 have hop:0<=x.1/\x.1<39:=by
  simp only[dB,decide_eq_true_eq] at h1'
  omega
 obtain⟨k,hk⟩:∃k:Nat,x.1=(k:Int):=⟨x.1.toNat,by omega⟩
 obtain⟨s1,s2,s3⟩:=rU k (by omega)
 have e:x.1.toNat=k:=by omega
 refine⟨hop,?_,?_,?_,?_,h1'⟩
 ·rw[e,s1,<-hk];exact oI g1
 ·unfold J9;rw[e,s2,<-hk];exact oI g2
 ·unfold J8;rw[e,s3,<-hk];exact oI g3
 ·have:(bw x).arg<=ch nA par (bw x).op:=by omega
  exact this
theorem CT(cs:List In)(b:Nat):(cs.getD b zo).1=aA (cs.map bw) b:=(dY cs b).symm
/-! ### the blocks-/
def fK(cs:List In)(pt:List Int)(i:Nat)(op:Int)(d:Nat):Option Nat:=
 if op=27 then some (d+1)
 else if op=28 then(if 0<d then some d else none)
 else if op=29 then(if(i:Int)<=pt.getD i 0/\pt.getD i 0<=cs.length then some d else none)
 else if op=31 then(if 0<=pt.getD i 0/\pt.getD i 0<=i then(if(cs.getD (pt.getD i 0).toNat zo).1=29 then some d else if 0<d then some (d-1) else none) else none)
 else some d
def jS(cs:List In)(pt:List Int):Nat->Nat->Nat->Option Nat
 |0,_,d=>some d
 |n+1,k,d=>(fK cs pt k (cs.getD k zo).1 d).bind (jS cs pt n (k+1))
def wx(pt:List Int)(k:Nat)(l:List Int):Prop:=∀j,j<l.length->pt.getD (k+j) 0=l.getD j 0
theorem wx.head{pt:List Int}{k:Nat}{x:Int}{l:List Int}(h:wx pt k (x::l)):pt.getD k 0=x:=by simpa using h 0 (by simp)
theorem wx.tail{pt:List Int}{k:Nat}{x:Int}{l:List Int}(h:wx pt k (x::l)):wx pt (k+1) l:=λj hj=>by
 have:=h (j+1) (by simp;omega)
 rw[show k+(j+1)=k+1+j by omega] at this
 simpa using this
theorem wx.left{pt:List Int}{k:Nat}{a b:List Int}(h:wx pt k (a++b)):wx pt k a:=λj hj=>by
 rw[h j (by rw[List.length_append];omega),List.getD_eq_getElem?_getD,List.getElem?_append_left hj,<-List.getD_eq_getElem?_getD]
theorem wx.right{pt:List Int}{k:Nat}{a b:List Int}(h:wx pt k (a++b)):wx pt (k+a.length) b:=λj hj=>by
 have:=h (a.length+j) (by rw[List.length_append];omega)
 rw[show k+(a.length+j)=k+a.length+j by omega] at this
 rw[this,List.getD_eq_getElem?_getD,List.getElem?_append_right (by omega),show a.length+j-a.length=j by omega,<-List.getD_eq_getElem?_getD]
theorem ek{cs:List In}{pt:List Int}:∀(t:T) (w:Bool) (dd k:Nat) (e:Int) (m d:Nat),fZ (cs.map bw) k t.flat->wx pt k (t.rq k e)->t.wf w dd->k+t.size<=cs.length->
  jS cs pt (t.size+m) k d=jS cs pt m (k+t.size) d
 |.nil,w,dd,k,e,m,d,hc,hp,hw,hl=>by simp[T.size]
 |.plain i r,w,dd,k,e,m,d,hc,hp,hw,hl=>by
  obtain⟨⟨h1,h2,h3,h4⟩,h5,hr⟩:=hw
  have hi:(cs.getD k zo).1=i.op:=by rw[CT];show((cs.map bw).getD k default).op=_;rw[hc.head]
  simp only[T.size] at hl ⊢
  rw[show r.size+1+m=(r.size+m)+1 by omega,jS,hi]
  unfold fK
  rw[if_neg h1,if_neg h2,if_neg h3,if_neg h4,Option.bind_some,ek r w dd (k+1) e m d hc.tail hp.tail hr (by omega),show k+1+r.size=k+(r.size+1) by omega]
 |.ite i a j r,w,dd,k,e,m,d,hc,hp,hw,hl=>by
  obtain⟨h1,h2,h3,ha,hr⟩:=hw
  simp only[T.flat] at hc
  simp only[T.rq] at hp
  have hi:(cs.getD k zo).1=27:=by rw[CT];show((cs.map bw).getD k default).op=_;rw[hc.head,h1]
  have hcj:=hc.tail.right
  rw[a.flat_length] at hcj
  have hj:(cs.getD (k+1+a.size) zo).1=31:=by rw[CT];show((cs.map bw).getD (k+1+a.size) default).op=_;rw[hcj.head,h2]
  have hpj:=hp.tail.right
  rw[a.rq_length] at hpj
  simp only[T.size] at hl ⊢
  rw[show a.size+r.size+2+m=(a.size+(r.size+m+1))+1 by omega,jS,hi]
  unfold fK
  rw[if_pos rfl,Option.bind_some,ek a w (dd-1) (k+1) e (r.size+m+1) (d+1) hc.tail.left hp.tail.left ha (by omega),jS,hj]
  unfold fK
  rw[if_neg (by decide),if_neg (by decide),if_neg (by decide),if_pos rfl,hpj.head,if_pos (by omega),Int.toNat_natCast,hi,if_neg (by decide),if_pos (by omega),Option.bind_some,Nat.add_sub_cancel,
   ek r w dd (k+1+a.size+1) e m d hcj.tail (by have:=hpj.tail;rw[show k+a.size+2=k+1+a.size+1 by omega] at this;exact this) hr (by omega),show k+1+a.size+1+r.size=k+(a.size+r.size+2) by omega]
 |.loop i a j r,w,dd,k,e,m,d,hc,hp,hw,hl=>by
  obtain⟨h1,h2,h3,ha,hr⟩:=hw
  simp only[T.flat] at hc
  simp only[T.rq] at hp
  have hi:(cs.getD k zo).1=29:=by rw[CT];show((cs.map bw).getD k default).op=_;rw[hc.head,h1]
  have hcj:=hc.tail.right
  rw[a.flat_length] at hcj
  have hj:(cs.getD (k+1+a.size) zo).1=31:=by rw[CT];show((cs.map bw).getD (k+1+a.size) default).op=_;rw[hcj.head,h2]
  have hpj:=hp.tail.right
  rw[a.rq_length] at hpj
  simp only[T.size] at hl ⊢
  rw[show a.size+r.size+2+m=(a.size+(r.size+m+1))+1 by omega,jS,hi]
  unfold fK
  rw[if_neg (by decide),if_neg (by decide),if_pos rfl,hp.head,if_pos (by omega),Option.bind_some,ek a true (dd-1) (k+1) _ (r.size+m+1) d hc.tail.left hp.tail.left ha (by omega),jS,hj]
  unfold fK
  rw[if_neg (by decide),if_neg (by decide),if_neg (by decide),if_pos rfl,hpj.head,if_pos (by omega),Int.toNat_natCast,hi,if_pos rfl,Option.bind_some,
   ek r w dd (k+1+a.size+1) e m d hcj.tail (by have:=hpj.tail;rw[show k+a.size+2=k+1+a.size+1 by omega] at this;exact this) hr (by omega),show k+1+a.size+1+r.size=k+(a.size+r.size+2) by omega]
 |.ite2 i a x b j r,w,dd,k,e,m,d,hc,hp,hw,hl=>by
  obtain⟨h1,hx,h2,h3,ha,hb,hr⟩:=hw
  simp only[T.flat] at hc
  simp only[T.rq] at hp
  have hi:(cs.getD k zo).1=27:=by rw[CT];show((cs.map bw).getD k default).op=_;rw[hc.head,h1]
  have hcx:=hc.tail.right
  rw[a.flat_length] at hcx
  have hxo:(cs.getD (k+1+a.size) zo).1=28:=by rw[CT];show((cs.map bw).getD (k+1+a.size) default).op=_;rw[hcx.head,hx]
  have hcj:=hcx.tail.right
  rw[b.flat_length] at hcj
  have hj:(cs.getD (k+1+a.size+1+b.size) zo).1=31:=by rw[CT];show((cs.map bw).getD (k+1+a.size+1+b.size) default).op=_;rw[hcj.head,h2]
  have hpx:=hp.tail.right
  rw[a.rq_length] at hpx
  have hpj:=hpx.tail.right
  rw[b.rq_length] at hpj
  simp only[T.size] at hl ⊢
  rw[show a.size+b.size+r.size+3+m=(a.size+(b.size+(r.size+m+1)+1))+1 by omega,jS,hi]
  unfold fK
  rw[if_pos rfl,Option.bind_some,ek a w (dd-1) (k+1) e (b.size+(r.size+m+1)+1) (d+1) hc.tail.left hp.tail.left ha (by omega),jS,hxo]
  unfold fK
  have r3:k+a.size+2=k+1+a.size+1:=by omega
  have r4:k+a.size+b.size+3=k+1+a.size+1+b.size+1:=by omega
  rw[if_neg (by decide),if_pos rfl,if_pos (by omega),Option.bind_some,ek b w (dd-1) (k+1+a.size+1) e (r.size+m+1) (d+1) hcx.tail.left (by have:=hpx.tail.left;rw[r3] at this;exact this) hb (by omega),jS,hj]
  unfold fK
  rw[if_neg (by decide),if_neg (by decide),if_neg (by decide),if_pos rfl,hpj.head,if_pos (by omega),Int.toNat_natCast,hi,if_neg (by decide),if_pos (by omega),Option.bind_some,Nat.add_sub_cancel,
   ek r w dd (k+1+a.size+1+b.size+1) e m d hcj.tail (by have:=hpj.tail;rw[r4] at this;exact this) hr (by omega),show k+1+a.size+1+b.size+1+r.size=k+(a.size+b.size+r.size+3) by omega]
theorem QW{cs:List In}{t:T}(ht:cs.map bw=t.flat)(hw:t.wf false 8):jS cs (t.rq 0 0) cs.length 0 0=some 0:=by
 have hl:cs.length=t.size:=by rw[<-t.flat_length,<-ht,List.length_map]
 have:=ek (cs:=cs) (pt:=t.rq 0 0) t false 8 0 0 0 0 (λj hj=>by rw[ht,Nat.zero_add]) (λj hj=>by rw[Nat.zero_add]) hw (by omega)
 rw[hl]
 exact this
/-! ### two walks-/
def oa(cs:List In):Prop:=∀x ∈ cs,0<=x.2.2.2.2/\x.2.2.2.2<4294967296
def rN(cs:List In):List Int:=(oQ cs).getD []
theorem J6.pt{la:List (Bool×Int)}{regs par:Int}{cs:List In}(h:J6 la regs par cs):oQ cs=some (rN cs)/\(rN cs).length=cs.length/\jS cs (rN cs) cs.length 0 0=some 0/\∃t:T,cs.map bw=t.flat/\t.wf false 8/\rN cs=t.rq 0 0:=by
 obtain⟨t,ht,hw⟩:=h.tree
 have hp:=sb ht hw
 have he:rN cs=t.rq 0 0:=by unfold rN;rw[hp];rfl
 rw[he]
 have hl:cs.length=t.size:=by rw[<-t.flat_length,<-ht,List.length_map]
 exact⟨hp,by rw[T.rq_length,hl],QW ht hw,t,ht,hw,rfl⟩
/-! ### Fold-/
/-! ### Copies-/
/-! ### Share-/
/-! ### Prune-/
/-! ### the exported functions-/
theorem RK{la:List (Bool×Int)}:∀i j,i<la.length->j<2->(aC la i j).cell=true:=λi j _ hj=>by
 have:j=0\/j=1:=by omega
 rcases this with rfl|rfl<;>rfl
/-! ### partners-/
theorem fN{n:Int}:∀(t:T) (k:Nat) (e:Int),(-1<=e/\e<n)->((k+t.size:Nat):Int)<=n->∀x ∈ t.rq k e,-1<=x/\x<n
 |.nil,k,e,he,hk,x,hx=>by cases hx
 |.plain i r,k,e,he,hk,x,hx=>by
  simp only[T.rq,List.mem_cons] at hx
  simp only[T.size] at hk
  rcases hx with rfl|hx
  ·split<;>omega
  ·exact fN r (k+1) e he (by omega) x hx
 |.ite i a j r,k,e,he,hk,x,hx=>by
  simp only[T.rq,List.mem_cons,List.mem_append] at hx
  simp only[T.size] at hk
  rcases hx with rfl|hx|rfl|hx
  ·omega
  ·exact fN a (k+1) e he (by omega) x hx
  ·omega
  ·exact fN r _ e he (by omega) x hx
 |.ite2 i a y b j r,k,e,he,hk,x,hx=>by
  simp only[T.rq,List.mem_cons,List.mem_append] at hx
  simp only[T.size] at hk
  rcases hx with rfl|hx|rfl|hx|rfl|hx
  ·omega
  ·exact fN a (k+1) e he (by omega) x hx
  ·omega
  ·exact fN b _ e he (by omega) x hx
  ·omega
  ·exact fN r _ e he (by omega) x hx
 |.loop i a j r,k,e,he,hk,x,hx=>by
  simp only[T.rq,List.mem_cons,List.mem_append] at hx
  simp only[T.size] at hk
  rcases hx with rfl|hx|rfl|hx
  ·omega
  ·exact fN a (k+1) _ (by omega) (by omega) x hx
  ·omega
  ·exact fN r _ e he (by omega) x hx
/-! ### the rounds-/
/-! ### Optimize-/
end Go.Proofs.Yteopfmnnhlhbmaa