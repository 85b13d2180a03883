/- A part of the proof of AllocateFits: LkA LkB PsA PsB LkG. No condition. -/
import Derived.Test.YteopfmnnhlhbmaaHf16
import Derived.Test.YteopfmnnhlhbmaaHf37
import Derived.Test.YteopfmnnhlhbmaaHf44
set_option linter.unusedSimpArgs false
set_option linter.unusedVariables false
set_option linter.constructorNameAsVariable false
set_option maxRecDepth 100000
set_option maxHeartbeats 4000000
namespace Go.Proofs.Yteopfmnnhlhbmaa
open Go.RowKit
/-! ### code that Check accepts-/
structure rZ(la:List (Bool×Int))(regs par:Int)(cs:List In):Prop where
 nA:la.length<=8
 nregs:0<=regs/\regs<=1024
 ncs:cs.length<=16384
 ins:∀x ∈ cs,da regs par la.length (bp x)=0
 nest:(aQ (cs.map bp) 0 []).2=false
theorem kF{regs spills nA:Int}:∀(l:List RI) (k:Nat),bP regs spills nA l k=none->∀i ∈ l,da regs spills nA i=0
 |[],_,_,i,hi=>by cases hi
 |x::l,k,h,i,hi=>by
  unfold bP at h
  split at h
  ·cases h
  rename_i h0
  rcases List.mem_cons.1 hi with rfl|hi
  ·exact Classical.not_not.1 h0
  ·exact kF l (k+1) h i hi
theorem mG{regs spills nA:Int}:∀(l:List RI) (k:Nat) (r:Int×Int),bP regs spills nA l k=some r->r.2≠0
 |[],_,_,h=>by cases h
 |x::l,k,r,h=>by
  unfold bP at h
  split at h
  ·rename_i h0;cases h;exact h0
  ·exact mG l (k+1) r h
theorem bV{la:List (Bool×Int)}{regs par:Int}{cs:List In}(h:(dw la regs par cs).2=0):rZ la regs par cs:=by
 unfold dw bw at h
 split at h
 ·simp at h
 rename_i h8
 split at h
 ·simp at h
 split at h
 ·simp at h
 rename_i hr
 split at h
 ·simp at h
 rename_i hc
 rw[List.length_map] at h8 hc
 split at h
 ·rename_i r hr;exact absurd h (mG _ _ _ hr)
 rename_i hi
 split at h
 ·simp at h
 rename_i hn
 rw[List.length_map] at hi
 refine⟨by omega,by omega,by omega,λx hx=>kF _ _ hi _ (List.mem_map.2 ⟨x,hx,rfl⟩),by simpa using hn⟩
theorem rZ.tree{la:List (Bool×Int)}{regs par:Int}{cs:List In}(h:rZ la regs par cs):∃t:T,cs.map bp=t.flat/\t.wf false 8:=nJ _ h.nest
theorem iR:∀op:Nat,op<39->(b8 op).getD 1 false=cn op/\(b8 op).getD 2 false=dA op/\(b8 op).getD 3 false=dQ op:=by decide
structure iM(regs par nA:Int)(x:In):Prop where
 op:0<=x.1/\x.1<39
 to:if(b8 x.1.toNat).getD 1 false=true then 0<=x.2.1/\x.2.1<regs else x.2.1= -1
 a:if xe x.1=true then 0<=x.2.2.1/\x.2.2.1<regs else x.2.2.1= -1
 b:if xd x.1=true then 0<=x.2.2.2.1/\x.2.2.2.1<regs else x.2.2.2.1= -1
 arg:x.2.2.2.2<=bq nA par x.1
 isop:cZ x.1=true
theorem oO{regs n:Int}{u:Bool}(h:¬az regs n u=false):if u=true then 0<=n/\n<regs else n= -1:=by
 have h1:az regs n u=true:=by simpa using h
 unfold az at h1
 split at h1
 ·rename_i hu;rw[if_pos hu];simpa using h1
 ·rename_i hu;rw[if_neg hu];simpa using h1
theorem sP{regs par nA:Int}{x:In}(h:da regs par nA (bp x)=0):iM regs par nA x:=by
 unfold da at h
 split at h
 ·simp at h
 rename_i h1
 split at h
 ·simp at h
 rename_i h2
 simp only[not_or] at h2
 obtain⟨g1,g2,g3,g4⟩:=h2
 have h1':cZ x.1=true:=by simpa [bp] using h1
 have hop:0<=x.1/\x.1<39:=by
  simp only[cZ,decide_eq_true_eq] at h1'
  omega
 obtain⟨k,hk⟩:∃k:Nat,x.1=(k:Int):=⟨x.1.toNat,by omega⟩
 obtain⟨s1,s2,s3⟩:=iR k (by omega)
 have e:x.1.toNat=k:=by omega
 refine⟨hop,?_,?_,?_,?_,h1'⟩
 ·rw[e,s1,<-hk];exact oO g1
 ·unfold xe;rw[e,s2,<-hk];exact oO g2
 ·unfold xd;rw[e,s3,<-hk];exact oO g3
 ·have:(bp x).arg<=bq nA par (bp x).op:=by omega
  exact this
theorem iM.ok{regs:Nat}{par nA:Int}{x:In}(h:iM regs par nA x)(harg:0<=x.2.2.2.2/\x.2.2.2.2<4294967296):Su regs x:=by
 refine⟨h.op,λhu=>?_,λhu=>?_,?_,harg⟩
 ·have:=h.a;rwa [if_pos hu] at this
 ·have:=h.b;rwa [if_pos hu] at this
 ·have:=h.to
  unfold a8
  split
  ·rename_i hu;rw[if_pos hu] at this;exact this.2
  ·omega
theorem C2(cs:List In)(b:Nat):(cs.getD b zp).1=aj (cs.map bp) b:=(dh cs b).symm
/-! ### the blocks-/
def fQ(cs:List In)(pt:List Int)(i:Nat)(op:Int)(d:Nat):Option Nat:=
 if op=27 then some (d+1)
 else if op=28 then(if 0<d then some d else none)
 else if op=29 then(if(i:Int)<=pt.getD i 0/\pt.getD i 0<=cs.length then some d else none)
 else if op=31 then(if 0<=pt.getD i 0/\pt.getD i 0<=i then(if(cs.getD (pt.getD i 0).toNat zp).1=29 then some d else if 0<d then some (d-1) else none) else none)
 else some d
def jZ(cs:List In)(pt:List Int):Nat->Nat->Nat->Option Nat
 |0,_,d=>some d
 |n+1,k,d=>(fQ cs pt k (cs.getD k zp).1 d).bind (jZ cs pt n (k+1))
def uI(pt:List Int)(k:Nat)(l:List Int):Prop:=∀j,j<l.length->pt.getD (k+j) 0=l.getD j 0
theorem uI.head{pt:List Int}{k:Nat}{x:Int}{l:List Int}(h:uI pt k (x::l)):pt.getD k 0=x:=by simpa using h 0 (by simp)
theorem uI.tail{pt:List Int}{k:Nat}{x:Int}{l:List Int}(h:uI pt k (x::l)):uI pt (k+1) l:=λj hj=>by
 have:=h (j+1) (by simp;omega)
 rw[show k+(j+1)=k+1+j by omega] at this
 simpa using this
theorem uI.left{pt:List Int}{k:Nat}{a b:List Int}(h:uI pt k (a++b)):uI pt k a:=λj hj=>by
 rw[h j (by rw[List.length_append];omega),List.getD_eq_getElem?_getD,List.getElem?_append_left hj,<-List.getD_eq_getElem?_getD]
theorem uI.right{pt:List Int}{k:Nat}{a b:List Int}(h:uI pt k (a++b)):uI pt (k+a.length) b:=λj hj=>by
 have:=h (a.length+j) (by rw[List.length_append];omega)
 rw[show k+(a.length+j)=k+a.length+j by omega] at this
 rw[this,List.getD_eq_getElem?_getD,List.getElem?_append_right (by omega),show a.length+j-a.length=j by omega,<-List.getD_eq_getElem?_getD]
theorem eo{cs:List In}{pt:List Int}:∀(t:T) (w:Bool) (dd k:Nat) (e:Int) (m d:Nat),fK (cs.map bp) k t.flat->uI pt k (t.rq k e)->t.wf w dd->k+t.size<=cs.length->
  jZ cs pt (t.size+m) k d=jZ cs pt m (k+t.size) d
 |.nil,w,dd,k,e,m,d,hc,hp,hw,hl=>by simp[T.size]
 |.plain i r,w,dd,k,e,m,d,hc,hp,hw,hl=>by
  obtain⟨⟨h1,h2,h3,h4⟩,h5,hr⟩:=hw
  have hi:(cs.getD k zp).1=i.op:=by rw[C2];show((cs.map bp).getD k default).op=_;rw[hc.head]
  simp only[T.size] at hl ⊢
  rw[show r.size+1+m=(r.size+m)+1 by omega,jZ,hi]
  unfold fQ
  rw[if_neg h1,if_neg h2,if_neg h3,if_neg h4,Option.bind_some,eo r w dd (k+1) e m d hc.tail hp.tail hr (by omega),show k+1+r.size=k+(r.size+1) by omega]
 |.ite i a j r,w,dd,k,e,m,d,hc,hp,hw,hl=>by
  obtain⟨h1,h2,h3,ha,hr⟩:=hw
  simp only[T.flat] at hc
  simp only[T.rq] at hp
  have hi:(cs.getD k zp).1=27:=by rw[C2];show((cs.map bp).getD k default).op=_;rw[hc.head,h1]
  have hcj:=hc.tail.right
  rw[a.flat_length] at hcj
  have hj:(cs.getD (k+1+a.size) zp).1=31:=by rw[C2];show((cs.map bp).getD (k+1+a.size) default).op=_;rw[hcj.head,h2]
  have hpj:=hp.tail.right
  rw[a.rq_length] at hpj
  simp only[T.size] at hl ⊢
  rw[show a.size+r.size+2+m=(a.size+(r.size+m+1))+1 by omega,jZ,hi]
  unfold fQ
  rw[if_pos rfl,Option.bind_some,eo a w (dd-1) (k+1) e (r.size+m+1) (d+1) hc.tail.left hp.tail.left ha (by omega),jZ,hj]
  unfold fQ
  rw[if_neg (by decide),if_neg (by decide),if_neg (by decide),if_pos rfl,hpj.head,if_pos (by omega),Int.toNat_natCast,hi,if_neg (by decide),if_pos (by omega),Option.bind_some,Nat.add_sub_cancel,
   eo r w dd (k+1+a.size+1) e m d hcj.tail (by have:=hpj.tail;rw[show k+a.size+2=k+1+a.size+1 by omega] at this;exact this) hr (by omega),show k+1+a.size+1+r.size=k+(a.size+r.size+2) by omega]
 |.loop i a j r,w,dd,k,e,m,d,hc,hp,hw,hl=>by
  obtain⟨h1,h2,h3,ha,hr⟩:=hw
  simp only[T.flat] at hc
  simp only[T.rq] at hp
  have hi:(cs.getD k zp).1=29:=by rw[C2];show((cs.map bp).getD k default).op=_;rw[hc.head,h1]
  have hcj:=hc.tail.right
  rw[a.flat_length] at hcj
  have hj:(cs.getD (k+1+a.size) zp).1=31:=by rw[C2];show((cs.map bp).getD (k+1+a.size) default).op=_;rw[hcj.head,h2]
  have hpj:=hp.tail.right
  rw[a.rq_length] at hpj
  simp only[T.size] at hl ⊢
  rw[show a.size+r.size+2+m=(a.size+(r.size+m+1))+1 by omega,jZ,hi]
  unfold fQ
  rw[if_neg (by decide),if_neg (by decide),if_pos rfl,hp.head,if_pos (by omega),Option.bind_some,eo a true (dd-1) (k+1) _ (r.size+m+1) d hc.tail.left hp.tail.left ha (by omega),jZ,hj]
  unfold fQ
  rw[if_neg (by decide),if_neg (by decide),if_neg (by decide),if_pos rfl,hpj.head,if_pos (by omega),Int.toNat_natCast,hi,if_pos rfl,Option.bind_some,
   eo r w dd (k+1+a.size+1) e m d hcj.tail (by have:=hpj.tail;rw[show k+a.size+2=k+1+a.size+1 by omega] at this;exact this) hr (by omega),show k+1+a.size+1+r.size=k+(a.size+r.size+2) by omega]
 |.ite2 i a x b j r,w,dd,k,e,m,d,hc,hp,hw,hl=>by
  obtain⟨h1,hx,h2,h3,ha,hb,hr⟩:=hw
  simp only[T.flat] at hc
  simp only[T.rq] at hp
  have hi:(cs.getD k zp).1=27:=by rw[C2];show((cs.map bp).getD k default).op=_;rw[hc.head,h1]
  have hcx:=hc.tail.right
  rw[a.flat_length] at hcx
  have hxo:(cs.getD (k+1+a.size) zp).1=28:=by rw[C2];show((cs.map bp).getD (k+1+a.size) default).op=_;rw[hcx.head,hx]
  have hcj:=hcx.tail.right
  rw[b.flat_length] at hcj
  have hj:(cs.getD (k+1+a.size+1+b.size) zp).1=31:=by rw[C2];show((cs.map bp).getD (k+1+a.size+1+b.size) default).op=_;rw[hcj.head,h2]
  have hpx:=hp.tail.right
  rw[a.rq_length] at hpx
  have hpj:=hpx.tail.right
  rw[b.rq_length] at hpj
  simp only[T.size] at hl ⊢
  rw[show a.size+b.size+r.size+3+m=(a.size+(b.size+(r.size+m+1)+1))+1 by omega,jZ,hi]
  unfold fQ
  rw[if_pos rfl,Option.bind_some,eo a w (dd-1) (k+1) e (b.size+(r.size+m+1)+1) (d+1) hc.tail.left hp.tail.left ha (by omega),jZ,hxo]
  unfold fQ
  have r3:k+a.size+2=k+1+a.size+1:=by omega
  have r4:k+a.size+b.size+3=k+1+a.size+1+b.size+1:=by omega
  rw[if_neg (by decide),if_pos rfl,if_pos (by omega),Option.bind_some,eo b w (dd-1) (k+1+a.size+1) e (r.size+m+1) (d+1) hcx.tail.left (by have:=hpx.tail.left;rw[r3] at this;exact this) hb (by omega),jZ,hj]
  unfold fQ
  rw[if_neg (by decide),if_neg (by decide),if_neg (by decide),if_pos rfl,hpj.head,if_pos (by omega),Int.toNat_natCast,hi,if_neg (by decide),if_pos (by omega),Option.bind_some,Nat.add_sub_cancel,
   eo r w dd (k+1+a.size+1+b.size+1) e m d hcj.tail (by have:=hpj.tail;rw[r4] at this;exact this) hr (by omega),show k+1+a.size+1+b.size+1+r.size=k+(a.size+b.size+r.size+3) by omega]
theorem O0{cs:List In}{t:T}(ht:cs.map bp=t.flat)(hw:t.wf false 8):jZ cs (t.rq 0 0) cs.length 0 0=some 0:=by
 have hl:cs.length=t.size:=by rw[<-t.flat_length,<-ht,List.length_map]
 have:=eo (cs:=cs) (pt:=t.rq 0 0) t false 8 0 0 0 0 (λj hj=>by rw[ht,Nat.zero_add]) (λj hj=>by rw[Nat.zero_add]) hw (by omega)
 rw[hl]
 exact this
/-! ### two walks-/
def ef(cs:List In):Prop:=∀x ∈ cs,0<=x.2.2.2.2/\x.2.2.2.2<4294967296
theorem rZ.inC{la:List (Bool×Int)}{regs par:Int}{cs:List In}(h:rZ la regs par cs):∀x ∈ cs,iM regs par la.length x:=λx hx=>sP (h.ins x hx)
theorem rZ.to{la:List (Bool×Int)}{regs par:Int}{cs:List In}(h:rZ la regs par cs):∀x ∈ cs,(b8 x.1.toNat).getD 1 false=true->0<=x.2.1:=λx hx hs=>by
 have:=(h.inC x hx).to
 rw[if_pos hs] at this
 exact this.1
def rX(cs:List In):List Int:=(oV cs).getD []
theorem rZ.pt{la:List (Bool×Int)}{regs par:Int}{cs:List In}(h:rZ la regs par cs):oV cs=some (rX cs)/\(rX cs).length=cs.length/\jZ cs (rX cs) cs.length 0 0=some 0/\∃t:T,cs.map bp=t.flat/\t.wf false 8/\rX cs=t.rq 0 0:=by
 obtain⟨t,ht,hw⟩:=h.tree
 have hp:=sk ht hw
 have he:rX cs=t.rq 0 0:=by unfold rX;rw[hp];rfl
 rw[he]
 have hl:cs.length=t.size:=by rw[<-t.flat_length,<-ht,List.length_map]
 exact⟨hp,by rw[T.rq_length,hl],O0 ht hw,t,ht,hw,rfl⟩
/-! ### Fold-/
/-! ### Copies-/
/-! ### Share-/
/-! ### Prune-/
/-! ### the exported functions-/
theorem PO{la:List (Bool×Int)}:∀i j,i<la.length->j<2->(aC la i j).cell=true:=λi j _ hj=>by
 have:j=0\/j=1:=by omega
 rcases this with rfl|rfl<;>rfl
/-! ### partners-/
theorem fT{n:Int}:∀(t:T) (k:Nat) (e:Int),(-1<=e/\e<n)->((k+t.size:Nat):Int)<=n->∀x ∈ t.rq k e,-1<=x/\x<n
 |.nil,k,e,he,hk,x,hx=>by cases hx
 |.plain i r,k,e,he,hk,x,hx=>by
  simp only[T.rq,List.mem_cons] at hx
  simp only[T.size] at hk
  rcases hx with rfl|hx
  ·split<;>omega
  ·exact fT r (k+1) e he (by omega) x hx
 |.ite i a j r,k,e,he,hk,x,hx=>by
  simp only[T.rq,List.mem_cons,List.mem_append] at hx
  simp only[T.size] at hk
  rcases hx with rfl|hx|rfl|hx
  ·omega
  ·exact fT a (k+1) e he (by omega) x hx
  ·omega
  ·exact fT r _ e he (by omega) x hx
 |.ite2 i a y b j r,k,e,he,hk,x,hx=>by
  simp only[T.rq,List.mem_cons,List.mem_append] at hx
  simp only[T.size] at hk
  rcases hx with rfl|hx|rfl|hx|rfl|hx
  ·omega
  ·exact fT a (k+1) e he (by omega) x hx
  ·omega
  ·exact fT b _ e he (by omega) x hx
  ·omega
  ·exact fT r _ e he (by omega) x hx
 |.loop i a j r,k,e,he,hk,x,hx=>by
  simp only[T.rq,List.mem_cons,List.mem_append] at hx
  simp only[T.size] at hk
  rcases hx with rfl|hx|rfl|hx
  ·omega
  ·exact fT a (k+1) _ (by omega) (by omega) x hx
  ·omega
  ·exact fT r _ e he (by omega) x hx
/-! ### the rounds-/
/-! ### Optimize-/
/-! ### nesting,by the operations alone-/
def dI:List Int->List NB->Option (List NB)
 |[],o=>some o
 |x::l,o=>(ax x o).bind (dI l)
theorem nN:∀(a b:List Int) (o:List NB),dI (a++b) o=(dI a o).bind (dI b)
 |[],b,o=>rfl
 |x::a,b,o=>by
  rw[List.cons_append,dI,dI,Option.bind_assoc]
  congr 1
  funext o'
  exact nN a b o'
theorem gH:∀(l:List RI) (k:Nat) (o:List NB),(aQ l k o).2=false↔dI (l.map (·.op)) o=some []
 |[],k,o=>by
  simp only[aQ,List.map_nil,dI,decide_eq_false_iff_not,Option.some.injEq]
  constructor
  ·intro h;exact List.eq_nil_of_length_eq_zero (by omega)
  ·rintro rfl;simp
 |i::l,k,o=>by
  rw[aQ,List.map_cons,dI]
  cases h:ax i.op o with
  |none=>simp
  |some o'=>exact gH l (k+1) o'
theorem tV(cs:List In):(cs.map bp).map (·.op)=cs.map (·.1):=by
 rw[List.map_map];rfl
def Iy(op:Int):Prop:=op≠27/\op≠28/\op≠29/\op≠30/\op≠31
theorem n3{op:Int}(h:Iy op)(o:List NB):ax op o=some o:=by
 obtain⟨h1,h2,h3,h4,h5⟩:=h
 unfold ax
 rw[if_neg h1,if_neg h3,if_neg h2,if_neg h4,if_neg h5]
/-! ### what Check asks-/
structure Gd(regs par nA:Int)(x:In):Prop where
 chk:da regs par nA (bp x)=0
 arg:0<=x.2.2.2.2/\x.2.2.2.2<4294967296
theorem ol{regs spills nA:Int}:∀(l:List RI) (k:Nat),(∀i ∈ l,da regs spills nA i=0)->bP regs spills nA l k=none
 |[],_,_=>rfl
 |x::l,k,h=>by
  unfold bP
  rw[if_neg (λhn=>hn (h x (List.mem_cons_self ..)))]
  exact ol l (k+1) λi hi=>h i (List.mem_cons_of_mem _ hi)
/-! ### a walk keeps the nesting-/
variable {F:Type} {D:In->F->Bool} {E:F->F->Bool} {V:In->List F->In×Bool×List F} {cs:List In} {pt:List Int}
/-! ### the instructions that passes make-/
theorem iM.gd{regs par nA:Int}{x:In}(h:iM regs par nA x)(ha:0<=x.2.2.2.2/\x.2.2.2.2<4294967296):Gd regs par nA x:=by
 refine⟨?_,ha⟩
 obtain⟨k,hk⟩:∃k:Nat,x.1=(k:Int):=⟨x.1.toNat,by have:=h.op;omega⟩
 obtain⟨s1,s2,s3⟩:=iR k (by have:=h.op;omega)
 have rr:∀(n:Int) (u v:Bool),u=v->(if v=true then 0<=n/\n<regs else n= -1)->az regs n u=true:=by
  rintro n u v rfl hv
  unfold az
  cases u<;>simp_all
 have e:x.1.toNat=k:=by omega
 have t1:=rr x.2.1 (cn x.1) _ (by rw[e,s1,<-hk]) h.to
 have t2:=rr x.2.2.1 (dA x.1) _ (by unfold xe;rw[e,s2,<-hk]) h.a
 have t3:=rr x.2.2.2.1 (dQ x.1) _ (by unfold xd;rw[e,s3,<-hk]) h.b
 have t4:=h.arg
 have t5:=h.isop
 unfold da
 rw[if_neg (show ¬cZ (bp x).op=false by show ¬cZ x.1=false;rw[t5];simp),if_neg ?_]
 show ¬(az regs x.2.1 (cn x.1)=false\/az regs x.2.2.1 (dA x.1)=false\/az regs x.2.2.2.1 (dQ x.1)=false\/bq nA par x.1<x.2.2.2.2)
 rw[t1,t2,t3];simp;omega
theorem Gd.inC{regs par nA:Int}{x:In}(h:Gd regs par nA x):iM regs par nA x:=sP h.chk
/-! ### Fold-/
/-! ### Copies-/
/-! ### Share-/
/-! ### Prune-/
end Go.Proofs.Yteopfmnnhlhbmaa