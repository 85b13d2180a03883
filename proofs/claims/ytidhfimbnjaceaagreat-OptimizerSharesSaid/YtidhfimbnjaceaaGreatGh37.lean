/- A part of the proof of OptimizerShares: PsA PsB AwA AwB AwC LaB LkE. No condition. -/
import Derived.Test.YtidhfimbnjaceaaGreatGh33
import Derived.Test.YtidhfimbnjaceaaGreatGh36
import Derived.Test.YtidhfimbnjaceaaGreatGh17
import Derived.Test.YtidhfimbnjaceaaGreatGh10
import Derived.Test.YtidhfimbnjaceaaGreatGh13
import Derived.Test.YtidhfimbnjaceaaGreatGh11
set_option linter.unusedSimpArgs false
set_option linter.unusedVariables false
set_option linter.constructorNameAsVariable false
set_option maxRecDepth 100000
set_option maxHeartbeats 4000000
namespace Go.Proofs.YtidhfimbnjaceaaGreat
open Go.RowKit
def ep (cs:List In):Prop:=∀x ∈ cs,0<=x.2.2.2.2/\x.2.2.2.2<4294967296
theorem mU.inC {la:List (Bool×Int)} {regs par:Int} {cs:List In} (h:mU la regs par cs):∀x ∈ cs,sf regs par la.length x:=λx hx=>CC (h.ins x hx)
theorem mU.inOk {la:List (Bool×Int)} {regs:Nat} {par:Int} {cs:List In} (h:mU la regs par cs) (ha:ep cs):∀x ∈ cs,wJ regs x:=λx hx=>(h.inC x hx).ok (ha x hx)
theorem mU.opOk {la:List (Bool×Int)} {regs par:Int} {cs:List In} (h:mU la regs par cs):∀x ∈ cs,Proofs.YtidhfimbnjaceaaGreat.opOk x:=λx hx=>(h.inC x hx).op
def mS (cs:List In):List Int:=(eh cs).getD []
theorem mU.pt {la:List (Bool×Int)} {regs par:Int} {cs:List In} (h:mU la regs par cs):eh cs=some (mS cs)/\(mS cs).length=cs.length/\eV cs (mS cs) cs.length 0 0=some 0/\∃t:T,cs.map cN=t.flat/\t.wf false 8/\mS cs=t.rq 0 0:=by
 obtain⟨t,ht,hw⟩:=h.tree
 have hp:=oD ht hw
 have he:mS cs=t.rq 0 0:=by unfold mS;rw[hp];rfl
 rw[he]
 have hl:cs.length=t.size:=by rw[<-t.flat_length,<-ht,List.length_map]
 exact⟨hp,by rw[T.rq_length,hl],Mj ht hw,t,ht,hw,rfl⟩
theorem jg {F:Type} (D:In->F->Bool) (E:F->F->Bool) (V:In->List F->In×Bool×List F) {cs:List In} {pt:List Int} (hV:∀x ∈ cs,(x.1=27\/x.1=28\/x.1=29\/x.1=31)->∀fs,(V x fs).2.1=true) (hsh:eV cs pt cs.length 0 0=some 0) (fs0:List F):
  ∃s,bS D E V cs pt cs 0 ⟨[],fs0,[]⟩=some s:=by
 obtain⟨a,b,e1,_,_⟩:=CA (cs:=cs) (pt:=pt) (f1:=cy D E V cs pt) (f2:=λ_ _ (s:Unit)=>some s) (λi d s _=>s.op.length=d) (λi d d' s1 s2 hi hs hR=>by
  have hmem:cs.getD i dt ∈ cs:=by rw[List.getD_eq_getElem?_getD,List.getElem?_eq_getElem hi];exact List.getElem_mem _
  have hv:=hV _ hmem
  generalize cs.getD i dt=x at hs hv ⊢
  obtain⟨out,fs,op⟩:=s1
  simp only at hR
  have hsw:∃q,eU D E cs pt i x.1 fs op=some q/\q.2.length=d':=by
   unfold dg at hs
   unfold eU
   by_cases c27:x.1=27
   ·rw[if_pos c27] at hs ⊢;cases hs;exact⟨_,rfl,by simp[hR]⟩
   rw[if_neg c27] at hs ⊢
   by_cases c28:x.1=28
   ·rw[if_pos c28] at hs ⊢
    split at hs
    rotate_left
    ·cases hs
    cases hs
    cases op with
    |nil=>simp at hR;omega
    |cons t r=>exact⟨_,rfl,by simpa using hR⟩
   rw[if_neg c28] at hs ⊢
   by_cases c29:x.1=29
   ·rw[if_pos c29] at hs ⊢
    split at hs
    rotate_left
    ·cases hs
    rename_i hp
    cases hs
    rw[if_pos hp]
    exact⟨_,rfl,hR⟩
   rw[if_neg c29] at hs ⊢
   by_cases c31:x.1=31
   ·rw[if_pos c31] at hs ⊢
    split at hs
    rotate_left
    ·cases hs
    rename_i hp
    rw[if_pos hp]
    split at hs
    ·rename_i hb
     cases hs
     rw[if_pos hb]
     exact⟨_,rfl,hR⟩
    ·rename_i hb
     rw[if_neg hb]
     split at hs
     rotate_left
     ·cases hs
     cases hs
     cases op with
     |nil=>simp at hR;omega
     |cons t r=>exact⟨_,rfl,by simp at hR ⊢;omega⟩
   rw[if_neg c31] at hs ⊢
   cases hs
   exact⟨_,rfl,hR⟩
  by_cases hr:(V x fs).2.1=true
  ·obtain⟨q,hq,hl⟩:=hsw
   refine⟨_,s2,by unfold cy;simp only[hr,if_true,hq,Option.map_some];rfl,rfl,hl⟩
  ·refine⟨_,s2,by unfold cy;rw[if_neg hr],rfl,?_⟩
   have hns:¬(x.1=27\/x.1=28\/x.1=29\/x.1=31):=λh=>hr (hv h fs)
   unfold dg at hs
   rw[if_neg (by omega),if_neg (by omega),if_neg (by omega),if_neg (by omega)] at hs
   cases hs
   exact hR) cs.length 0 0 0 ⟨[],fs0,[]⟩ () (by omega) hsh rfl
 rw[List.drop_zero] at e1
 exact⟨a,by rw[kw];exact e1⟩
/-! ### Fold-/
def fv (regs:Nat) (cs:List In):List In:=((bS DK EK VK cs (mS cs) cs 0 ⟨[],ci regs,[]⟩).map (·.out)).getD []
theorem kg {fs:List (Int×Int)} (hf:∀f ∈ fs,0<=f.2/\f.2<4294967296):∀{rs vs:List Int},cf fs rs=some vs->∀v ∈ vs,0<=v/\v<4294967296
 |[],vs,h,v,hv=>by simp[cf] at h;subst h;cases hv
 |r::rs,vs,h,v,hv=>by
  rw[cf] at h
  split at h
  ·cases h
  rename_i hi
  obtain⟨ws,hw,rfl⟩:=Option.map_eq_some_iff.1 h
  rcases List.mem_cons.1 hv with rfl|hv
  ·rcases i0 (λf:Int×Int=>decide (f.1=r)) fs 0 with⟨h1,_⟩|⟨j,h1,h2,f,h3,_⟩
   ·exact absurd h1 hi
   ·rw[h2,Int.toNat_natCast,Nat.zero_add,List.getD_eq_getElem?_getD,h3]
    exact hf f (List.mem_of_getElem? h3)
  ·exact kg hf hw v hv
theorem tm {vs:List Int} (h:∀v ∈ vs,0<=v/\v<4294967296) (i:Nat):0<=vs.getD i 0/\vs.getD i 0<4294967296:=by
 rw[List.getD_eq_getElem?_getD]
 cases hi:vs[i]? with
 |none=>simp
 |some v=>exact h v (List.mem_of_getElem? hi)
theorem kx {fs:List (Int×Int)} {x:In} (hf:∀f ∈ fs,0<=f.2/\f.2<4294967296) (hx:Proofs.YtidhfimbnjaceaaGreat.opOk x) (harg:0<=x.2.2.2.2/\x.2.2.2.2<4294967296):Proofs.YtidhfimbnjaceaaGreat.opOk (da rS fs x)/\0<=(da rS fs x).2.2.2.2/\(da rS fs x).2.2.2.2<4294967296:=by
 unfold da
 split
 ·exact⟨hx,harg⟩
 split
 ·exact⟨hx,harg⟩
 ·rename_i vs hv
  have hr:=tm (kg hf hv)
  split
  ·split
   ·exact⟨⟨by simp,by simp⟩,wE _ _ _ (hr 0) (hr 1)⟩
   ·exact⟨hx,harg⟩
  ·exact⟨⟨by simp,by simp⟩,hr 0⟩
theorem lP {la:List (Bool×Int)} {na:Nat} {ra:Nat->Nat->AV} {regs:Nat} {par:Int} {cs:List In} (h:mU la regs par cs) (ha:ep cs):a7 Tryz.prog 25 [ag na ra regs par cs] [.v (.fs 5 (fv regs cs).length (cC (fv regs cs)))]:=by
 obtain⟨hp,hpl,hsh,_⟩:=h.pt
 have hr:=h.nregs
 have hn:=h.ncs
 obtain⟨s,hs⟩:=jg DK EK VK (λx hx _ fs=>rfl) hsh (ci regs)
 have he:fv regs cs=s.out:=by unfold fv;rw[hs];rfl
 rw[he]
 refine tC rfl (by omega) ?_
 refine gU (rs:=[.o 37 5 s.out.length 0 (cC s.out)]) ?_ rfl
 refine qs (n0:=regs) (pf:=λf=>0<=f.2/\f.2<4294967296) DK VK 56 58 cs (ci regs) (mS cs) s ?_ ?_ ?_ ?_ (by omega) h.opOk (by rw[fc];exact Nat.le_refl _) (by omega) ?_ hp hpl hs
 ·intro x hx f
  obtain⟨op,to,a,b,arg⟩:=x
  exact rx op to a b arg f hx
 ·intro x hx fs hl hf
  exact rv rS (λop a b h h1 h2=>rM op a b h h1 h2) fs x hl hf (h.opOk x hx)
 ·intro x hx fs hf
  have hk:=kx hf (h.opOk x hx) (ha x hx)
  simp only[VK,gy]
  split
  ·refine⟨by simp,λf hm=>?_⟩
   rw[List.mem_singleton.1 hm]
   exact hk.2
  ·exact⟨by simp,λf hm=>by cases hm⟩
 ·intro x hx fs hf
  exact(kx hf (h.opOk x hx) (ha x hx)).1
 ·intro f hf
  obtain⟨q,_,_,h3⟩:=(o4 regs f.1 f.2).1 hf
  omega
/-! ### Copies-/
def js (cs:List In):List In:=((bS pb (λf g=>decide (f.1=g.1)&&decide (f.2=g.2)) ir cs (mS cs) cs 0 ⟨[],[],[]⟩).map (·.out)).getD []
theorem nS {la:List (Bool×Int)} {na:Nat} {ra:Nat->Nat->AV} {regs par:Int} {cs:List In} (h:mU la regs par cs):a7 Tryz.prog 36 [ag na ra regs par cs] [.v (.fs 5 (js cs).length (cC (js cs)))]:=by
 obtain⟨hp,hpl,hsh,_⟩:=h.pt
 have hn:=h.ncs
 obtain⟨s,hs⟩:=jg pb (λf g=>decide (f.1=g.1)&&decide (f.2=g.2)) ir (λx hx hst fs=>by
  unfold ir jb
  rw[if_neg (by omega)]) hsh []
 have he:js cs=s.out:=by unfold js;rw[hs];rfl
 rw[he]
 exact gU (pc (by omega) h.opOk hp hpl hs) rfl
/-! ### Share-/
def gc (cs:List In):List In:=((bS jr dA eH cs (mS cs) cs 0 ⟨[],[],[]⟩).map (·.out)).getD []
theorem o5 {op:Int} (h:op=27\/op=28\/op=29\/op=31):dv op=false:=by
 rcases h with rfl|rfl|rfl|rfl<;>rfl
theorem m0 {la:List (Bool×Int)} {na:Nat} {ra:Nat->Nat->AV} {regs par:Int} {cs:List In} (h:mU la regs par cs):a7 Tryz.prog 41 [ag na ra regs par cs] [.v (.fs 5 (gc cs).length (cC (gc cs)))]:=by
 obtain⟨hp,hpl,hsh,_⟩:=h.pt
 have hn:=h.ncs
 obtain⟨s,hs⟩:=jg jr dA eH (λx hx hst fs=>by
  unfold eH
  rw[o5 hst]
  rfl) hsh []
 have he:gc cs=s.out:=by unfold gc;rw[hs];rfl
 rw[he]
 exact gU (qv (by omega) h.opOk hp hpl hs) rfl
/-! ### Prune-/
def nw (fuel regs:Nat) (cs:List In):Option Lv:=rounds cs (mS cs) regs fuel (λ_ _=>false)
def ik (fuel regs:Nat) (cs:List In):List In:=match nw fuel regs cs with
 |some L=>kE (eg L cs 0).length (eg L cs 0)
 |none=>[]
theorem rr {cs:List In} {pt:List Int} {i:Nat} (hi:i<cs.length) (hp: -1<=pt.getD i 0/\pt.getD i 0<cs.length):∀nx ∈ i7 cs pt i,0<=nx/\nx<=cs.length:=by
 intro nx hm
 unfold i7 at hm
 split at hm
 ·simp only[List.mem_singleton] at hm;omega
 split at hm
 ·simp only[List.mem_cons,List.mem_singleton,List.not_mem_nil,or_false] at hm;omega
 ·simp only[List.mem_singleton] at hm;omega
/-! ### the exported functions-/
theorem qg {la:List (Bool×Int)}:∀i j,i<la.length->j<2->(aC la i j).cell=true:=λi j _ hj=>by
 have:j=0\/j=1:=by omega
 rcases this with rfl|rfl<;>rfl
theorem i6 {la:List (Bool×Int)} {regs par:Int} {cs cs2:List In} {g:FuncId} (h:mU la regs par cs) (hz:(fe la regs par cs).2=0) (ha:ep cs) (hl:cs2.length<=cs.length) (hg:a7 Tryz.prog g [ag la.length (aC la) regs par cs] [.v (.fs 5 cs2.length (cC cs2))]):
  a7 Tryz.prog 24 [ag la.length (aC la) regs par cs,.f g [] []] [.v (ag la.length (aC la) regs par cs2),.v (.n .i64 0)]:=by
 have hn:=h.ncs
 have hA:=h.nA
 have hc:=lU la regs par cs (by omega) (by omega) ha
 rw[hz] at hc
 exact nW hc hg (gF (by omega) qg (by omega))
theorem tI {la:List (Bool×Int)} {regs par:Int} {cs:List In} {g:FuncId} (hla:la.length<1000000) (hcs:cs.length<1000000) (hz:¬(fe la regs par cs).2=0) (ha:ep cs):
  a7 Tryz.prog 24 [ag la.length (aC la) regs par cs,.f g [] []] [.v ed,.v (.n .i64 (fe la regs par cs).2)]:=
 nX hz (lU la regs par cs hla hcs ha)
theorem iy {F:Type} {D:In->F->Bool} {E:F->F->Bool} {V:In->List F->In×Bool×List F} {cs:List In} {pt:List Int}:∀(l:List In) (i:Nat) (s s2:n5 F),bS D E V cs pt l i s=some s2->s2.out.length<=s.out.length+l.length
 |[],_,s,s2,h=>by cases h;simp
 |x::l,i,s,s2,h=>by
  rw[bS] at h
  obtain⟨s1,h1,h2⟩:=Option.bind_eq_some_iff.1 h
  have:=iy l (i+1) s1 s2 h2
  have h3:s1.out.length<=s.out.length+1:=by
   unfold cy at h1
   split at h1
   ·obtain⟨q,_,rfl⟩:=Option.map_eq_some_iff.1 h1
    simp
   ·cases h1;omega
  simp only[List.length_cons]
  omega
theorem ru {regs:Nat} {cs:List In}:(fv regs cs).length<=cs.length:=by
 unfold fv
 cases h:bS DK EK VK cs (mS cs) cs 0 ⟨[],ci regs,[]⟩ with
 |none=>simp
 |some s=>simpa using iy _ _ _ _ h
theorem tS {cs:List In}:(js cs).length<=cs.length:=by
 unfold js
 cases h:bS pb (λf g=>decide (f.1=g.1)&&decide (f.2=g.2)) ir cs (mS cs) cs 0 ⟨[],[],[]⟩ with
 |none=>simp
 |some s=>simpa using iy _ _ _ _ h
theorem m5 {cs:List In}:(gc cs).length<=cs.length:=by
 unfold gc
 cases h:bS jr dA eH cs (mS cs) cs 0 ⟨[],[],[]⟩ with
 |none=>simp
 |some s=>simpa using iy _ _ _ _ h
theorem r7 {la:List (Bool×Int)} {regs:Nat} {par:Int} {cs:List In} (hz:(fe la regs par cs).2=0) (ha:ep cs):a7 Tryz.prog 10 [ag la.length (aC la) regs par cs] [.v (ag la.length (aC la) regs par (fv regs cs)),.v (.n .i64 0)]:=
 vj (i6 (dh hz) hz ha ru (lP (dh hz) ha))
theorem n9 {la:List (Bool×Int)} {regs par:Int} {cs:List In} (hz:(fe la regs par cs).2=0) (ha:ep cs):a7 Tryz.prog 13 [ag la.length (aC la) regs par cs] [.v (ag la.length (aC la) regs par (js cs)),.v (.n .i64 0)]:=
 pA (i6 (dh hz) hz ha tS (nS (dh hz)))
theorem kM {la:List (Bool×Int)} {regs par:Int} {cs:List In} (hz:(fe la regs par cs).2=0) (ha:ep cs):a7 Tryz.prog 15 [ag la.length (aC la) regs par cs] [.v (ag la.length (aC la) regs par (gc cs)),.v (.n .i64 0)]:=
 rV (i6 (dh hz) hz ha m5 (m0 (dh hz)))
/-! ### partners-/
theorem fP {n:Int}:∀(t:T) (k:Nat) (e:Int),(-1<=e/\e<n)->((k+t.size:Nat):Int)<=n->∀x ∈ t.rq k e,-1<=x/\x<n
 |.nil,k,e,he,hk,x,hx=>by cases hx
 |.plain i r,k,e,he,hk,x,hx=>by
  simp only[T.rq,List.mem_cons] at hx
  simp only[T.size] at hk
  rcases hx with rfl|hx
  ·split<;>omega
  ·exact fP r (k+1) e he (by omega) x hx
 |.ite i a j r,k,e,he,hk,x,hx=>by
  simp only[T.rq,List.mem_cons,List.mem_append] at hx
  simp only[T.size] at hk
  rcases hx with rfl|hx|rfl|hx
  ·omega
  ·exact fP a (k+1) e he (by omega) x hx
  ·omega
  ·exact fP r _ e he (by omega) x hx
 |.ite2 i a y b j r,k,e,he,hk,x,hx=>by
  simp only[T.rq,List.mem_cons,List.mem_append] at hx
  simp only[T.size] at hk
  rcases hx with rfl|hx|rfl|hx|rfl|hx
  ·omega
  ·exact fP a (k+1) e he (by omega) x hx
  ·omega
  ·exact fP b _ e he (by omega) x hx
  ·omega
  ·exact fP r _ e he (by omega) x hx
 |.loop i a j r,k,e,he,hk,x,hx=>by
  simp only[T.rq,List.mem_cons,List.mem_append] at hx
  simp only[T.size] at hk
  rcases hx with rfl|hx|rfl|hx
  ·omega
  ·exact fP a (k+1) _ (by omega) (by omega) x hx
  ·omega
  ·exact fP r _ e he (by omega) x hx
theorem wS {cs:List In} {pt:List Int}:∀(n k d d':Nat),eV cs pt n k d=some d'->∀i,k<=i->i<k+n->∃d1 d2,dg cs pt i (cs.getD i dt).1 d1=some d2
 |0,k,d,d',h,i,h1,h2=>by omega
 |n+1,k,d,d',h,i,h1,h2=>by
  rw[eV] at h
  obtain⟨d1,h3,h4⟩:=Option.bind_eq_some_iff.1 h
  by_cases hi:i=k
  ·subst hi;exact⟨d,d1,h3⟩
  ·exact wS n (k+1) d1 d' h4 i (by omega) (by omega)
theorem mU.ptr {la:List (Bool×Int)} {regs par:Int} {cs:List In} (h:mU la regs par cs):∀i,i<cs.length->(-1<=(mS cs).getD i 0/\(mS cs).getD i 0<cs.length)/\((cs.getD i (0,0,0,0,0)).1=31->0<=(mS cs).getD i 0):=by
 obtain⟨hp,hpl,hsh,t,ht,hw,he⟩:=h.pt
 intro i hi
 have hl:cs.length=t.size:=by rw[<-t.flat_length,<-ht,List.length_map]
 constructor
 ·have hm:(mS cs).getD i 0 ∈ t.rq 0 0:=by
   rw[<-he,List.getD_eq_getElem?_getD,List.getElem?_eq_getElem (by omega)];exact List.getElem_mem _
  exact fP t 0 0 (by omega) (by omega) _ hm
 ·intro h31
  obtain⟨d1,d2,hs⟩:=wS cs.length 0 0 0 hsh i (by omega) (by omega)
  unfold dg at hs
  have h31':(cs.getD i dt).1=31:=h31
  rw[h31',if_neg (by decide),if_neg (by decide),if_neg (by decide),if_pos rfl] at hs
  split at hs
  ·rename_i hp;exact hp.1
  ·cases hs
/-! ### the rounds-/
theorem vT {x:In} {regs:Nat} {par nA:Int} (h:sf regs par nA x) (hi:kp x.1=true):0<=x.2.1/\x.2.1<regs:=by
 have ht:=h.to
 have hs:(b9 x.1.toNat).getD 1 false=true:=by
  obtain⟨k,hk⟩:∃k:Nat,x.1=(k:Int):=⟨x.1.toNat,by have:=h.op;omega⟩
  have hk39:k<39:=by have:=h.op;omega
  rw[hk] at hi ⊢
  rw[Int.toNat_natCast]
  have key:∀k:Nat,k<39->kp (k:Int)=true->(b9 k).getD 1 false=true:=by decide
  exact key k hk39 hi
 rw[if_pos hs] at ht
 exact ht
theorem nd {la:List (Bool×Int)} {regs:Nat} {par:Int} {cs:List In} (fuel:Nat) {L:Lv} (h:mU la regs par cs) (ha:ep cs) (hL:nw fuel regs cs=some L)
  (hdel:kr (eg L cs 0)≠none->n8 Tryz.prog 77 37):
  a7 Tryz.prog 47 [ag la.length (aC la) regs par cs] [.v (.fs 5 (ik fuel regs cs).length (cC (ik fuel regs cs)))]:=by
 obtain⟨hp,hpl,hsh,_⟩:=h.pt
 have hn:=h.ncs
 have hr:=h.nregs
 have hlv:=s9 (na:=la.length) (ra:=aC la) (par:=par) (fuel:=fuel) (Lf:=L) (by omega) (by omega) hp hpl (h.inOk ha) h.ptr (λi hi=>rr hi (h.ptr i hi).1) hL
 have he:ik fuel regs cs=kE (eg L cs 0).length (eg L cs 0):=by unfold ik;rw[hL]
 rw[he]
 exact gU (qF (by omega) (by omega) (h.inOk ha) (λx hx hi=>vT (h.inC x hx) hi) hlv hdel) rfl
theorem wg {cs:List In} {i d:Nat}:(nP cs i d).length<=cs.length:=by
 unfold nP
 rw[List.length_append,List.length_take,List.length_drop]
 omega
theorem qd:∀(f:Nat) (l:List In),(kE f l).length<=l.length
 |0,l=>Nat.le_refl _
 |f+1,l=>by
  rw[kE]
  split
  ·exact Nat.le_refl _
  ·exact Nat.le_trans (qd f _) wg
theorem sL {fuel regs:Nat} {cs:List In}:(ik fuel regs cs).length<=cs.length:=by
 unfold ik
 split
 ·exact Nat.le_trans (qd _ _) (nf _ _ _)
 ·simp
theorem pw {la:List (Bool×Int)} {regs:Nat} {par:Int} {cs:List In} (fuel:Nat) {L:Lv} (hz:(fe la regs par cs).2=0) (ha:ep cs) (hL:nw fuel regs cs=some L)
  (hdel:kr (eg L cs 0)≠none->n8 Tryz.prog 77 37):
  a7 Tryz.prog 17 [ag la.length (aC la) regs par cs] [.v (ag la.length (aC la) regs par (ik fuel regs cs)),.v (.n .i64 0)]:=
 rZ (i6 (dh hz) hz ha sL (nd fuel (dh hz) ha hL hdel))
/-! ### Optimize-/
structure M8 (la:List (Bool×Int)) (regs:Nat) (par:Int) (cs:List In):Prop where
 chk:(fe la regs par cs).2=0
 arg:ep cs
theorem lx {la:List (Bool×Int)} {regs:Nat} {par:Int} {cs:List In} (Good:List In->Prop) (hgood:∀c,Good c->M8 la regs par c) (h1:∀c,Good c->Good (fv regs c)) (h2:∀c,Good c->Good (js c)) (h3:∀c,Good c->Good (gc c)) (fuel:Nat) (hL:∀c,Good c->nw fuel regs c≠none)
  (h4:∀c,Good c->Good (ik fuel regs c)) (hdel:∀c L,Good c->nw fuel regs c=some L->kr (eg L c 0)≠none->n8 Tryz.prog 77 37) (hg:Good cs) (hlen:(kX (λc=>ik fuel regs (gc (js (fv regs c)))) 8 cs).length<=cs.length):
  a7 Tryz.prog 19 [ag la.length (aC la) regs par cs] [.v (ag la.length (aC la) regs par (kX (λc=>ik fuel regs (gc (js (fv regs c)))) 8 cs)),.v (.n .i64 0)]:=by
 have hz:=(hgood cs hg).chk
 have hk:=dh hz
 have hA:=hk.nA
 refine mQ (i6 hk hz (hgood cs hg).arg hlen ?_)
 refine sM (Good:=Good) (by omega) qg (λc hc=>by have:=(dh (hgood c hc).chk).ncs;omega) (λc hc=>⟨lP (dh (hgood c hc).chk) (hgood c hc).arg,h1 c hc⟩) (λc hc=>⟨nS (dh (hgood c hc).chk),h2 c hc⟩) (λc hc=>⟨m0 (dh (hgood c hc).chk),h3 c hc⟩) (λc hc=>⟨?_,h4 c hc⟩) hg
 cases hLc:nw fuel regs c with
 |none=>exact absurd hLc (hL c hc)
 |some L=>exact nd fuel (dh (hgood c hc).chk) (hgood c hc).arg hLc (hdel c L hc hLc)
theorem vV {P:Program} {f:FuncId} {args l l':List AV} (h:a7 P f args (l.map .v)) (hc:∀H,gY [] H l l') (hp:l'.all (AV.pu 3)=true):a7 P f args (l'.map .v):=by
 refine⟨h.1,λφ w args' hφ ha=>(h.2 φ w args' hφ ha).mono λe w' hq=>?_⟩
 cases e with
 |panicked c=>exact hq.elim
 |outgrown=>exact hq.elim
 |returned u=>
  obtain⟨v,Hc,σ',⟨l2,rfl,hr⟩,hv,hHc,hbel,hfz⟩:=hq
  have hl2:∀{l l2:List AV},ju (l.map RT.v) l2 Hc->l2=l:=λ{l l2}=>by
   intro h
   induction l generalizing l2 with
   |nil=>cases l2 with
    |nil=>rfl
    |cons _ _=>exact h.elim
   |cons x l ih=>cases l2 with
    |nil=>exact h.elim
    |cons y l2=>
     have h1:y=x:=h.1.1
     rw[h1,ih h.2]
  have:=hl2 hr
  subst this
  obtain⟨us,hus,hback⟩:=fg hv
  obtain⟨σ2,q1,q2,q3,q4,q5,q6,q7⟩:=hHc.marks []
  have hd:=(hc Hc).ok hHc q1 q2 q7 hus
  refine⟨_,eP Hc [],σ2,⟨_,rfl,kN _ hp⟩,hback (hc Hc).len.symm (hd.mono (Sg.bare_le _)),q6,hbel,λc hc=>?_⟩
  rw[q4 c hc];exact hfz c hc
theorem dR (op to a b arg:Int):a7 Tryz.prog 23 [.n .i64 op,.n .i64 to,.n .i64 a,.n .i64 b,.n .u32 arg] [.v (aQ (op,to,a,b,arg))]:=by
 refine ah aa Dk ⟨by simp,by decide⟩ ?_
 simp only[aW]
 repeat (first|(with_reducible refine GA.go aa rfl ?_)|simp only[go_sem,simprocAttr])
 exact ai rfl rfl
theorem cA {cs:List In}:a7 Tryz.prog 22 [.fs 5 cs.length (cC cs)] [.v (ag 0 (aC []) 4 0 cs)]:=by
 refine vV (l:=[.agg [.sl0,.n .i64 4,.n .i64 0,.fs 5 cs.length (cC cs)]]) (l':=[ag 0 (aC []) 4 0 cs]) ?_ (λH=> .cons (.agg rfl λi v v' h1 h2=>?_) .nil) rfl
 ·refine ah aa Dn ⟨by simp,by decide⟩ ?_
  simp only[aW]
  repeat (first|(with_reducible refine GA.go aa rfl ?_)|simp only[go_sem,simprocAttr])
  exact ai rfl rfl
 ·match i,h1,h2 with
  |0,h1,h2=>cases h1;cases h2;exact .sl0 _ _
  |1,h1,h2=>cases h1;cases h2;exact .rfl rfl
  |2,h1,h2=>cases h1;cases h2;exact .rfl rfl
  |3,h1,h2=>cases h1;cases h2;exact .rfl rfl
  |i+4,h1,h2=>cases h1
def cw:List In:=[(0,0,-1,-1,2),(0,1,-1,-1,3),(8,0,0,1,0),(34,-1,0,-1,0)]
def eL:List In:=[(0,0,-1,-1,2),(0,1,-1,-1,3),(0,0,-1,-1,5),(34,-1,0,-1,0)]
def gJ:List In:=[(0,0,-1,-1,5),(34,-1,0,-1,0)]
def cu:List In:=[(32,1,-1,-1,0),(36,2,1,-1,0),(34,-1,2,-1,0),(34,-1,1,-1,0)]
def eK:List In:=[(32,1,-1,-1,0),(36,2,1,-1,0),(34,-1,1,-1,0),(34,-1,1,-1,0)]
def gI:List In:=[(32,1,-1,-1,0),(34,-1,1,-1,0),(34,-1,1,-1,0)]
def bn:List In:=[(32,0,-1,-1,0),(32,1,-1,-1,0),(8,2,0,1,0),(8,3,0,1,0),(34,-1,3,-1,0)]
def bT:List In:=[(32,0,-1,-1,0),(36,1,0,-1,0),(8,2,0,1,0),(36,3,2,-1,0),(34,-1,3,-1,0)]
def dM:List In:=[(32,0,-1,-1,0),(8,2,0,0,0),(34,-1,2,-1,0)]
def f6:Nat:=8
theorem wv:fv 4 cw=eL:=by kernel_rfl
theorem ug:ik f6 4 eL=gJ:=by kernel_rfl
theorem rJ:js cu=eK:=by kernel_rfl
theorem rI:ik f6 4 eK=gI:=by kernel_rfl
theorem uf:gc bn=bT:=by kernel_rfl
theorem uh:kX (λc=>ik f6 4 (gc (js (fv 4 c)))) 8 bn=dM:=by kernel_rfl
def CS:List (List In):=[bn,bT,[(32,0,-1,-1,0),(32,1,-1,-1,0),(8,3,0,1,0),(34,-1,3,-1,0)],[(32,0,-1,-1,0),(36,1,0,-1,0),(8,2,0,0,0),(36,3,2,-1,0),(34,-1,2,-1,0)],
 [(32,0,-1,-1,0),(36,1,0,-1,0),(8,3,0,1,0),(34,-1,3,-1,0)],dM,[(32,0,-1,-1,0),(36,1,0,-1,0),(8,3,0,0,0),(34,-1,3,-1,0)],[(32,0,-1,-1,0),(8,3,0,0,0),(34,-1,3,-1,0)]]
def CU (cs:List In):Bool:=cs.all λx=>decide (0<=x.2.2.2.2)&&decide (x.2.2.2.2<4294967296)
theorem jd {cs:List In} (h:CU cs=true):ep cs:=λx hx=>by
 have:=List.all_eq_true.1 h x hx
 simpa using this
def nD (cs:List In):Bool:=match nw f6 4 cs with
 |some L=>decide (kr (eg L cs 0)=none)
 |none=>false
theorem kq {cs:List In} (h:nD cs=true):∃L,nw f6 4 cs=some L/\kr (eg L cs 0)=none:=by
 unfold nD at h
 split at h
 ·rename_i L hL;exact⟨L,hL,by simpa using h⟩
 ·cases h
def Qc (p:List In->Bool):Bool:=CS.all p
theorem eR {p:List In->Bool} (h:Qc p=true) {c:List In} (hc:c ∈ CS):p c=true:=List.all_eq_true.1 h c hc
theorem awF:a7 Tryz.prog 10 [ag 0 (aC []) 4 0 cw] [.v (ag 0 (aC []) 4 0 eL),.v (.n .i64 0)]:=by
 have h:=r7 (la:=[]) (regs:=4) (par:=0) (cs:=cw) (by kernel_rfl) (jd (by kernel_rfl))
 rw[wv] at h
 exact h
theorem awP {cs cs2:List In} (hz:(fe [] 4 0 cs).2=0) (ha:CU cs=true) (hh:nD cs=true) (he:ik f6 4 cs=cs2):a7 Tryz.prog 17 [ag 0 (aC []) 4 0 cs] [.v (ag 0 (aC []) 4 0 cs2),.v (.n .i64 0)]:=by
 obtain⟨L,hL,hn⟩:=kq hh
 have h:=pw (la:=[]) (regs:=4) (par:=0) (cs:=cs) f6 hz (jd ha) hL (λhne=>absurd hn hne)
 rw[he] at h
 exact h
theorem Qb:a7 Tryz.prog 17 [ag 0 (aC []) 4 0 eL] [.v (ag 0 (aC []) 4 0 gJ),.v (.n .i64 0)]:=awP (by kernel_rfl) (by kernel_rfl) (by kernel_rfl) ug
theorem awC:a7 Tryz.prog 13 [ag 0 (aC []) 4 0 cu] [.v (ag 0 (aC []) 4 0 eK),.v (.n .i64 0)]:=by
 have h:=n9 (la:=[]) (regs:=4) (par:=0) (cs:=cu) (by kernel_rfl) (jd (by kernel_rfl))
 rw[rJ] at h
 exact h
theorem Qa:a7 Tryz.prog 17 [ag 0 (aC []) 4 0 eK] [.v (ag 0 (aC []) 4 0 gI),.v (.n .i64 0)]:=awP (by kernel_rfl) (by kernel_rfl) (by kernel_rfl) rI
theorem awS:a7 Tryz.prog 15 [ag 0 (aC []) 4 0 bn] [.v (ag 0 (aC []) 4 0 bT),.v (.n .i64 0)]:=by
 have h:=kM (la:=[]) (regs:=4) (par:=0) (cs:=bn) (by kernel_rfl) (jd (by kernel_rfl))
 rw[uf] at h
 exact h
theorem awO:a7 Tryz.prog 19 [ag 0 (aC []) 4 0 bn] [.v (ag 0 (aC []) 4 0 dM),.v (.n .i64 0)]:=by
 have h:=lx (la:=[]) (regs:=4) (par:=0) (cs:=bn) (λc=>c ∈ CS)
  (λc hc=>⟨of_decide_eq_true (eR (p:=λc=>decide ((fe [] 4 0 c).2=0)) (by kernel_rfl) hc),jd (eR (p:=CU) (by kernel_rfl) hc)⟩)
  (λc hc=>of_decide_eq_true (eR (p:=λc=>decide (fv 4 c ∈ CS)) (by kernel_rfl) hc))
  (λc hc=>of_decide_eq_true (eR (p:=λc=>decide (js c ∈ CS)) (by kernel_rfl) hc))
  (λc hc=>of_decide_eq_true (eR (p:=λc=>decide (gc c ∈ CS)) (by kernel_rfl) hc)) f6
  (λc hc=>by
   obtain⟨L,hL,_⟩:=kq (eR (p:=nD) (by kernel_rfl) hc)
   rw[hL];simp)
  (λc hc=>of_decide_eq_true (eR (p:=λc=>decide (ik f6 4 c ∈ CS)) (by kernel_rfl) hc))
  (λc L hc hL hne=>by
   obtain⟨L',hL',hn⟩:=kq (eR (p:=nD) (by kernel_rfl) hc)
   rw[hL] at hL'
   cases hL'
   exact absurd hn hne)
  (of_decide_eq_true (by kernel_rfl)) (by rw[uh];exact of_decide_eq_true (by kernel_rfl))
 rw[uh] at h
 exact h
theorem jt (cs:List In) (h:cs.length<1000000):a7 Tryz.prog 12 [ag 0 (aC []) 4 0 cs,ag 0 (aC []) 4 0 cs] [.v (.b true)]:=by
 have:=kb [] (by decide) 4 0 cs cs h
 rw[decide_eq_true rfl] at this
 exact this
theorem cq {i:Nat} (h:i<4):i=0\/i=1\/i=2\/i=3:=by omega
abbrev cS (cs:List In):List AV:=[.fs 2 0 (aC []),.n .i64 4,.n .i64 0,.fs 5 cs.length (cC cs)]
abbrev mE (x:In):List AV:=[.n .i64 x.1,.n .i64 x.2.1,.n .i64 x.2.2.1,.n .i64 x.2.2.2.1,.n .u32 x.2.2.2.2]
theorem P6 {i:Nat} (h:i<2):i=0\/i=1:=by omega
theorem MI {i:Nat} (h:i<3):i=0\/i=1\/i=2:=by omega
theorem vK {i:Nat} (h:i<4):i=0\/i=1\/i=2\/i=3:=by omega
theorem qU {i:Nat} (h:i<5):i=0\/i=1\/i=2\/i=3\/i=4:=by omega
theorem a8:IntKind.wrap .i64 ((0:Int)+0)=0:=by decide
theorem bC:IntKind.wrap .i64 0=0:=by decide
theorem fA:a7 Tryz.prog 9 [] [.v (.b true)]:=by
 refine ah aa Dg ⟨by simp,by decide⟩ ?_
 simp only[aW]
 repeat (first|(with_reducible refine GA.go aa rfl ?_)|simp only[go_sem,simprocAttr])
 refine ab [] (.cons (.rfl rfl) (.cons (.rfl rfl) (.cons (.rfl rfl) (.cons (.rfl rfl) (.cons (.rfl rfl) .nil))))) (dR _ _ _ _ _) (by simp only[go_sem,simprocAttr]) ?_
 simp only[aQ,go_sem,simprocAttr]
 refine ab [] (.cons (.rfl rfl) (.cons (.rfl rfl) (.cons (.rfl rfl) (.cons (.rfl rfl) (.cons (.rfl rfl) .nil))))) (dR _ _ _ _ _) (by simp only[go_sem,simprocAttr]) ?_
 simp only[aQ,go_sem,simprocAttr]
 refine ab [] (.cons (.rfl rfl) (.cons (.rfl rfl) (.cons (.rfl rfl) (.cons (.rfl rfl) (.cons (.rfl rfl) .nil))))) (dR _ _ _ _ _) (by simp only[go_sem,simprocAttr]) ?_
 simp only[aQ,go_sem,simprocAttr]
 refine ab [] (.cons (.rfl rfl) (.cons (.rfl rfl) (.cons (.rfl rfl) (.cons (.rfl rfl) (.cons (.rfl rfl) .nil))))) (dR _ _ _ _ _) (by simp only[go_sem,simprocAttr]) ?_
 simp only[aQ,go_sem,simprocAttr]
 refine ab [0] (fargs:=[.fs 5 cw.length (cC cw)]) (.cons (.sl (x:=_) (by simp) (by simp only[go_sem,simprocAttr]<;>rfl) (by simp only[cw,go_sem,simprocAttr]<;>decide) (by decide) (by simp only[go_sem,simprocAttr]<;>decide) (λi j hi hj=>?_) (λi j _ hj=>bj i hj)) .nil) cA (by simp only[go_sem,simprocAttr]) ?_
 ·rcases vK hi with rfl|rfl|rfl|rfl<;>rcases bZ hj with rfl|rfl|rfl|rfl|rfl<;>rfl
 simp only[ag,aQ,go_sem,simprocAttr]
 refine GA.wk (Wk.mk (L:=[(1,.p 0 0)]) (bl:=[ax 0 25 (cS cw)]) [1] [] ?_ ?_ ?_) ?_
 ·simp only[aP,aR,go_sem,simprocAttr]
  repeat' refine ae ?_ ?_
  all_goals first|exact dX|skip
 ·exact .cons rfl (.lsti (x:=_) (by simp only[go_sem,simprocAttr]<;>rfl) (by rfl) (by rfl) (by rfl) (by rfl) (by rfl) (by rfl) (by simp) (λi hi=>by rcases cq hi with rfl|rfl|rfl|rfl<;>(simp only[cS,go_sem,simprocAttr];first|done|rfl)) (by rfl)) (.nil)
 ·simp
 have hF:=awF
 have hP1:=Qb
 simp only[ag] at hF hP1
 repeat (first|(with_reducible refine GA.go aa rfl ?_)|simp only[go_sem,simprocAttr])
 refine ab [] (.cons (.rfl (by rfl)) .nil) hF (by simp only[go_sem,simprocAttr]) ?_
 simp only[ag,go_sem,simprocAttr]
 refine GA.wk (Wk.mk (L:=[(1,.p 0 0),(2,.p 1 0),(3,.n .i64 0)]) (bl:=[ax 0 25 (cS eL),ax 0 25 (cS cw)]) [1,0] [] ?_ ?_ ?_) ?_
 ·simp only[aP,aR,go_sem,simprocAttr]
  repeat' refine ae ?_ ?_
  all_goals first|exact dX|skip
 ·exact .cons rfl (.lsti (x:=_) (by simp only[go_sem,simprocAttr]<;>rfl) (by rfl) (by rfl) (by rfl) (by rfl) (by rfl) (by rfl) (by simp) (λi hi=>by rcases cq hi with rfl|rfl|rfl|rfl<;>(simp only[cS,go_sem,simprocAttr];first|done|rfl)) (by rfl)) (.cons rfl (.lsti (x:=_) (by simp only[go_sem,simprocAttr]<;>rfl) (by rfl) (by rfl) (by rfl) (by rfl) (by rfl) (by rfl) (by simp) (λi hi=>by rcases cq hi with rfl|rfl|rfl|rfl<;>(simp only[cS,go_sem,simprocAttr];first|done|rfl)) (by rfl)) (.nil))
 ·simp
 repeat (first|(with_reducible refine GA.go aa rfl ?_)|simp only[go_sem,simprocAttr])
 refine ab [] (.cons (.rfl (by rfl)) .nil) hP1 (by simp only[go_sem,simprocAttr]) ?_
 simp only[ag,go_sem,simprocAttr]
 refine GA.wk (Wk.mk (L:=[(1,.p 0 0),(2,.p 1 0),(4,.p 2 0),(3,.n .i64 0),(5,.n .i64 0)]) (bl:=[ax 0 25 (cS gJ),ax 0 25 (cS eL),ax 0 25 (cS cw)]) [2,1,0] [] ?_ ?_ ?_) ?_
 ·simp only[aP,aR,go_sem,simprocAttr]
  repeat' refine ae ?_ ?_
  all_goals first|exact dX|skip
 ·exact .cons rfl (.lsti (x:=_) (by simp only[go_sem,simprocAttr]<;>rfl) (by rfl) (by rfl) (by rfl) (by rfl) (by rfl) (by rfl) (by simp) (λi hi=>by rcases cq hi with rfl|rfl|rfl|rfl<;>(simp only[cS,go_sem,simprocAttr];first|done|rfl)) (by rfl)) (.cons rfl (.lsti (x:=_) (by simp only[go_sem,simprocAttr]<;>rfl) (by rfl) (by rfl) (by rfl) (by rfl) (by rfl) (by rfl) (by simp) (λi hi=>by rcases cq hi with rfl|rfl|rfl|rfl<;>(simp only[cS,go_sem,simprocAttr];first|done|rfl)) (by rfl)) (.cons rfl (.lsti (x:=_) (by simp only[go_sem,simprocAttr]<;>rfl) (by rfl) (by rfl) (by rfl) (by rfl) (by rfl) (by rfl) (by simp) (λi hi=>by rcases cq hi with rfl|rfl|rfl|rfl<;>(simp only[cS,go_sem,simprocAttr];first|done|rfl)) (by rfl)) (.nil)))
 ·simp
 repeat (first|(with_reducible refine GA.go aa rfl ?_)|simp only[go_sem,simprocAttr])
 refine ab [] (.cons (.rfl rfl) (.cons (.rfl rfl) (.cons (.rfl rfl) (.cons (.rfl rfl) (.cons (.rfl rfl) .nil))))) (dR _ _ _ _ _) (by simp only[go_sem,simprocAttr]) ?_
 simp only[aQ,go_sem,simprocAttr]
 refine GA.wk (Wk.mk (L:=[(1,.p 0 0),(2,.p 1 0),(4,.p 2 0),(6,.p 3 0),(3,.n .i64 0),(5,.n .i64 0)]) (bl:=[ax 0 37 (mE (0,0,-1,-1,5)),ax 0 25 (cS gJ),ax 0 25 (cS eL),ax 0 25 (cS cw)]) [3,2,1,0] [] ?_ ?_ ?_) ?_
 ·simp only[aP,aR,go_sem,simprocAttr]
  repeat' refine ae ?_ ?_
  all_goals first|exact dX|skip
 ·exact .cons rfl (.lsti (x:=_) (by simp only[go_sem,simprocAttr]<;>rfl) (by rfl) (by rfl) (by rfl) (by rfl) (by rfl) (by rfl) (by simp) (λi hi=>by rcases bZ hi with rfl|rfl|rfl|rfl|rfl<;>(simp only[mE,go_sem,simprocAttr];first|done|rfl)) (by rfl)) (.cons rfl (.lsti (x:=_) (by simp only[go_sem,simprocAttr]<;>rfl) (by rfl) (by rfl) (by rfl) (by rfl) (by rfl) (by rfl) (by simp) (λi hi=>by rcases cq hi with rfl|rfl|rfl|rfl<;>(simp only[cS,go_sem,simprocAttr];first|done|rfl)) (by rfl)) (.cons rfl (.lsti (x:=_) (by simp only[go_sem,simprocAttr]<;>rfl) (by rfl) (by rfl) (by rfl) (by rfl) (by rfl) (by rfl) (by simp) (λi hi=>by rcases cq hi with rfl|rfl|rfl|rfl<;>(simp only[cS,go_sem,simprocAttr];first|done|rfl)) (by rfl)) (.cons rfl (.lsti (x:=_) (by simp only[go_sem,simprocAttr]<;>rfl) (by rfl) (by rfl) (by rfl) (by rfl) (by rfl) (by rfl) (by simp) (λi hi=>by rcases cq hi with rfl|rfl|rfl|rfl<;>(simp only[cS,go_sem,simprocAttr];first|done|rfl)) (by rfl)) (.nil))))
 ·simp
 have hl0:(0:Int)<(cw.length:Int):=by decide
 have hp0:(0:Int)<=0:=by decide
 have hn0:Int.toNat 0=0:=rfl
 have hc00:cC cw 0 0= .n .i64 (0):=rfl
 have hc01:cC cw 0 1= .n .i64 (0):=rfl
 have hc02:cC cw 0 2= .n .i64 (-1):=rfl
 have hc03:cC cw 0 3= .n .i64 (-1):=rfl
 have hc04:cC cw 0 4= .n .u32 (2):=rfl
 have hl1:(1:Int)<(cw.length:Int):=by decide
 have hp1:(0:Int)<=1:=by decide
 have hn1:Int.toNat 1=1:=rfl
 have hc10:cC cw 1 0= .n .i64 (0):=rfl
 have hc11:cC cw 1 1= .n .i64 (1):=rfl
 have hc12:cC cw 1 2= .n .i64 (-1):=rfl
 have hc13:cC cw 1 3= .n .i64 (-1):=rfl
 have hc14:cC cw 1 4= .n .u32 (3):=rfl
 have hl3:(3:Int)<(cw.length:Int):=by decide
 have hp3:(0:Int)<=3:=by decide
 have hn3:Int.toNat 3=3:=rfl
 have hc30:cC cw 3 0= .n .i64 (34):=rfl
 have hc31:cC cw 3 1= .n .i64 (-1):=rfl
 have hc32:cC cw 3 2= .n .i64 (0):=rfl
 have hc33:cC cw 3 3= .n .i64 (-1):=rfl
 have hc34:cC cw 3 4= .n .u32 (0):=rfl
 with_reducible refine GA.seq ?_
 with_reducible refine GA.seq ?_
 with_reducible refine GA.mixv aa ?_ ?_
 ·rfl
 try simp only[aw,aH,av,au,aG,aF,aE,bL,bN,bO,bM,bt,br,aY,aZ,aJ,bu,hl0,hp0,hn0,hc00,hc01,hc02,hc03,hc04,hl1,hp1,hn1,hc10,hc11,hc12,hc13,hc14,hl3,hp3,hn3,hc30,hc31,hc32,hc33,hc34,a8,bC,decide_true,decide_false,go_sem,simprocAttr]
 repeat (rw[bD];simp only[aw,aH,av,au,aG,aF,aE,bL,bN,bO,bM,bt,br,aY,aZ,aJ,bu,hl0,hp0,hn0,hc00,hc01,hc02,hc03,hc04,hl1,hp1,hn1,hc10,hc11,hc12,hc13,hc14,hl3,hp3,hn3,hc30,hc31,hc32,hc33,hc34,a8,bC,decide_true,decide_false,go_sem,simprocAttr])
 refine ab [4] (fargs:=[.fs 5 eL.length (cC eL)]) (.cons (.sl (x:=_) (by simp) (by simp only[go_sem,simprocAttr]<;>rfl) (by simp only[eL,go_sem,simprocAttr]<;>decide) (by decide) (by simp only[go_sem,simprocAttr]<;>decide) (λi j hi hj=>?_) (λi j _ hj=>bj i hj)) .nil) cA (by simp only[go_sem,simprocAttr]) ?_
 ·rcases vK hi with rfl|rfl|rfl|rfl<;>rcases bZ hj with rfl|rfl|rfl|rfl|rfl<;>rfl
 simp only[ag,aQ,aw,aH,av,au,aG,aF,aE,bL,bN,bO,bM,bt,br,aY,aZ,aJ,bu,hl0,hp0,hn0,hc00,hc01,hc02,hc03,hc04,hl1,hp1,hn1,hc10,hc11,hc12,hc13,hc14,hl3,hp3,hn3,hc30,hc31,hc32,hc33,hc34,a8,bC,decide_true,decide_false,go_sem,simprocAttr]
 try simp only[aw,aH,av,au,aG,aF,aE,bL,bN,bO,bM,bt,br,aY,aZ,aJ,bu,hl0,hp0,hn0,hc00,hc01,hc02,hc03,hc04,hl1,hp1,hn1,hc10,hc11,hc12,hc13,hc14,hl3,hp3,hn3,hc30,hc31,hc32,hc33,hc34,a8,bC,decide_true,decide_false,go_sem,simprocAttr]
 repeat (rw[bD];simp only[aw,aH,av,au,aG,aF,aE,bL,bN,bO,bM,bt,br,aY,aZ,aJ,bu,hl0,hp0,hn0,hc00,hc01,hc02,hc03,hc04,hl1,hp1,hn1,hc10,hc11,hc12,hc13,hc14,hl3,hp3,hn3,hc30,hc31,hc32,hc33,hc34,a8,bC,decide_true,decide_false,go_sem,simprocAttr])
 refine ab [] (.cons (.rfl (by rfl)) (.cons (.rfl (by rfl)) .nil)) (by have:=jt eL (by decide);simp only[ag] at this;exact this) (by simp only[go_sem,simprocAttr]) ?_
 try simp only[aw,aH,av,au,aG,aF,aE,bL,bN,bO,bM,bt,br,aY,aZ,aJ,bu,hl0,hp0,hn0,hc00,hc01,hc02,hc03,hc04,hl1,hp1,hn1,hc10,hc11,hc12,hc13,hc14,hl3,hp3,hn3,hc30,hc31,hc32,hc33,hc34,a8,bC,decide_true,decide_false,go_sem,simprocAttr]
 repeat (rw[bD];simp only[aw,aH,av,au,aG,aF,aE,bL,bN,bO,bM,bt,br,aY,aZ,aJ,bu,hl0,hp0,hn0,hc00,hc01,hc02,hc03,hc04,hl1,hp1,hn1,hc10,hc11,hc12,hc13,hc14,hl3,hp3,hn3,hc30,hc31,hc32,hc33,hc34,a8,bC,decide_true,decide_false,go_sem,simprocAttr])
 refine ab [5] (fargs:=[.fs 5 gJ.length (cC gJ)]) (.cons (.sl (x:=_) (by simp) (by simp only[go_sem,simprocAttr]<;>rfl) (by simp only[gJ,go_sem,simprocAttr]<;>decide) (by decide) (by simp only[go_sem,simprocAttr]<;>decide) (λi j hi hj=>?_) (λi j _ hj=>bj i hj)) .nil) cA (by simp only[go_sem,simprocAttr]) ?_
 ·rcases P6 hi with rfl|rfl<;>rcases bZ hj with rfl|rfl|rfl|rfl|rfl<;>rfl
 simp only[ag,aQ,aw,aH,av,au,aG,aF,aE,bL,bN,bO,bM,bt,br,aY,aZ,aJ,bu,hl0,hp0,hn0,hc00,hc01,hc02,hc03,hc04,hl1,hp1,hn1,hc10,hc11,hc12,hc13,hc14,hl3,hp3,hn3,hc30,hc31,hc32,hc33,hc34,a8,bC,decide_true,decide_false,go_sem,simprocAttr]
 try simp only[aw,aH,av,au,aG,aF,aE,bL,bN,bO,bM,bt,br,aY,aZ,aJ,bu,hl0,hp0,hn0,hc00,hc01,hc02,hc03,hc04,hl1,hp1,hn1,hc10,hc11,hc12,hc13,hc14,hl3,hp3,hn3,hc30,hc31,hc32,hc33,hc34,a8,bC,decide_true,decide_false,go_sem,simprocAttr]
 repeat (rw[bD];simp only[aw,aH,av,au,aG,aF,aE,bL,bN,bO,bM,bt,br,aY,aZ,aJ,bu,hl0,hp0,hn0,hc00,hc01,hc02,hc03,hc04,hl1,hp1,hn1,hc10,hc11,hc12,hc13,hc14,hl3,hp3,hn3,hc30,hc31,hc32,hc33,hc34,a8,bC,decide_true,decide_false,go_sem,simprocAttr])
 refine ab [] (.cons (.rfl (by rfl)) (.cons (.rfl (by rfl)) .nil)) (by have:=jt gJ (by decide);simp only[ag] at this;exact this) (by simp only[go_sem,simprocAttr]) ?_
 try simp only[aw,aH,av,au,aG,aF,aE,bL,bN,bO,bM,bt,br,aY,aZ,aJ,bu,hl0,hp0,hn0,hc00,hc01,hc02,hc03,hc04,hl1,hp1,hn1,hc10,hc11,hc12,hc13,hc14,hl3,hp3,hn3,hc30,hc31,hc32,hc33,hc34,a8,bC,decide_true,decide_false,go_sem,simprocAttr]
 repeat (rw[bD];simp only[aw,aH,av,au,aG,aF,aE,bL,bN,bO,bM,bt,br,aY,aZ,aJ,bu,hl0,hp0,hn0,hc00,hc01,hc02,hc03,hc04,hl1,hp1,hn1,hc10,hc11,hc12,hc13,hc14,hl3,hp3,hn3,hc30,hc31,hc32,hc33,hc34,a8,bC,decide_true,decide_false,go_sem,simprocAttr])
 (try simp only[go_sem,simprocAttr])
 iterate 2 (with_reducible refine GA.go aa rfl ?_;try simp only[go_sem,simprocAttr])
 refine GA.wk (Wk.mk (L:=[]) (bl:=[]) [] [] ?_ ?_ ?_) ?_
 ·simp only[aP,aR,go_sem,simprocAttr]
  repeat' refine ae ?_ ?_
  all_goals first|exact dX|skip
 ·exact True.intro
 ·simp
 clear hF hP1 hl0 hp0 hn0 hc00 hc01 hc02 hc03 hc04 hl1 hp1 hn1 hc10 hc11 hc12 hc13 hc14 hl3 hp3 hn3 hc30 hc31 hc32 hc33 hc34
 repeat (first|(with_reducible refine GA.go aa rfl ?_)|simp only[go_sem,simprocAttr])
 refine ab [] (.cons (.rfl rfl) (.cons (.rfl rfl) (.cons (.rfl rfl) (.cons (.rfl rfl) (.cons (.rfl rfl) .nil))))) (dR _ _ _ _ _) (by simp only[go_sem,simprocAttr]) ?_
 simp only[aQ,go_sem,simprocAttr]
 refine ab [] (.cons (.rfl rfl) (.cons (.rfl rfl) (.cons (.rfl rfl) (.cons (.rfl rfl) (.cons (.rfl rfl) .nil))))) (dR _ _ _ _ _) (by simp only[go_sem,simprocAttr]) ?_
 simp only[aQ,go_sem,simprocAttr]
 refine ab [] (.cons (.rfl rfl) (.cons (.rfl rfl) (.cons (.rfl rfl) (.cons (.rfl rfl) (.cons (.rfl rfl) .nil))))) (dR _ _ _ _ _) (by simp only[go_sem,simprocAttr]) ?_
 simp only[aQ,go_sem,simprocAttr]
 refine ab [] (.cons (.rfl rfl) (.cons (.rfl rfl) (.cons (.rfl rfl) (.cons (.rfl rfl) (.cons (.rfl rfl) .nil))))) (dR _ _ _ _ _) (by simp only[go_sem,simprocAttr]) ?_
 simp only[aQ,go_sem,simprocAttr]
 refine ab [0] (fargs:=[.fs 5 cu.length (cC cu)]) (.cons (.sl (x:=_) (by simp) (by simp only[go_sem,simprocAttr]<;>rfl) (by simp only[cu,go_sem,simprocAttr]<;>decide) (by decide) (by simp only[go_sem,simprocAttr]<;>decide) (λi j hi hj=>?_) (λi j _ hj=>bj i hj)) .nil) cA (by simp only[go_sem,simprocAttr]) ?_
 ·rcases vK hi with rfl|rfl|rfl|rfl<;>rcases bZ hj with rfl|rfl|rfl|rfl|rfl<;>rfl
 simp only[ag,aQ,go_sem,simprocAttr]
 refine GA.wk (Wk.mk (L:=[(7,.p 0 0)]) (bl:=[ax 0 25 (cS cu)]) [1] [] ?_ ?_ ?_) ?_
 ·simp only[aP,aR,go_sem,simprocAttr]
  repeat' refine ae ?_ ?_
  all_goals first|exact dX|skip
 ·exact .cons rfl (.lsti (x:=_) (by simp only[go_sem,simprocAttr]<;>rfl) (by rfl) (by rfl) (by rfl) (by rfl) (by rfl) (by rfl) (by simp) (λi hi=>by rcases cq hi with rfl|rfl|rfl|rfl<;>(simp only[cS,go_sem,simprocAttr];first|done|rfl)) (by rfl)) (.nil)
 ·simp
 have hF:=awC
 have hP1:=Qa
 simp only[ag] at hF hP1
 repeat (first|(with_reducible refine GA.go aa rfl ?_)|simp only[go_sem,simprocAttr])
 refine ab [] (.cons (.rfl (by rfl)) .nil) hF (by simp only[go_sem,simprocAttr]) ?_
 simp only[ag,go_sem,simprocAttr]
 refine GA.wk (Wk.mk (L:=[(7,.p 0 0),(8,.p 1 0),(3,.n .i64 0)]) (bl:=[ax 0 25 (cS eK),ax 0 25 (cS cu)]) [1,0] [] ?_ ?_ ?_) ?_
 ·simp only[aP,aR,go_sem,simprocAttr]
  repeat' refine ae ?_ ?_
  all_goals first|exact dX|skip
 ·exact .cons rfl (.lsti (x:=_) (by simp only[go_sem,simprocAttr]<;>rfl) (by rfl) (by rfl) (by rfl) (by rfl) (by rfl) (by rfl) (by simp) (λi hi=>by rcases cq hi with rfl|rfl|rfl|rfl<;>(simp only[cS,go_sem,simprocAttr];first|done|rfl)) (by rfl)) (.cons rfl (.lsti (x:=_) (by simp only[go_sem,simprocAttr]<;>rfl) (by rfl) (by rfl) (by rfl) (by rfl) (by rfl) (by rfl) (by simp) (λi hi=>by rcases cq hi with rfl|rfl|rfl|rfl<;>(simp only[cS,go_sem,simprocAttr];first|done|rfl)) (by rfl)) (.nil))
 ·simp
 repeat (first|(with_reducible refine GA.go aa rfl ?_)|simp only[go_sem,simprocAttr])
 refine ab [] (.cons (.rfl (by rfl)) .nil) hP1 (by simp only[go_sem,simprocAttr]) ?_
 simp only[ag,go_sem,simprocAttr]
 refine GA.wk (Wk.mk (L:=[(7,.p 0 0),(8,.p 1 0),(9,.p 2 0),(3,.n .i64 0),(5,.n .i64 0)]) (bl:=[ax 0 25 (cS gI),ax 0 25 (cS eK),ax 0 25 (cS cu)]) [2,1,0] [] ?_ ?_ ?_) ?_
 ·simp only[aP,aR,go_sem,simprocAttr]
  repeat' refine ae ?_ ?_
  all_goals first|exact dX|skip
 ·exact .cons rfl (.lsti (x:=_) (by simp only[go_sem,simprocAttr]<;>rfl) (by rfl) (by rfl) (by rfl) (by rfl) (by rfl) (by rfl) (by simp) (λi hi=>by rcases cq hi with rfl|rfl|rfl|rfl<;>(simp only[cS,go_sem,simprocAttr];first|done|rfl)) (by rfl)) (.cons rfl (.lsti (x:=_) (by simp only[go_sem,simprocAttr]<;>rfl) (by rfl) (by rfl) (by rfl) (by rfl) (by rfl) (by rfl) (by simp) (λi hi=>by rcases cq hi with rfl|rfl|rfl|rfl<;>(simp only[cS,go_sem,simprocAttr];first|done|rfl)) (by rfl)) (.cons rfl (.lsti (x:=_) (by simp only[go_sem,simprocAttr]<;>rfl) (by rfl) (by rfl) (by rfl) (by rfl) (by rfl) (by rfl) (by simp) (λi hi=>by rcases cq hi with rfl|rfl|rfl|rfl<;>(simp only[cS,go_sem,simprocAttr];first|done|rfl)) (by rfl)) (.nil)))
 ·simp
 have hl0:(0:Int)<(cu.length:Int):=by decide
 have hp0:(0:Int)<=0:=by decide
 have hn0:Int.toNat 0=0:=rfl
 have hc00:cC cu 0 0= .n .i64 (32):=rfl
 have hc01:cC cu 0 1= .n .i64 (1):=rfl
 have hc02:cC cu 0 2= .n .i64 (-1):=rfl
 have hc03:cC cu 0 3= .n .i64 (-1):=rfl
 have hc04:cC cu 0 4= .n .u32 (0):=rfl
 have hl1:(1:Int)<(cu.length:Int):=by decide
 have hp1:(0:Int)<=1:=by decide
 have hn1:Int.toNat 1=1:=rfl
 have hc10:cC cu 1 0= .n .i64 (36):=rfl
 have hc11:cC cu 1 1= .n .i64 (2):=rfl
 have hc12:cC cu 1 2= .n .i64 (1):=rfl
 have hc13:cC cu 1 3= .n .i64 (-1):=rfl
 have hc14:cC cu 1 4= .n .u32 (0):=rfl
 have hl3:(3:Int)<(cu.length:Int):=by decide
 have hp3:(0:Int)<=3:=by decide
 have hn3:Int.toNat 3=3:=rfl
 have hc30:cC cu 3 0= .n .i64 (34):=rfl
 have hc31:cC cu 3 1= .n .i64 (-1):=rfl
 have hc32:cC cu 3 2= .n .i64 (1):=rfl
 have hc33:cC cu 3 3= .n .i64 (-1):=rfl
 have hc34:cC cu 3 4= .n .u32 (0):=rfl
 with_reducible refine GA.seq ?_
 with_reducible refine GA.reg ?_
 simp only[hl0,hp0,hn0,hc00,hc01,hc02,hc03,hc04,hl1,hp1,hn1,hc10,hc11,hc12,hc13,hc14,hl3,hp3,hn3,hc30,hc31,hc32,hc33,hc34,a8,bC,decide_true,decide_false,go_sem,simprocAttr]
 refine GA.wk (Wk.mk (L:=[(7,.p 0 0),(8,.p 1 0),(9,.p 2 0),(10,.p 3 0),(3,.n .i64 0),(5,.n .i64 0)]) (bl:=[ax 0 37 (mE (34,-1,1,-1,0)),ax 0 25 (cS gI),ax 0 25 (cS eK),ax 0 25 (cS cu)]) [3,2,1,0] [] ?_ ?_ ?_) ?_
 ·simp only[aP,aR,go_sem,simprocAttr]
  repeat' refine ae ?_ ?_
  all_goals first|exact dX|skip
 ·exact .cons rfl (.lsti (x:=_) (by simp only[go_sem,simprocAttr]<;>rfl) (by rfl) (by rfl) (by rfl) (by rfl) (by rfl) (by rfl) (by simp) (λi hi=>by rcases bZ hi with rfl|rfl|rfl|rfl|rfl<;>(simp only[mE,go_sem,simprocAttr];first|done|rfl)) (by rfl)) (.cons rfl (.lsti (x:=_) (by simp only[go_sem,simprocAttr]<;>rfl) (by rfl) (by rfl) (by rfl) (by rfl) (by rfl) (by rfl) (by simp) (λi hi=>by rcases cq hi with rfl|rfl|rfl|rfl<;>(simp only[cS,go_sem,simprocAttr];first|done|rfl)) (by rfl)) (.cons rfl (.lsti (x:=_) (by simp only[go_sem,simprocAttr]<;>rfl) (by rfl) (by rfl) (by rfl) (by rfl) (by rfl) (by rfl) (by simp) (λi hi=>by rcases cq hi with rfl|rfl|rfl|rfl<;>(simp only[cS,go_sem,simprocAttr];first|done|rfl)) (by rfl)) (.cons rfl (.lsti (x:=_) (by simp only[go_sem,simprocAttr]<;>rfl) (by rfl) (by rfl) (by rfl) (by rfl) (by rfl) (by rfl) (by simp) (λi hi=>by rcases cq hi with rfl|rfl|rfl|rfl<;>(simp only[cS,go_sem,simprocAttr];first|done|rfl)) (by rfl)) (.nil))))
 ·simp
 with_reducible refine GA.seq ?_
 with_reducible refine GA.seq ?_
 with_reducible refine GA.mixv aa ?_ ?_
 ·rfl
 try simp only[aw,aH,av,au,aG,aF,aE,bL,bN,bO,bM,bt,br,aY,aZ,aJ,bu,hl0,hp0,hn0,hc00,hc01,hc02,hc03,hc04,hl1,hp1,hn1,hc10,hc11,hc12,hc13,hc14,hl3,hp3,hn3,hc30,hc31,hc32,hc33,hc34,a8,bC,decide_true,decide_false,go_sem,simprocAttr]
 repeat (rw[bD];simp only[aw,aH,av,au,aG,aF,aE,bL,bN,bO,bM,bt,br,aY,aZ,aJ,bu,hl0,hp0,hn0,hc00,hc01,hc02,hc03,hc04,hl1,hp1,hn1,hc10,hc11,hc12,hc13,hc14,hl3,hp3,hn3,hc30,hc31,hc32,hc33,hc34,a8,bC,decide_true,decide_false,go_sem,simprocAttr])
 refine ab [4] (fargs:=[.fs 5 eK.length (cC eK)]) (.cons (.sl (x:=_) (by simp) (by simp only[go_sem,simprocAttr]<;>rfl) (by simp only[eK,go_sem,simprocAttr]<;>decide) (by decide) (by simp only[go_sem,simprocAttr]<;>decide) (λi j hi hj=>?_) (λi j _ hj=>bj i hj)) .nil) cA (by simp only[go_sem,simprocAttr]) ?_
 ·rcases vK hi with rfl|rfl|rfl|rfl<;>rcases bZ hj with rfl|rfl|rfl|rfl|rfl<;>rfl
 simp only[ag,aQ,aw,aH,av,au,aG,aF,aE,bL,bN,bO,bM,bt,br,aY,aZ,aJ,bu,hl0,hp0,hn0,hc00,hc01,hc02,hc03,hc04,hl1,hp1,hn1,hc10,hc11,hc12,hc13,hc14,hl3,hp3,hn3,hc30,hc31,hc32,hc33,hc34,a8,bC,decide_true,decide_false,go_sem,simprocAttr]
 try simp only[aw,aH,av,au,aG,aF,aE,bL,bN,bO,bM,bt,br,aY,aZ,aJ,bu,hl0,hp0,hn0,hc00,hc01,hc02,hc03,hc04,hl1,hp1,hn1,hc10,hc11,hc12,hc13,hc14,hl3,hp3,hn3,hc30,hc31,hc32,hc33,hc34,a8,bC,decide_true,decide_false,go_sem,simprocAttr]
 repeat (rw[bD];simp only[aw,aH,av,au,aG,aF,aE,bL,bN,bO,bM,bt,br,aY,aZ,aJ,bu,hl0,hp0,hn0,hc00,hc01,hc02,hc03,hc04,hl1,hp1,hn1,hc10,hc11,hc12,hc13,hc14,hl3,hp3,hn3,hc30,hc31,hc32,hc33,hc34,a8,bC,decide_true,decide_false,go_sem,simprocAttr])
 refine ab [] (.cons (.rfl (by rfl)) (.cons (.rfl (by rfl)) .nil)) (by have:=jt eK (by decide);simp only[ag] at this;exact this) (by simp only[go_sem,simprocAttr]) ?_
 try simp only[aw,aH,av,au,aG,aF,aE,bL,bN,bO,bM,bt,br,aY,aZ,aJ,bu,hl0,hp0,hn0,hc00,hc01,hc02,hc03,hc04,hl1,hp1,hn1,hc10,hc11,hc12,hc13,hc14,hl3,hp3,hn3,hc30,hc31,hc32,hc33,hc34,a8,bC,decide_true,decide_false,go_sem,simprocAttr]
 repeat (rw[bD];simp only[aw,aH,av,au,aG,aF,aE,bL,bN,bO,bM,bt,br,aY,aZ,aJ,bu,hl0,hp0,hn0,hc00,hc01,hc02,hc03,hc04,hl1,hp1,hn1,hc10,hc11,hc12,hc13,hc14,hl3,hp3,hn3,hc30,hc31,hc32,hc33,hc34,a8,bC,decide_true,decide_false,go_sem,simprocAttr])
 refine ab [5] (fargs:=[.fs 5 gI.length (cC gI)]) (.cons (.sl (x:=_) (by simp) (by simp only[go_sem,simprocAttr]<;>rfl) (by simp only[gI,go_sem,simprocAttr]<;>decide) (by decide) (by simp only[go_sem,simprocAttr]<;>decide) (λi j hi hj=>?_) (λi j _ hj=>bj i hj)) .nil) cA (by simp only[go_sem,simprocAttr]) ?_
 ·rcases MI hi with rfl|rfl|rfl<;>rcases bZ hj with rfl|rfl|rfl|rfl|rfl<;>rfl
 simp only[ag,aQ,aw,aH,av,au,aG,aF,aE,bL,bN,bO,bM,bt,br,aY,aZ,aJ,bu,hl0,hp0,hn0,hc00,hc01,hc02,hc03,hc04,hl1,hp1,hn1,hc10,hc11,hc12,hc13,hc14,hl3,hp3,hn3,hc30,hc31,hc32,hc33,hc34,a8,bC,decide_true,decide_false,go_sem,simprocAttr]
 try simp only[aw,aH,av,au,aG,aF,aE,bL,bN,bO,bM,bt,br,aY,aZ,aJ,bu,hl0,hp0,hn0,hc00,hc01,hc02,hc03,hc04,hl1,hp1,hn1,hc10,hc11,hc12,hc13,hc14,hl3,hp3,hn3,hc30,hc31,hc32,hc33,hc34,a8,bC,decide_true,decide_false,go_sem,simprocAttr]
 repeat (rw[bD];simp only[aw,aH,av,au,aG,aF,aE,bL,bN,bO,bM,bt,br,aY,aZ,aJ,bu,hl0,hp0,hn0,hc00,hc01,hc02,hc03,hc04,hl1,hp1,hn1,hc10,hc11,hc12,hc13,hc14,hl3,hp3,hn3,hc30,hc31,hc32,hc33,hc34,a8,bC,decide_true,decide_false,go_sem,simprocAttr])
 refine ab [] (.cons (.rfl (by rfl)) (.cons (.rfl (by rfl)) .nil)) (by have:=jt gI (by decide);simp only[ag] at this;exact this) (by simp only[go_sem,simprocAttr]) ?_
 try simp only[aw,aH,av,au,aG,aF,aE,bL,bN,bO,bM,bt,br,aY,aZ,aJ,bu,hl0,hp0,hn0,hc00,hc01,hc02,hc03,hc04,hl1,hp1,hn1,hc10,hc11,hc12,hc13,hc14,hl3,hp3,hn3,hc30,hc31,hc32,hc33,hc34,a8,bC,decide_true,decide_false,go_sem,simprocAttr]
 repeat (rw[bD];simp only[aw,aH,av,au,aG,aF,aE,bL,bN,bO,bM,bt,br,aY,aZ,aJ,bu,hl0,hp0,hn0,hc00,hc01,hc02,hc03,hc04,hl1,hp1,hn1,hc10,hc11,hc12,hc13,hc14,hl3,hp3,hn3,hc30,hc31,hc32,hc33,hc34,a8,bC,decide_true,decide_false,go_sem,simprocAttr])
 (try simp only[go_sem,simprocAttr])
 iterate 2 (with_reducible refine GA.go aa rfl ?_;try simp only[go_sem,simprocAttr])
 refine GA.wk (Wk.mk (L:=[]) (bl:=[]) [] [] ?_ ?_ ?_) ?_
 ·simp only[aP,aR,go_sem,simprocAttr]
  repeat' refine ae ?_ ?_
  all_goals first|exact dX|skip
 ·exact True.intro
 ·simp
 clear hF hP1 hl0 hp0 hn0 hc00 hc01 hc02 hc03 hc04 hl1 hp1 hn1 hc10 hc11 hc12 hc13 hc14 hl3 hp3 hn3 hc30 hc31 hc32 hc33 hc34
 repeat (first|(with_reducible refine GA.go aa rfl ?_)|simp only[go_sem,simprocAttr])
 refine ab [] (.cons (.rfl rfl) (.cons (.rfl rfl) (.cons (.rfl rfl) (.cons (.rfl rfl) (.cons (.rfl rfl) .nil))))) (dR _ _ _ _ _) (by simp only[go_sem,simprocAttr]) ?_
 simp only[aQ,go_sem,simprocAttr]
 refine ab [] (.cons (.rfl rfl) (.cons (.rfl rfl) (.cons (.rfl rfl) (.cons (.rfl rfl) (.cons (.rfl rfl) .nil))))) (dR _ _ _ _ _) (by simp only[go_sem,simprocAttr]) ?_
 simp only[aQ,go_sem,simprocAttr]
 refine ab [] (.cons (.rfl rfl) (.cons (.rfl rfl) (.cons (.rfl rfl) (.cons (.rfl rfl) (.cons (.rfl rfl) .nil))))) (dR _ _ _ _ _) (by simp only[go_sem,simprocAttr]) ?_
 simp only[aQ,go_sem,simprocAttr]
 refine ab [] (.cons (.rfl rfl) (.cons (.rfl rfl) (.cons (.rfl rfl) (.cons (.rfl rfl) (.cons (.rfl rfl) .nil))))) (dR _ _ _ _ _) (by simp only[go_sem,simprocAttr]) ?_
 simp only[aQ,go_sem,simprocAttr]
 refine ab [] (.cons (.rfl rfl) (.cons (.rfl rfl) (.cons (.rfl rfl) (.cons (.rfl rfl) (.cons (.rfl rfl) .nil))))) (dR _ _ _ _ _) (by simp only[go_sem,simprocAttr]) ?_
 simp only[aQ,go_sem,simprocAttr]
 refine ab [0] (fargs:=[.fs 5 bn.length (cC bn)]) (.cons (.sl (x:=_) (by simp) (by simp only[go_sem,simprocAttr]<;>rfl) (by simp only[bn,go_sem,simprocAttr]<;>decide) (by decide) (by simp only[go_sem,simprocAttr]<;>decide) (λi j hi hj=>?_) (λi j _ hj=>bj i hj)) .nil) cA (by simp only[go_sem,simprocAttr]) ?_
 ·rcases qU hi with rfl|rfl|rfl|rfl|rfl<;>rcases bZ hj with rfl|rfl|rfl|rfl|rfl<;>rfl
 simp only[ag,aQ,go_sem,simprocAttr]
 refine GA.wk (Wk.mk (L:=[(11,.p 0 0)]) (bl:=[ax 0 25 (cS bn)]) [1] [] ?_ ?_ ?_) ?_
 ·simp only[aP,aR,go_sem,simprocAttr]
  repeat' refine ae ?_ ?_
  all_goals first|exact dX|skip
 ·exact .cons rfl (.lsti (x:=_) (by simp only[go_sem,simprocAttr]<;>rfl) (by rfl) (by rfl) (by rfl) (by rfl) (by rfl) (by rfl) (by simp) (λi hi=>by rcases cq hi with rfl|rfl|rfl|rfl<;>(simp only[cS,go_sem,simprocAttr];first|done|rfl)) (by rfl)) (.nil)
 ·simp
 have hF:=awS
 have hP1:=awO
 simp only[ag] at hF hP1
 repeat (first|(with_reducible refine GA.go aa rfl ?_)|simp only[go_sem,simprocAttr])
 refine ab [] (.cons (.rfl (by rfl)) .nil) hF (by simp only[go_sem,simprocAttr]) ?_
 simp only[ag,go_sem,simprocAttr]
 refine GA.wk (Wk.mk (L:=[(11,.p 0 0),(12,.p 1 0),(3,.n .i64 0)]) (bl:=[ax 0 25 (cS bT),ax 0 25 (cS bn)]) [1,0] [] ?_ ?_ ?_) ?_
 ·simp only[aP,aR,go_sem,simprocAttr]
  repeat' refine ae ?_ ?_
  all_goals first|exact dX|skip
 ·exact .cons rfl (.lsti (x:=_) (by simp only[go_sem,simprocAttr]<;>rfl) (by rfl) (by rfl) (by rfl) (by rfl) (by rfl) (by rfl) (by simp) (λi hi=>by rcases cq hi with rfl|rfl|rfl|rfl<;>(simp only[cS,go_sem,simprocAttr];first|done|rfl)) (by rfl)) (.cons rfl (.lsti (x:=_) (by simp only[go_sem,simprocAttr]<;>rfl) (by rfl) (by rfl) (by rfl) (by rfl) (by rfl) (by rfl) (by simp) (λi hi=>by rcases cq hi with rfl|rfl|rfl|rfl<;>(simp only[cS,go_sem,simprocAttr];first|done|rfl)) (by rfl)) (.nil))
 ·simp
 repeat (first|(with_reducible refine GA.go aa rfl ?_)|simp only[go_sem,simprocAttr])
 refine ab [] (.cons (.rfl (by rfl)) .nil) hP1 (by simp only[go_sem,simprocAttr]) ?_
 simp only[ag,go_sem,simprocAttr]
 refine GA.wk (Wk.mk (L:=[(11,.p 0 0),(12,.p 1 0),(13,.p 2 0),(3,.n .i64 0),(5,.n .i64 0)]) (bl:=[ax 0 25 (cS dM),ax 0 25 (cS bT),ax 0 25 (cS bn)]) [2,1,0] [] ?_ ?_ ?_) ?_
 ·simp only[aP,aR,go_sem,simprocAttr]
  repeat' refine ae ?_ ?_
  all_goals first|exact dX|skip
 ·exact .cons rfl (.lsti (x:=_) (by simp only[go_sem,simprocAttr]<;>rfl) (by rfl) (by rfl) (by rfl) (by rfl) (by rfl) (by rfl) (by simp) (λi hi=>by rcases cq hi with rfl|rfl|rfl|rfl<;>(simp only[cS,go_sem,simprocAttr];first|done|rfl)) (by rfl)) (.cons rfl (.lsti (x:=_) (by simp only[go_sem,simprocAttr]<;>rfl) (by rfl) (by rfl) (by rfl) (by rfl) (by rfl) (by rfl) (by simp) (λi hi=>by rcases cq hi with rfl|rfl|rfl|rfl<;>(simp only[cS,go_sem,simprocAttr];first|done|rfl)) (by rfl)) (.cons rfl (.lsti (x:=_) (by simp only[go_sem,simprocAttr]<;>rfl) (by rfl) (by rfl) (by rfl) (by rfl) (by rfl) (by rfl) (by simp) (λi hi=>by rcases cq hi with rfl|rfl|rfl|rfl<;>(simp only[cS,go_sem,simprocAttr];first|done|rfl)) (by rfl)) (.nil)))
 ·simp
 have hl0:(0:Int)<(bn.length:Int):=by decide
 have hp0:(0:Int)<=0:=by decide
 have hn0:Int.toNat 0=0:=rfl
 have hc00:cC bn 0 0= .n .i64 (32):=rfl
 have hc01:cC bn 0 1= .n .i64 (0):=rfl
 have hc02:cC bn 0 2= .n .i64 (-1):=rfl
 have hc03:cC bn 0 3= .n .i64 (-1):=rfl
 have hc04:cC bn 0 4= .n .u32 (0):=rfl
 have hl2:(2:Int)<(bn.length:Int):=by decide
 have hp2:(0:Int)<=2:=by decide
 have hn2:Int.toNat 2=2:=rfl
 have hc20:cC bn 2 0= .n .i64 (8):=rfl
 have hc21:cC bn 2 1= .n .i64 (2):=rfl
 have hc22:cC bn 2 2= .n .i64 (0):=rfl
 have hc23:cC bn 2 3= .n .i64 (1):=rfl
 have hc24:cC bn 2 4= .n .u32 (0):=rfl
 have hl4:(4:Int)<(bn.length:Int):=by decide
 have hp4:(0:Int)<=4:=by decide
 have hn4:Int.toNat 4=4:=rfl
 have hc40:cC bn 4 0= .n .i64 (34):=rfl
 have hc41:cC bn 4 1= .n .i64 (-1):=rfl
 have hc42:cC bn 4 2= .n .i64 (3):=rfl
 have hc43:cC bn 4 3= .n .i64 (-1):=rfl
 have hc44:cC bn 4 4= .n .u32 (0):=rfl
 have ht:(1:Nat)=1:=rfl
 refine GA.cut (aI [(11,.p 0 0),(12,.p 1 0),(13,.p 2 0),(3,.n .i64 0),(5,.n .i64 0),(14,.p 3 0)]) (am [ax 0 25 (cS bT),ax 0 25 (cS dM),ax 0 25 (cS bT),ax 0 25 (cS bn)]) ?_ ?_
 ·refine GA.frkm aa 3 (by simp only[eG,go_sem,simprocAttr]) ?_
  simp only[hl0,hp0,hn0,hc00,hc01,hc02,hc03,hc04,hl2,hp2,hn2,hc20,hc21,hc22,hc23,hc24,hl4,hp4,hn4,hc40,hc41,hc42,hc43,hc44,a8,bC,decide_true,decide_false,go_sem,simprocAttr]
  repeat' with_reducible refine ae ?_ ?_
  all_goals (refine ab [] (.cons (.rfl rfl) (.cons (.rfl rfl) (.cons (.rfl rfl) (.cons (.rfl rfl) (.cons (.rfl rfl) .nil))))) (dR _ _ _ _ _) (by simp only[go_sem,simprocAttr]) ?_;simp only[aQ,hl0,hp0,hn0,hc00,hc01,hc02,hc03,hc04,hl2,hp2,hn2,hc20,hc21,hc22,hc23,hc24,hl4,hp4,hn4,hc40,hc41,hc42,hc43,hc44,a8,bC,decide_true,decide_false,go_sem,simprocAttr];repeat' with_reducible refine ae ?_ ?_)
  all_goals (refine ab [] (.cons (.rfl rfl) (.cons (.rfl rfl) (.cons (.rfl rfl) (.cons (.rfl rfl) (.cons (.rfl rfl) .nil))))) (dR _ _ _ _ _) (by simp only[go_sem,simprocAttr]) ?_;simp only[aQ,hl0,hp0,hn0,hc00,hc01,hc02,hc03,hc04,hl2,hp2,hn2,hc20,hc21,hc22,hc23,hc24,hl4,hp4,hn4,hc40,hc41,hc42,hc43,hc44,a8,bC,decide_true,decide_false,go_sem,simprocAttr];repeat' with_reducible refine ae ?_ ?_)
  ·refine ab [3] (fargs:=[.fs 5 bT.length (cC bT)]) (.cons (.sl (x:=_) (by simp) (by simp only[go_sem,simprocAttr]<;>rfl) (by simp only[go_sem,simprocAttr]<;>decide) (by decide) (by simp only[go_sem,simprocAttr]<;>decide) (λi j hi hj=>by rcases qU hi with rfl|rfl|rfl|rfl|rfl<;>rcases bZ hj with rfl|rfl|rfl|rfl|rfl<;>rfl) (λi j _ hj=>bj i hj)) .nil) cA (by simp only[go_sem,simprocAttr]) ?_
   simp only[ag,aQ,hl0,hp0,hn0,hc00,hc01,hc02,hc03,hc04,hl2,hp2,hn2,hc20,hc21,hc22,hc23,hc24,hl4,hp4,hn4,hc40,hc41,hc42,hc43,hc44,a8,bC,decide_true,decide_false,go_sem,simprocAttr]
   repeat' with_reducible refine ae ?_ ?_
   all_goals try decide
   refine Wk.mk [4,2,1,0] [] ?_ ?_ (by simp)
   ·simp only[aP,aR,go_sem,simprocAttr]
    repeat' refine ae ?_ ?_
    all_goals first|exact dX|skip
   ·exact .cons rfl (.lsti (x:=_) (by simp only[go_sem,simprocAttr]<;>rfl) (by rfl) (by rfl) (by rfl) (by rfl) (by rfl) (by rfl) (by simp) (λi hi=>by rcases cq hi with rfl|rfl|rfl|rfl<;>(simp only[cS,go_sem,simprocAttr];first|done|rfl)) (by rfl)) (.cons rfl (.lsti (x:=_) (by simp only[go_sem,simprocAttr]<;>rfl) (by rfl) (by rfl) (by rfl) (by rfl) (by rfl) (by rfl) (by simp) (λi hi=>by rcases cq hi with rfl|rfl|rfl|rfl<;>(simp only[cS,go_sem,simprocAttr];first|done|rfl)) (by rfl)) (.cons rfl (.lsti (x:=_) (by simp only[go_sem,simprocAttr]<;>rfl) (by rfl) (by rfl) (by rfl) (by rfl) (by rfl) (by rfl) (by simp) (λi hi=>by rcases cq hi with rfl|rfl|rfl|rfl<;>(simp only[cS,go_sem,simprocAttr];first|done|rfl)) (by rfl)) (.cons rfl (.lsti (x:=_) (by simp only[go_sem,simprocAttr]<;>rfl) (by rfl) (by rfl) (by rfl) (by rfl) (by rfl) (by rfl) (by simp) (λi hi=>by rcases cq hi with rfl|rfl|rfl|rfl<;>(simp only[cS,go_sem,simprocAttr];first|done|rfl)) (by rfl)) .nil)))
  ·refine ab [3] (fargs:=[.fs 5 bT.length (cC bT)]) (.cons (.sl (x:=_) (by simp) (by simp only[go_sem,simprocAttr]<;>rfl) (by simp only[go_sem,simprocAttr]<;>decide) (by decide) (by simp only[go_sem,simprocAttr]<;>decide) (λi j hi hj=>by rcases qU hi with rfl|rfl|rfl|rfl|rfl<;>rcases bZ hj with rfl|rfl|rfl|rfl|rfl<;>rfl) (λi j _ hj=>bj i hj)) .nil) cA (by simp only[go_sem,simprocAttr]) ?_
   simp only[ag,aQ,hl0,hp0,hn0,hc00,hc01,hc02,hc03,hc04,hl2,hp2,hn2,hc20,hc21,hc22,hc23,hc24,hl4,hp4,hn4,hc40,hc41,hc42,hc43,hc44,a8,bC,decide_true,decide_false,go_sem,simprocAttr]
   repeat' with_reducible refine ae ?_ ?_
   all_goals try decide
   refine Wk.mk [4,2,1,0] [] ?_ ?_ (by simp)
   ·simp only[aP,aR,go_sem,simprocAttr]
    repeat' refine ae ?_ ?_
    all_goals first|exact dX|skip
   ·exact .cons rfl (.lsti (x:=_) (by simp only[go_sem,simprocAttr]<;>rfl) (by rfl) (by rfl) (by rfl) (by rfl) (by rfl) (by rfl) (by simp) (λi hi=>by rcases cq hi with rfl|rfl|rfl|rfl<;>(simp only[cS,go_sem,simprocAttr];first|done|rfl)) (by rfl)) (.cons rfl (.lsti (x:=_) (by simp only[go_sem,simprocAttr]<;>rfl) (by rfl) (by rfl) (by rfl) (by rfl) (by rfl) (by rfl) (by simp) (λi hi=>by rcases cq hi with rfl|rfl|rfl|rfl<;>(simp only[cS,go_sem,simprocAttr];first|done|rfl)) (by rfl)) (.cons rfl (.lsti (x:=_) (by simp only[go_sem,simprocAttr]<;>rfl) (by rfl) (by rfl) (by rfl) (by rfl) (by rfl) (by rfl) (by simp) (λi hi=>by rcases cq hi with rfl|rfl|rfl|rfl<;>(simp only[cS,go_sem,simprocAttr];first|done|rfl)) (by rfl)) (.cons rfl (.lsti (x:=_) (by simp only[go_sem,simprocAttr]<;>rfl) (by rfl) (by rfl) (by rfl) (by rfl) (by rfl) (by rfl) (by simp) (λi hi=>by rcases cq hi with rfl|rfl|rfl|rfl<;>(simp only[cS,go_sem,simprocAttr];first|done|rfl)) (by rfl)) .nil)))
  ·refine ab [4] (fargs:=[.fs 5 bT.length (cC bT)]) (.cons (.sl (x:=_) (by simp) (by simp only[go_sem,simprocAttr]<;>rfl) (by simp only[go_sem,simprocAttr]<;>decide) (by decide) (by simp only[go_sem,simprocAttr]<;>decide) (λi j hi hj=>by rcases qU hi with rfl|rfl|rfl|rfl|rfl<;>rcases bZ hj with rfl|rfl|rfl|rfl|rfl<;>rfl) (λi j _ hj=>bj i hj)) .nil) cA (by simp only[go_sem,simprocAttr]) ?_
   simp only[ag,aQ,hl0,hp0,hn0,hc00,hc01,hc02,hc03,hc04,hl2,hp2,hn2,hc20,hc21,hc22,hc23,hc24,hl4,hp4,hn4,hc40,hc41,hc42,hc43,hc44,a8,bC,decide_true,decide_false,go_sem,simprocAttr]
   repeat' with_reducible refine ae ?_ ?_
   all_goals try decide
   refine Wk.mk [3,2,1,0] [] ?_ ?_ (by simp)
   ·simp only[aP,aR,go_sem,simprocAttr]
    repeat' refine ae ?_ ?_
    all_goals first|exact dX|skip
   ·exact .cons rfl (.lsti (x:=_) (by simp only[go_sem,simprocAttr]<;>rfl) (by rfl) (by rfl) (by rfl) (by rfl) (by rfl) (by rfl) (by simp) (λi hi=>by rcases cq hi with rfl|rfl|rfl|rfl<;>(simp only[cS,go_sem,simprocAttr];first|done|rfl)) (by rfl)) (.cons rfl (.lsti (x:=_) (by simp only[go_sem,simprocAttr]<;>rfl) (by rfl) (by rfl) (by rfl) (by rfl) (by rfl) (by rfl) (by simp) (λi hi=>by rcases cq hi with rfl|rfl|rfl|rfl<;>(simp only[cS,go_sem,simprocAttr];first|done|rfl)) (by rfl)) (.cons rfl (.lsti (x:=_) (by simp only[go_sem,simprocAttr]<;>rfl) (by rfl) (by rfl) (by rfl) (by rfl) (by rfl) (by rfl) (by simp) (λi hi=>by rcases cq hi with rfl|rfl|rfl|rfl<;>(simp only[cS,go_sem,simprocAttr];first|done|rfl)) (by rfl)) (.cons rfl (.lsti (x:=_) (by simp only[go_sem,simprocAttr]<;>rfl) (by rfl) (by rfl) (by rfl) (by rfl) (by rfl) (by rfl) (by simp) (λi hi=>by rcases cq hi with rfl|rfl|rfl|rfl<;>(simp only[cS,go_sem,simprocAttr];first|done|rfl)) (by rfl)) .nil)))
  ·refine ab [4] (fargs:=[.fs 5 bT.length (cC bT)]) (.cons (.sl (x:=_) (by simp) (by simp only[go_sem,simprocAttr]<;>rfl) (by simp only[go_sem,simprocAttr]<;>decide) (by decide) (by simp only[go_sem,simprocAttr]<;>decide) (λi j hi hj=>by rcases qU hi with rfl|rfl|rfl|rfl|rfl<;>rcases bZ hj with rfl|rfl|rfl|rfl|rfl<;>rfl) (λi j _ hj=>bj i hj)) .nil) cA (by simp only[go_sem,simprocAttr]) ?_
   simp only[ag,aQ,hl0,hp0,hn0,hc00,hc01,hc02,hc03,hc04,hl2,hp2,hn2,hc20,hc21,hc22,hc23,hc24,hl4,hp4,hn4,hc40,hc41,hc42,hc43,hc44,a8,bC,decide_true,decide_false,go_sem,simprocAttr]
   repeat' with_reducible refine ae ?_ ?_
   all_goals try decide
   refine Wk.mk [3,2,1,0] [] ?_ ?_ (by simp)
   ·simp only[aP,aR,go_sem,simprocAttr]
    repeat' refine ae ?_ ?_
    all_goals first|exact dX|skip
   ·exact .cons rfl (.lsti (x:=_) (by simp only[go_sem,simprocAttr]<;>rfl) (by rfl) (by rfl) (by rfl) (by rfl) (by rfl) (by rfl) (by simp) (λi hi=>by rcases cq hi with rfl|rfl|rfl|rfl<;>(simp only[cS,go_sem,simprocAttr];first|done|rfl)) (by rfl)) (.cons rfl (.lsti (x:=_) (by simp only[go_sem,simprocAttr]<;>rfl) (by rfl) (by rfl) (by rfl) (by rfl) (by rfl) (by rfl) (by simp) (λi hi=>by rcases cq hi with rfl|rfl|rfl|rfl<;>(simp only[cS,go_sem,simprocAttr];first|done|rfl)) (by rfl)) (.cons rfl (.lsti (x:=_) (by simp only[go_sem,simprocAttr]<;>rfl) (by rfl) (by rfl) (by rfl) (by rfl) (by rfl) (by rfl) (by simp) (λi hi=>by rcases cq hi with rfl|rfl|rfl|rfl<;>(simp only[cS,go_sem,simprocAttr];first|done|rfl)) (by rfl)) (.cons rfl (.lsti (x:=_) (by simp only[go_sem,simprocAttr]<;>rfl) (by rfl) (by rfl) (by rfl) (by rfl) (by rfl) (by rfl) (by simp) (λi hi=>by rcases cq hi with rfl|rfl|rfl|rfl<;>(simp only[cS,go_sem,simprocAttr];first|done|rfl)) (by rfl)) .nil)))
  ·refine ab [4] (fargs:=[.fs 5 bT.length (cC bT)]) (.cons (.sl (x:=_) (by simp) (by simp only[go_sem,simprocAttr]<;>rfl) (by simp only[go_sem,simprocAttr]<;>decide) (by decide) (by simp only[go_sem,simprocAttr]<;>decide) (λi j hi hj=>by rcases qU hi with rfl|rfl|rfl|rfl|rfl<;>rcases bZ hj with rfl|rfl|rfl|rfl|rfl<;>rfl) (λi j _ hj=>bj i hj)) .nil) cA (by simp only[go_sem,simprocAttr]) ?_
   simp only[ag,aQ,hl0,hp0,hn0,hc00,hc01,hc02,hc03,hc04,hl2,hp2,hn2,hc20,hc21,hc22,hc23,hc24,hl4,hp4,hn4,hc40,hc41,hc42,hc43,hc44,a8,bC,decide_true,decide_false,go_sem,simprocAttr]
   repeat' with_reducible refine ae ?_ ?_
   all_goals try decide
   refine Wk.mk [3,2,1,0] [] ?_ ?_ (by simp)
   ·simp only[aP,aR,go_sem,simprocAttr]
    repeat' refine ae ?_ ?_
    all_goals first|exact dX|skip
   ·exact .cons rfl (.lsti (x:=_) (by simp only[go_sem,simprocAttr]<;>rfl) (by rfl) (by rfl) (by rfl) (by rfl) (by rfl) (by rfl) (by simp) (λi hi=>by rcases cq hi with rfl|rfl|rfl|rfl<;>(simp only[cS,go_sem,simprocAttr];first|done|rfl)) (by rfl)) (.cons rfl (.lsti (x:=_) (by simp only[go_sem,simprocAttr]<;>rfl) (by rfl) (by rfl) (by rfl) (by rfl) (by rfl) (by rfl) (by simp) (λi hi=>by rcases cq hi with rfl|rfl|rfl|rfl<;>(simp only[cS,go_sem,simprocAttr];first|done|rfl)) (by rfl)) (.cons rfl (.lsti (x:=_) (by simp only[go_sem,simprocAttr]<;>rfl) (by rfl) (by rfl) (by rfl) (by rfl) (by rfl) (by rfl) (by simp) (λi hi=>by rcases cq hi with rfl|rfl|rfl|rfl<;>(simp only[cS,go_sem,simprocAttr];first|done|rfl)) (by rfl)) (.cons rfl (.lsti (x:=_) (by simp only[go_sem,simprocAttr]<;>rfl) (by rfl) (by rfl) (by rfl) (by rfl) (by rfl) (by rfl) (by simp) (λi hi=>by rcases cq hi with rfl|rfl|rfl|rfl<;>(simp only[cS,go_sem,simprocAttr];first|done|rfl)) (by rfl)) .nil)))
 with_reducible refine GA.seq ?_
 with_reducible refine GA.mixv aa ?_ ?_
 ·rfl
 try simp only[aw,aH,av,au,aG,aF,aE,bL,bN,bO,bM,bt,br,aY,aZ,aJ,bu,hl0,hp0,hn0,hc00,hc01,hc02,hc03,hc04,hl2,hp2,hn2,hc20,hc21,hc22,hc23,hc24,hl4,hp4,hn4,hc40,hc41,hc42,hc43,hc44,a8,bC,decide_true,decide_false,go_sem,simprocAttr]
 repeat (rw[bD];simp only[aw,aH,av,au,aG,aF,aE,bL,bN,bO,bM,bt,br,aY,aZ,aJ,bu,hl0,hp0,hn0,hc00,hc01,hc02,hc03,hc04,hl2,hp2,hn2,hc20,hc21,hc22,hc23,hc24,hl4,hp4,hn4,hc40,hc41,hc42,hc43,hc44,a8,bC,decide_true,decide_false,go_sem,simprocAttr])
 refine ab [] (.cons (.rfl (by rfl)) (.cons (.rfl (by rfl)) .nil)) (by have:=jt bT (by decide);simp only[ag] at this;exact this) (by simp only[go_sem,simprocAttr]) ?_
 try simp only[aw,aH,av,au,aG,aF,aE,bL,bN,bO,bM,bt,br,aY,aZ,aJ,bu,hl0,hp0,hn0,hc00,hc01,hc02,hc03,hc04,hl2,hp2,hn2,hc20,hc21,hc22,hc23,hc24,hl4,hp4,hn4,hc40,hc41,hc42,hc43,hc44,a8,bC,decide_true,decide_false,go_sem,simprocAttr]
 repeat (rw[bD];simp only[aw,aH,av,au,aG,aF,aE,bL,bN,bO,bM,bt,br,aY,aZ,aJ,bu,hl0,hp0,hn0,hc00,hc01,hc02,hc03,hc04,hl2,hp2,hn2,hc20,hc21,hc22,hc23,hc24,hl4,hp4,hn4,hc40,hc41,hc42,hc43,hc44,a8,bC,decide_true,decide_false,go_sem,simprocAttr])
 refine ab [] (.cons (.rfl rfl) (.cons (.rfl rfl) (.cons (.rfl rfl) (.cons (.rfl rfl) (.cons (.rfl rfl) .nil))))) (dR _ _ _ _ _) (by simp only[go_sem,simprocAttr]) ?_
 simp only[aQ,aw,aH,av,au,aG,aF,aE,bL,bN,bO,bM,bt,br,aY,aZ,aJ,bu,hl0,hp0,hn0,hc00,hc01,hc02,hc03,hc04,hl2,hp2,hn2,hc20,hc21,hc22,hc23,hc24,hl4,hp4,hn4,hc40,hc41,hc42,hc43,hc44,a8,bC,decide_true,decide_false,go_sem,simprocAttr]
 try simp only[aw,aH,av,au,aG,aF,aE,bL,bN,bO,bM,bt,br,aY,aZ,aJ,bu,hl0,hp0,hn0,hc00,hc01,hc02,hc03,hc04,hl2,hp2,hn2,hc20,hc21,hc22,hc23,hc24,hl4,hp4,hn4,hc40,hc41,hc42,hc43,hc44,a8,bC,decide_true,decide_false,go_sem,simprocAttr]
 repeat (rw[bD];simp only[aw,aH,av,au,aG,aF,aE,bL,bN,bO,bM,bt,br,aY,aZ,aJ,bu,hl0,hp0,hn0,hc00,hc01,hc02,hc03,hc04,hl2,hp2,hn2,hc20,hc21,hc22,hc23,hc24,hl4,hp4,hn4,hc40,hc41,hc42,hc43,hc44,a8,bC,decide_true,decide_false,go_sem,simprocAttr])
 refine ab [] (.cons (.rfl rfl) (.cons (.rfl rfl) (.cons (.rfl rfl) (.cons (.rfl rfl) (.cons (.rfl rfl) .nil))))) (dR _ _ _ _ _) (by simp only[go_sem,simprocAttr]) ?_
 simp only[aQ,aw,aH,av,au,aG,aF,aE,bL,bN,bO,bM,bt,br,aY,aZ,aJ,bu,hl0,hp0,hn0,hc00,hc01,hc02,hc03,hc04,hl2,hp2,hn2,hc20,hc21,hc22,hc23,hc24,hl4,hp4,hn4,hc40,hc41,hc42,hc43,hc44,a8,bC,decide_true,decide_false,go_sem,simprocAttr]
 try simp only[aw,aH,av,au,aG,aF,aE,bL,bN,bO,bM,bt,br,aY,aZ,aJ,bu,hl0,hp0,hn0,hc00,hc01,hc02,hc03,hc04,hl2,hp2,hn2,hc20,hc21,hc22,hc23,hc24,hl4,hp4,hn4,hc40,hc41,hc42,hc43,hc44,a8,bC,decide_true,decide_false,go_sem,simprocAttr]
 repeat (rw[bD];simp only[aw,aH,av,au,aG,aF,aE,bL,bN,bO,bM,bt,br,aY,aZ,aJ,bu,hl0,hp0,hn0,hc00,hc01,hc02,hc03,hc04,hl2,hp2,hn2,hc20,hc21,hc22,hc23,hc24,hl4,hp4,hn4,hc40,hc41,hc42,hc43,hc44,a8,bC,decide_true,decide_false,go_sem,simprocAttr])
 refine ab [4] (fargs:=[.fs 5 dM.length (cC dM)]) (.cons (.sl (x:=_) (by simp) (by simp only[go_sem,simprocAttr]<;>rfl) (by simp only[dM,go_sem,simprocAttr]<;>decide) (by decide) (by simp only[go_sem,simprocAttr]<;>decide) (λi j hi hj=>?_) (λi j _ hj=>bj i hj)) .nil) cA (by simp only[go_sem,simprocAttr]) ?_
 ·rcases MI hi with rfl|rfl|rfl<;>rcases bZ hj with rfl|rfl|rfl|rfl|rfl<;>rfl
 simp only[ag,aQ,aw,aH,av,au,aG,aF,aE,bL,bN,bO,bM,bt,br,aY,aZ,aJ,bu,hl0,hp0,hn0,hc00,hc01,hc02,hc03,hc04,hl2,hp2,hn2,hc20,hc21,hc22,hc23,hc24,hl4,hp4,hn4,hc40,hc41,hc42,hc43,hc44,a8,bC,decide_true,decide_false,go_sem,simprocAttr]
 try simp only[aw,aH,av,au,aG,aF,aE,bL,bN,bO,bM,bt,br,aY,aZ,aJ,bu,hl0,hp0,hn0,hc00,hc01,hc02,hc03,hc04,hl2,hp2,hn2,hc20,hc21,hc22,hc23,hc24,hl4,hp4,hn4,hc40,hc41,hc42,hc43,hc44,a8,bC,decide_true,decide_false,go_sem,simprocAttr]
 repeat (rw[bD];simp only[aw,aH,av,au,aG,aF,aE,bL,bN,bO,bM,bt,br,aY,aZ,aJ,bu,hl0,hp0,hn0,hc00,hc01,hc02,hc03,hc04,hl2,hp2,hn2,hc20,hc21,hc22,hc23,hc24,hl4,hp4,hn4,hc40,hc41,hc42,hc43,hc44,a8,bC,decide_true,decide_false,go_sem,simprocAttr])
 refine ab [] (.cons (.rfl (by rfl)) (.cons (.rfl (by rfl)) .nil)) (by have:=jt dM (by decide);simp only[ag] at this;exact this) (by simp only[go_sem,simprocAttr]) ?_
 try simp only[aw,aH,av,au,aG,aF,aE,bL,bN,bO,bM,bt,br,aY,aZ,aJ,bu,hl0,hp0,hn0,hc00,hc01,hc02,hc03,hc04,hl2,hp2,hn2,hc20,hc21,hc22,hc23,hc24,hl4,hp4,hn4,hc40,hc41,hc42,hc43,hc44,a8,bC,decide_true,decide_false,go_sem,simprocAttr]
 repeat (rw[bD];simp only[aw,aH,av,au,aG,aF,aE,bL,bN,bO,bM,bt,br,aY,aZ,aJ,bu,hl0,hp0,hn0,hc00,hc01,hc02,hc03,hc04,hl2,hp2,hn2,hc20,hc21,hc22,hc23,hc24,hl4,hp4,hn4,hc40,hc41,hc42,hc43,hc44,a8,bC,decide_true,decide_false,go_sem,simprocAttr])
 with_reducible refine GA.ret ?_
 simp only[go_sem,simprocAttr]
 exact ai rfl rfl
theorem tD {na:Nat} {ra:Nat->Nat->AV} {regs par:Int} {cs:List In} (hf:fx na regs cs=false):a7 Tryz.prog 3 [ag na ra regs par cs] [.v (.b true)]:=by
 have hw:=fw na ra regs par cs
 rw[hf] at hw
 refine ah aa wN ⟨by simp,by decide⟩ ?_
 simp only[aW,ag] at hw ⊢
 repeat (first|(with_reducible refine GA.go aa rfl ?_)|simp only[go_sem,simprocAttr])
 refine ab [] (.cons (.rfl (by rfl)) .nil) hw (by simp only[go_sem,simprocAttr]) ?_
 repeat (first|(with_reducible refine GA.go aa rfl ?_)|simp only[go_sem,simprocAttr])
 refine ab [] .nil fA (by simp only[go_sem,simprocAttr]) ?_
 repeat (first|(with_reducible refine GA.go aa rfl ?_)|simp only[go_sem,simprocAttr])
 exact ai rfl rfl
theorem ry {na:Nat} {ra:Nat->Nat->AV} {regs par:Int} {cs:List In} (hf:fx na regs cs=false):a7 Tryz.prog 5 [ag na ra regs par cs] [.v (.b true)]:=by
 have hw:=fw na ra regs par cs
 rw[hf] at hw
 refine ah aa si ⟨by simp,by decide⟩ ?_
 simp only[aW,ag] at hw ⊢
 repeat (first|(with_reducible refine GA.go aa rfl ?_)|simp only[go_sem,simprocAttr])
 refine ab [] (.cons (.rfl (by rfl)) .nil) hw (by simp only[go_sem,simprocAttr]) ?_
 repeat (first|(with_reducible refine GA.go aa rfl ?_)|simp only[go_sem,simprocAttr])
 refine ab [] .nil fA (by simp only[go_sem,simprocAttr]) ?_
 repeat (first|(with_reducible refine GA.go aa rfl ?_)|simp only[go_sem,simprocAttr])
 exact ai rfl rfl
theorem oV {na:Nat} {ra:Nat->Nat->AV} {regs par:Int} {cs c2 c3:List In} (hf:fx na regs cs=true) (hA:a7 Tryz.prog 15 [ag na ra regs par cs] [.v (ag na ra regs par c2),.v (.n .i64 0)])
  (hB:a7 Tryz.prog 16 [ag na ra regs par cs] [.v (ag na ra regs par c3),.v (.n .i64 0)]) (hS:a7 Tryz.prog 12 [ag na ra regs par c2,ag na ra regs par c3] [.v (.b true)]):
  a7 Tryz.prog 5 [ag na ra regs par cs] [.v (.b true)]:=by
 have hw:=fw na ra regs par cs
 rw[hf] at hw
 refine ah aa si ⟨by simp,by decide⟩ ?_
 simp only[aW,ag] at hw hA hB hS ⊢
 repeat (first|(with_reducible refine GA.go aa rfl ?_)|simp only[go_sem,simprocAttr])
 refine ab [] (.cons (.rfl (by rfl)) .nil) hw (by simp only[go_sem,simprocAttr]) ?_
 repeat (first|(with_reducible refine GA.go aa rfl ?_)|simp only[go_sem,simprocAttr])
 refine ab [] (.cons (.rfl (by rfl)) .nil) hA (by simp only[go_sem,simprocAttr]) ?_
 repeat (first|(with_reducible refine GA.go aa rfl ?_)|simp only[go_sem,simprocAttr])
 refine ab [] (.cons (.rfl (by rfl)) .nil) hB (by simp only[go_sem,simprocAttr]) ?_
 repeat (first|(with_reducible refine GA.go aa rfl ?_)|simp only[go_sem,simprocAttr])
 refine ab [] .nil fA (by simp only[go_sem,simprocAttr]) ?_
 repeat (first|(with_reducible refine GA.go aa rfl ?_)|simp only[go_sem,simprocAttr])
 refine ab [] (.cons (.rfl (by rfl)) (.cons (.rfl (by rfl)) .nil)) hS (by simp only[go_sem,simprocAttr]) ?_
 repeat (first|(with_reducible refine GA.go aa rfl ?_)|simp only[decide_true,go_sem,simprocAttr])
 exact ai rfl rfl
structure VR2 (n m:Nat) (fs k:List In):Prop where
 eq:k=fs
 dis:fs.Pairwise λf g=>ct f g=false
 ok:∀f ∈ fs,xd n m f
theorem jq {α:Type} {p q:α->Bool}:∀{l:List α},(∀x ∈ l,p x=q x)->l.filter p=l.filter q
 |[],_=>rfl
 |x::l,h=>by
  rw[List.filter_cons,List.filter_cons,h x (List.mem_cons_self ..),jq (λy hy=>h y (List.mem_cons_of_mem _ hy))]
theorem CX {α:Type} (p q:α->Bool) (l:List α):(l.any λx=>p x||q x)=(l.any p||l.any q):=by
 induction l with
 |nil=>rfl
 |cons x l ih=>simp only[List.any_cons,ih];cases p x<;>cases q x<;>simp
theorem CY {α:Type} {l:List α} {p:α->Bool} (h:∀x ∈ l,p x=false):l.any p=false:=by
 rw[List.any_eq_false];intro x hx;rw[h x hx];simp
theorem vQ {n m:Nat} (xs:List In) {f:In} (h:xd n m f):(xs.any λx=>jr x f)=cF (iv xs) (jc xs) f:=by
 obtain⟨op,to,a,b,arg⟩:=f
 obtain⟨⟨hto0,hto1⟩,ha1,hb1,harg⟩:=h
 simp only at hto0 hto1 ha1 hb1 harg
 have e:∀x:In,jr x (op,to,a,b,arg)=(((decide (bf x.1 x.2.1=((to.toNat:Nat):Int))||(decide (0<=a)&&decide (bf x.1 x.2.1=((a.toNat:Nat):Int))))||(decide (0<=b)&&decide (bf x.1 x.2.1=((b.toNat:Nat):Int))))||(decide (op=3)&&(decide (x.1=4)&&decide (x.2.2.2.2=((arg.toNat:Nat):Int))))):=λx=>by
  unfold jr
  simp only
  generalize bf x.1 x.2.1=w
  rw[Bool.eq_iff_iff]
  simp only[Bool.or_eq_true,Bool.and_eq_true,decide_eq_true_eq]
  constructor
  ·rintro (⟨h0,(h1|h1)|h1⟩|⟨⟨h1,h2⟩,h3⟩)
   ·exact .inl (.inl (.inl (by omega)))
   ·exact .inl (.inl (.inr (by omega)))
   ·exact .inl (.inr (by omega))
   ·have:=harg h2;exact .inr ⟨h2,h1,by omega⟩
  ·rintro (((h1|h1)|h1)|⟨h1,h2,h3⟩)
   ·exact .inl ⟨by omega,.inl (.inl (by omega))⟩
   ·exact .inl ⟨by omega,.inl (.inr (by omega))⟩
   ·exact .inl ⟨by omega,.inr (by omega)⟩
   ·have:=harg h1;exact .inr ⟨⟨h2,h1⟩,by omega⟩
 simp only[e,CX]
 unfold cF
 simp only
 have one:∀(c:Bool) (p:In->Bool),(xs.any λx=>c&&p x)=(c&&xs.any p):=λc p=>by cases c<;>simp
 rw[one,one,one]
 rfl
theorem pR {n m:Nat} (xs fs:List In) (h:∀f ∈ fs,xd n m f):fH jr fs xs=dQ (iv xs) (jc xs) fs:=
 jq λf hf=>by rw[vQ xs (h f hf)]
theorem jY {f g:In}:ct f g=true↔f.1=g.1/\f.2.2.1=g.2.2.1/\f.2.2.2.1=g.2.2.2.1/\f.2.2.2.2=g.2.2.2.2:=by
 rw[qf];simp
theorem CI {t:List In} (h:t.Pairwise λf g=>ct f g=false):∀{f g:In},f ∈ t->g ∈ t->ct f g=true->f=g:=by
 induction h with
 |nil=>intro f g hf;cases hf
 |@cons x l h1 h2 ih=>
  intro f g hf hg hc
  rcases List.mem_cons.1 hf with e1|h3<;>rcases List.mem_cons.1 hg with e2|h4
  ·rw[e1,e2]
  ·rw[e1,h1 g h4] at hc;cases hc
  ·have:=h1 f h3
   rw[e2] at hc ⊢
   rw[jY] at hc
   have h':ct x f=true:=jY.2 ⟨hc.1.symm,hc.2.1.symm,hc.2.2.1.symm,hc.2.2.2.symm⟩
   rw[this] at h';cases h'
  ·exact ih h3 h4 hc
theorem sJ {t:List In} (h:t.Pairwise λf g=>ct f g=false) (f:In):(t.any λg=>dA f g)=jk t f:=by
 unfold jk
 rcases i0 (λg=>ct g f) t 0 with⟨h1,h2⟩|⟨j,hj,h1,g0,h2,h3⟩
 ·have:decide (0<=cQ (λg=>ct g f) t 0)=false:=by simp;omega
  rw[this,Bool.false_and]
  refine CY λg hg=>?_
  cases he:dA f g
  ·rfl
  ·have he':f=g:=by simpa [dA] using he
   subst he'
   have:=h2 f hg
   rw[jY.2 ⟨rfl,rfl,rfl,rfl⟩] at this;cases this
 ·rw[h1]
  have h0:(0:Int)<=((0+j:Nat):Int):=by omega
  rw[decide_eq_true h0,Bool.true_and,Int.toNat_natCast,Nat.zero_add]
  have hgd:t.getD j dt=g0:=by rw[List.getD_eq_getElem?_getD,h2];rfl
  have hg:t.getD j dt ∈ t:=by rw[hgd];exact List.mem_of_getElem? h2
  have hc:ct (t.getD j dt) f=true:=by rw[hgd];exact h3
  rw[Bool.eq_iff_iff,List.any_eq_true,decide_eq_true_eq]
  constructor
  ·rintro ⟨g,hg',he⟩
   have he':f=g:=by simpa [dA] using he
   subst he'
   rw[CI h hg hg' hc]
  ·intro hto
   refine⟨_,hg,?_⟩
   have:=jY.1 hc
   have:f=t.getD j dt:=Prod.ext this.1.symm (Prod.ext hto.symm (Prod.ext this.2.1.symm (Prod.ext this.2.2.1.symm this.2.2.2.symm)))
   rw[<-this];simp[dA]
def sb (x:In) (k:List In):Int:=if dv x.1=true then cQ (λf=>ct f x) k 0 else-1
def sF (x:In) (k k':List In):Option (In×List In):=
 if 0<=sb x k'/\(k'.getD (sb x k').toNat dt).2.1=x.2.1 then none
 else some (if 0<=sb x k' then(36,x.2.1,(k'.getD (sb x k').toNat dt).2.1,-1,0) else x,
  dQ (iv [x]) (jc [x]) k'++(if dv x.1=true/\sb x k'<0/\x.2.1≠x.2.2.1/\x.2.1≠x.2.2.2.1 then[x] else[]))
theorem my:∀k:Nat,k<39->dv (k:Int)=true->(b9 k).getD 1 false=true:=by decide
theorem wb {op:Int} (h:op=27\/op=28\/op=29\/op=31):dv op=false:=by rcases h with rfl|rfl|rfl|rfl<;>rfl
theorem MS:∀op:Int,dv op=true->op≠4:=λop h e=>by subst e;revert h;decide
theorem ol {regs nA:Nat} {par:Int} {cs:List In} {pt:List Int} (hin:∀x ∈ cs,sf regs par nA x) (harg:∀x ∈ cs,0<=x.2.2.2.2) (hsh:eV cs pt cs.length 0 0=some 0):
  ∃a b,bS jr dA eH cs pt cs 0 ⟨[],[],[]⟩=some a/\v5 (λk xs=>dQ (iv xs) (jc xs) k) ij sF cs pt cs 0 ⟨[],[],[]⟩=some b/\a.out=b.out:=by
 refine qn (R:=VR2 regs nA) (λfs k xs _ h=>?_) (λfs k t k2 h h2=>?_) (λx hx fs k fs' k' h h' hcase=>?_) ⟨rfl,.nil,λf hf=>(by cases hf)⟩ hsh
 ·obtain⟨rfl,h1,h2⟩:=h
  refine⟨(pR xs k h2).symm,h1.filter _,λf hf=>h2 f (List.mem_filter.1 hf).1⟩
 ·obtain⟨rfl,h1,h3⟩:=h
  obtain⟨rfl,h4,h5⟩:=h2
  refine⟨?_,h1.filter _,λf hf=>h3 f (List.mem_filter.1 hf).1⟩
  exact(jq λf hf=>sJ h4 f).symm
 obtain⟨rfl,hd,hok⟩:=h
 obtain⟨rfl,hd',hok'⟩:=h'
 have hc:=hin x hx
 have keep1:∀y:In,(∀i,iv [y] i=iv [x] i)->(∀i,jc [y] i=jc [x] i)->fH jr k' [y]=dQ (iv [x]) (jc [x]) k':=λy e1 e2=>by
  rw[pR [y] k' hok',funext e1,funext e2]
 have good:VR2 regs nA (dQ (iv [x]) (jc [x]) k') (dQ (iv [x]) (jc [x]) k'):=⟨rfl,hd'.filter _,λf hf=>hok' f (List.mem_filter.1 hf).1⟩
 by_cases he:dv x.1=true
 ·have hns:¬nz x.1:=λh=>by
   have:dv x.1=false:=wb h
   rw[he] at this;cases this
  rcases hcase with h|⟨-,rfl⟩
  ·exact absurd h hns
  have hsx:sb x k'=cQ (λf=>ct f x) k' 0:=if_pos he
  have hto:0<=x.2.1/\x.2.1<regs:=by
   have:=hc.to
   obtain⟨q,hq⟩:∃q:Nat,x.1=(q:Int):=⟨x.1.toNat,by have:=hc.op;omega⟩
   rw[hq] at he
   rw[hq,Int.toNat_natCast,if_pos (my q (by have:=hc.op;omega) he)] at this
   exact this
  have hwx:bf x.1 x.2.1=x.2.1:=by
   obtain⟨q,hq⟩:∃q:Nat,x.1=(q:Int):=⟨x.1.toNat,by have:=hc.op;omega⟩
   rw[hq] at he
   unfold bf
   rw[hq,Int.toNat_natCast,if_pos (my q (by have:=hc.op;omega) he)]
  by_cases hi:0<=cQ (λf=>ct f x) k' 0
  ·have hdI:(k'.getD (cQ (λf=>ct f x) k' 0).toNat dt)=(k'.getD (cQ (λf=>ct f x) k' 0).toNat (0,0,0,0,0)):=rfl
   have hV:eH x k'=if(k'.getD (cQ (λf=>ct f x) k' 0).toNat (0,0,0,0,0)).2.1=x.2.1 then(x,false,[]) else((36,x.2.1,(k'.getD (cQ (λf=>ct f x) k' 0).toNat (0,0,0,0,0)).2.1,-1,0),true,[]):=by
    unfold eH;rw[if_pos he,if_pos hi]
   have hS:sF x k' k'=if(k'.getD (cQ (λf=>ct f x) k' 0).toNat (0,0,0,0,0)).2.1=x.2.1 then none else some ((36,x.2.1,(k'.getD (cQ (λf=>ct f x) k' 0).toNat (0,0,0,0,0)).2.1,-1,0),dQ (iv [x]) (jc [x]) k'):=by
    unfold sF
    rw[hsx,hdI,if_pos hi,if_neg (show ¬(dv x.1=true/\cQ (λf=>ct f x) k' 0<0/\x.2.1≠x.2.2.1/\x.2.1≠x.2.2.2.1) by omega),List.append_nil]
    by_cases hz:(k'.getD (cQ (λf=>ct f x) k' 0).toNat (0,0,0,0,0)).2.1=x.2.1
    ·rw[if_pos ⟨hi,hz⟩,if_pos hz]
    ·rw[if_neg (λh=>hz h.2),if_neg hz]
   rw[hV,hS]
   generalize (k'.getD (cQ (λf=>ct f x) k' 0).toNat (0,0,0,0,0)).2.1=z
   by_cases hz:z=x.2.1
   ·simp only[if_pos hz,Bool.false_eq_true,if_false]
    exact⟨trivial,hns⟩
   ·simp only[if_neg hz,if_true]
    refine⟨_,rfl,?_⟩
    rw[List.append_nil,keep1]
    ·exact good
    ·intro i
     simp only[iv,List.any_cons,List.any_nil,Bool.or_false,hwx]
     rfl
    ·intro i
     simp only[jc,List.any_cons,List.any_nil,Bool.or_false]
     rw[decide_eq_false (MS _ he)]
     rfl
  ·have hnew:∀f ∈ k',ct f x=false:=by
    rcases i0 (λg=>ct g x) k' 0 with⟨h1,h2⟩|⟨j,hj,h1,_⟩
    ·exact h2
    ·omega
   have hV:eH x k'=if x.2.1=x.2.2.1\/x.2.1=x.2.2.2.1 then(x,true,[]) else(x,true,[x]):=by
    unfold eH;rw[if_pos he,if_neg hi]
   have hS:sF x k' k'=some (x,dQ (iv [x]) (jc [x]) k'++if x.2.1=x.2.2.1\/x.2.1=x.2.2.2.1 then[] else[x]):=by
    unfold sF
    rw[hsx,if_neg (λh=>hi h.1),if_neg hi]
    congr 3
    by_cases hq:x.2.1=x.2.2.1\/x.2.1=x.2.2.2.1
    ·rw[if_pos hq,if_neg (λh=>hq.elim h.2.2.1 h.2.2.2)]
    ·rw[if_neg hq,if_pos ⟨he,by omega,λh=>hq (.inl h),λh=>hq (.inr h)⟩]
   rw[hV,hS]
   by_cases hq:x.2.1=x.2.2.1\/x.2.1=x.2.2.2.1
   ·simp only[if_pos hq,if_true]
    refine⟨_,rfl,?_⟩
    rw[List.append_nil,List.append_nil,keep1 x (λ_=>rfl) (λ_=>rfl)]
    exact good
   ·simp only[if_neg hq,if_true]
    refine⟨_,rfl,?_⟩
    rw[keep1 x (λ_=>rfl) (λ_=>rfl)]
    refine⟨rfl,?_,λf hf=>?_⟩
    ·rw[List.pairwise_append]
     refine⟨hd'.filter _,List.pairwise_singleton _ _,λf hf g hg=>?_⟩
     rw[List.mem_singleton] at hg
     subst hg
     exact hnew f (List.mem_filter.1 hf).1
    ·rcases List.mem_append.1 hf with hf|hf
     ·exact hok' f (List.mem_filter.1 hf).1
     ·rw[List.mem_singleton] at hf
      subst hf
      refine⟨hto,?_,?_,λh3=>⟨harg _ hx,?_⟩⟩
      ·have:=hc.a;split at this<;>omega
      ·have:=hc.b;split at this<;>omega
      ·have:=hc.arg
       rw[h3] at this
       have hm:b6 nA par 3=nA-1:=by unfold b6;simp
       rw[hm] at this;omega
 ·have hV:eH x k=(x,true,[]):=by unfold eH;rw[if_neg he]
  have hS:sF x k k'=some (x,dQ (iv [x]) (jc [x]) k'):=by
   unfold sF sb
   rw[if_neg he,if_neg (by omega),if_neg (by omega),if_neg (λh=>he h.1),List.append_nil]
  rw[hV,hS]
  simp only[if_true]
  refine⟨_,rfl,?_⟩
  rw[List.append_nil,keep1 x (λ_=>rfl) (λ_=>rfl)]
  exact good
end Go.Proofs.YtidhfimbnjaceaaGreat