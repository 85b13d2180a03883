/- A part of the proof of CostLimits. No condition. -/
import Derived.Deep.Upon
import Derived.Lib.LazyBuf
import Derived.Test.YtdpkgnmmikebdaaGreatGi04
set_option linter.unusedSimpArgs false
set_option linter.unusedVariables false
set_option linter.constructorNameAsVariable false
set_option maxRecDepth 100000
set_option maxHeartbeats 4000000
namespace Go.Proofs.YtdpkgnmmikebdaaGreat
open Go.RowKit
section
variable {x:AB}{H:AH}{cs:Array Value}{l:List AV}{B b c k:Nat}{σ:Sg}{w:World}
def Sg.ext(σ:Sg)(b:Nat)(y:Nat×Option Nat):Sg:={σ with nm:=λk=>if k=b then some y else σ k}
def Sg.extNil(σ:Sg)(b:Nat):Sg:={σ with nl:=λk=>k=b\/σ.nl k}
theorem Sg.le_ext{y:Nat×Option Nat}(h:σ b=none):σ.le (σ.ext b y):=⟨λk x hx=>by
 show(if k=b then some y else σ k)=some x
 by_cases e:k=b
 ·subst e;rw[h] at hx;cases hx
 ·rw[if_neg e];exact hx,λ_ h=>h,λc cs h=>⟨cs,h,oq.refl cs⟩⟩
theorem Sg.le_extNil(σ:Sg)(b:Nat):σ.le (σ.extNil b):=⟨λ_ _ h=>h,λ_ h=> .inr h,λc cs h=>⟨cs,h,oq.refl cs⟩⟩
theorem Sg.ext_self(σ:Sg)(b:Nat)(y:Nat×Option Nat):σ.ext b y b=some y:=if_pos rfl
theorem Sg.ext_ne(σ:Sg)(y:Nat×Option Nat)(h:k≠b):σ.ext b y k=σ k:=if_neg h
def AH.kill(H:AH)(b:Nat):AH:=match H.at b with
 |some x=>{H with blks:=Tr.set 48 H.blks b {x with live:=false},low:=min H.low b}
 |none=>H
theorem AH.at_kill{b':Nat}(hb:b<2^40)(hx:(H.kill b).at b'=some x):b'≠b/\H.at b'=some x:=by
 unfold AH.kill at hx;split at hx
 ·rename_i y hy;rw[AH.at_put _ _ _ _ _ _ _ _ hb] at hx;by_cases e:b'=b
  ·rw[if_pos e] at hx;simp at hx
  ·rw[if_neg e] at hx;exact⟨e,hx⟩
 ·rename_i hy;refine⟨λe=>?_,hx⟩;subst e;rw[hy] at hx;cases hx
theorem AH.kill_next(H:AH)(b:Nat):(H.kill b).next=H.next:=by unfold AH.kill;split<;>rfl
theorem AH.kill_ob(H:AH)(b:Nat):(H.kill b).ob=H.ob:=by unfold AH.kill;split<;>rfl
theorem AH.kill_mp(H:AH)(b:Nat):(H.kill b).mp=H.mp:=by unfold AH.kill;split<;>rfl
theorem AH.kill_low(H:AH)(b:Nat):(H.kill b).low<=H.low:=by
 unfold AH.kill;split
 ·exact Nat.min_le_left _ _
 ·exact bL _
theorem HR.place{H1:AH}{w':World}(h:HR B σ H w){o:Option Nat}
  (hn1:H1.next=H.next) (hat:∀b y,H1.at b=some y->H.at b=some y/\∀c' o',σ b=some (c',o')->c'≠c/\w'.heap[c']? =w.heap[c']?) (hnx:H.next+1<2^40) (hlive:x.live=true)
  (hc:B<=c) (hw:w'.heap[c]? =some (.cells cs x.ty (0,0))) (hB:B<=w'.heap.size) (hbr:BR (σ.ext H.next (c,o)) x o cs) (hxs:x.size<2^40)
  (hfz:∀c' fs,σ.fz c'=some fs->(c'≠c->w'.heap[c']? =w.heap[c']?)/\(c'=c->fs.size<=x.fzn/\oq fs cs)) (hob:OM B σ H1.mp H1.ob w'):
  HR B (σ.ext H.next (c,o)) (H1.new x) w':=by
 have hle:σ.le (σ.ext H.next (c,o)):=Sg.le_ext (h.new _ (bL _))
 have hsm:=h.small;have look:∀b y,(H1.new x).at b=some y->(b=H.next/\y=x)\/(b≠H.next/\H1.at b=some y):=by
  intro b y hy;unfold AH.new at hy;rw[AH.at_put _ _ _ _ _ _ _ _ aa,hn1] at hy;by_cases e:b=H.next
  ·exact aqs
  ·exact aqt
 have hnn:(H1.new x).next=H.next+1:=by unfold AH.new;rw[hn1]
 refine⟨λb hb=>?_,λb hb=>?_,λb hb=>?_,by rw[hnn];exact hnx,hB,λb y hy hn=>?_,λb hb=>?_,λb y c' o' hy hs=>?_,λb y hy=>?_,λb b' y y' c1 o1 o2 k1 k2 k3 k4=>?_,λc' fs hf=>?_,hob.mono hle⟩
 ·rw[hnn] at hb;rw[Sg.ext_ne _ _ aa];exact h.new b aa
 ·rw[hnn] at hb;exact h.newl b aa
 ·rw[hnn] at hb;cases hy:(H1.new x).at b with
  |none=>rfl
  |some y=>
   rcases look b y hy with⟨e,_⟩|⟨e,h1⟩
   ·omega
   ·have:=(hat b y h1).1;rw[h.old b aa] at this;cases this
 ·rcases look b y hy with⟨rfl,rfl⟩|⟨e,h1⟩
  ·rw[Sg.ext_self] at hn;cases hn
  ·rw[Sg.ext_ne _ _ e] at hn;exact h.nil b y (hat b y h1).1 hn
 ·have hb':σ.nl b:=hb;have e:b≠H.next:=λe=>h.newl b aa hb'
  rw[Sg.ext_ne _ _ e];exact h.nilp b hb'
 ·rcases look b y hy with⟨rfl,rfl⟩|⟨e,h1⟩
  ·rw[Sg.ext_self] at hs;cases hs;exact⟨cs,hc,hw,hbr⟩
  ·rw[Sg.ext_ne _ _ e] at hs;obtain⟨h2,h3⟩:=hat b y h1;obtain⟨cs',g2,g3,g4⟩:=h.blk b y c' o' h2 hs;obtain⟨q1,q2⟩:=h3 c' o' hs;exact⟨cs',g2,by rw[q2];exact g3,g4.mono hle⟩
 ·rcases look b y hy with⟨rfl,rfl⟩|⟨e,h1⟩
  ·exact hxs
  ·exact h.szs b y (hat b y h1).1
 ·rcases look b y k1 with⟨rfl,rfl⟩|⟨e,h1⟩
  ·rcases look b' y' k2 with⟨rfl,rfl⟩|⟨e',h1'⟩
   ·rfl
   ·rw[Sg.ext_self] at k3;rw[Sg.ext_ne _ _ e'] at k4;cases k3;exact absurd rfl ((hat b' y' h1').2 _ _ k4).1
  ·rcases look b' y' k2 with⟨rfl,rfl⟩|⟨e',h1'⟩
   ·rw[Sg.ext_self] at k4;rw[Sg.ext_ne _ _ e] at k3;cases k4;exact absurd rfl ((hat b y h1).2 _ _ k3).1
   ·rw[Sg.ext_ne _ _ e] at k3;rw[Sg.ext_ne _ _ e'] at k4;exact h.inj b b' y y' c1 o1 o2 (hat b y h1).1 (hat b' y' h1').1 k3 k4
 ·have hf':σ.fz c'=some fs:=hf;obtain⟨p1,p2⟩:=hfz c' fs hf';obtain⟨cs',t',fr',g1,g2,g3⟩:=h.frz c' fs hf';have third:∀b y o,(H1.new x).at b=some y->(σ.ext H.next (c,o)) b=some (c',o)->b≠H.next->fs.size<=y.fzn:=λb y o1 hy hs e=>by
   rcases look b y hy with⟨e',_⟩|⟨_,h1⟩
   ·exact absurd e' e
   ·rw[Sg.ext_ne _ _ e] at hs;exact g3 b y o1 (hat b y h1).1 hs
  by_cases e:c'=c
  ·obtain⟨q1,q2⟩:=p2 e;refine⟨cs,x.ty,(0,0),by rw[e];exact hw,q2,λb y o1 hy hs=>?_⟩
   rcases look b y hy with⟨e',rfl⟩|⟨e',h1⟩
   ·exact q1
   ·exact aqu
  ·refine⟨cs',t',fr',by rw[p1 e];exact g1,g2,λb y o1 hy hs=>?_⟩
   rcases look b y hy with⟨e',rfl⟩|⟨e',h1⟩
   ·rw[e',Sg.ext_self] at hs;cases hs;exact absurd rfl e
   ·exact aqu
theorem HR.placeNil{H1:AH}(h:HR B σ H w)(hn1:H1.next=H.next)(hat:∀b y,H1.at b=some y->H.at b=some y)(hnx:H.next+1<2^40)(hlive:x.live=true)(h0:x.size=0)(hop:x.opn=true)(hob:H1.ob=H.ob/\H1.mp=H.mp):
  HR B (σ.extNil H.next) (H1.new x) w:=by
 have hle:σ.le (σ.extNil H.next):=Sg.le_extNil _ _
 have hsm:=h.small;have look:∀b y,(H1.new x).at b=some y->(b=H.next/\y=x)\/(b≠H.next/\H1.at b=some y):=by
  intro b y hy;unfold AH.new at hy;rw[AH.at_put _ _ _ _ _ _ _ _ aa,hn1] at hy;by_cases e:b=H.next
  ·exact aqs
  ·exact aqt
 have hnn:(H1.new x).next=H.next+1:=by unfold AH.new;rw[hn1]
 have hnew:σ H.next=none:=h.new _ (bL _)
 refine⟨λb hb=>?_,λb hb=>?_,λb hb=>?_,by rw[hnn];exact hnx,h.hB,λb y hy hn=>?_,λb hb=>?_,λb y c' o' hy hs=>?_,λb y hy=>?_,λb b' y y' c1 o1 o2 k1 k2 k3 k4=>?_,λc' fs hf=>?_,by show OM B _ H1.mp H1.ob w;rw[hob.1,hob.2];exact h.ob.mono hle⟩
 ·rw[hnn] at hb;exact h.new b aa
 ·rw[hnn] at hb;rintro (e|e)
  ·omega
  ·exact h.newl b aa e
 ·rw[hnn] at hb;cases hy:(H1.new x).at b with
  |none=>rfl
  |some y=>
   rcases look b y hy with⟨e,_⟩|⟨e,h1⟩
   ·omega
   ·have:=hat b y h1;rw[h.old b aa] at this;cases this
 ·rcases look b y hy with⟨rfl,rfl⟩|⟨e,h1⟩
  ·exact⟨h0,hop,.inl rfl⟩
  ·obtain⟨q1,q2,q3⟩:=h.nil b y (hat b y h1) hn;exact⟨q1,q2,.inr q3⟩
 ·rcases hb with e|e
  ·rw[e];exact hnew
  ·exact h.nilp b e
 ·rcases look b y hy with⟨rfl,rfl⟩|⟨e,h1⟩
  ·have hs':σ H.next=some (c',o'):=hs
   rw[hnew] at hs';cases hs'
  ·obtain⟨cs',g2,g3,g4⟩:=h.blk b y c' o' (hat b y h1) hs;exact⟨cs',g2,g3,g4.mono hle⟩
 ·rcases look b y hy with⟨rfl,rfl⟩|⟨e,h1⟩
  ·omega
  ·exact h.szs b y (hat b y h1)
 ·have e1:H1.at b=some y:=by
   rcases look b y k1 with⟨rfl,rfl⟩|⟨e,h1⟩
   ·have hs':σ H.next=some (c1,o1):=k3
    rw[hnew] at hs';cases hs'
   ·exact h1
  have e2:H1.at b'=some y':=by
   rcases look b' y' k2 with⟨rfl,rfl⟩|⟨e,h1⟩
   ·have hs':σ H.next=some (c1,o2):=k4
    rw[hnew] at hs';cases hs'
   ·exact h1
  exact h.inj b b' y y' c1 o1 o2 (hat b y e1) (hat b' y' e2) k3 k4
 ·obtain⟨cs',t',fr',g1,g2,g3⟩:=h.frz c' fs hf;refine⟨cs',t',fr',g1,g2,λb y o1 hy hs=>?_⟩;rcases look b y hy with⟨rfl,rfl⟩|⟨e',h1⟩
  ·have hs':σ H.next=some (c',o1):=hs
   rw[hnew] at hs';cases hs'
  ·exact g3 b y o1 (hat b y h1) hs
theorem HR.fzlt(h:HR B σ H w){fs:Array Value}(hf:σ.fz c=some fs):c<w.heap.size:=by
 obtain⟨cs',t',fr',g1,_⟩:=h.frz c fs hf;exact(apo.1 g1).1
theorem HR.alloc(h:HR B σ H w)(hnx:H.next+1<2^40)(hlive:x.live=true)(hopn:x.opn=false)(hsz:cs.size=x.size)(hxs:x.size<2^40)
  (hcell:∀i,i<x.size->VR σ (x.get i) (cs.getD i undef)):
  HR B (σ.ext H.next (w.heap.size,none)) (H.new x) (w.alloc (.cells cs x.ty))/\Fr B σ (σ.ext H.next (w.heap.size,none)) H (H.new x) w (w.alloc (.cells cs x.ty)):=by
 have hle:σ.le (σ.ext H.next (w.heap.size,none)):=Sg.le_ext (h.new _ (bL _))
 refine⟨h.place rfl (λb y hy=>⟨hy,λc' o' hs=>?_⟩) hnx hlive h.hB (uP _ _) (by simp;have:=h.hB;omega) ⟨aa,λ_=>hsz,λk hk=>(by cases hk),(by rw[hopn];rfl),λi hi=>(hcell i hi).mono hle⟩ hxs
  (λc' fs hf=>⟨λ_=>Below.heap_alloc _ _ _ (h.fzlt hf),λe=>by have:=h.fzlt hf;omega⟩) (h.ob.keep λr hr _=>Below.heap_alloc _ _ _ hr),?_⟩
 ·exact aqv
 ·refine⟨λb hb=>Sg.ext_ne _ _ aa,hle,Nat.le_succ _,bL _,(Below.refl _ _).alloc h.hB _,λc hc=> .inl (Below.heap_alloc _ _ _ hc),λb c o hb hs hc=>?_⟩;by_cases e:b=H.next
  ·exact aqw
  ·exact aqx
theorem HR.allocO(h:HR B σ H w)(hnx:H.next+1<2^40)(hlive:x.live=true)(hopn:x.opn=true)(hsz:cs.size=x.size)(hxs:x.size<2^40)(hk:cs.size=k*x.esz)(hkm:k<=maxLen)
  (hcell:∀i,i<x.size->VR σ (x.get i) (cs.getD i undef)):
  HR B (σ.ext H.next (w.heap.size,some k)) (H.new x) (w.alloc (.cells cs x.ty))/\Fr B σ (σ.ext H.next (w.heap.size,some k)) H (H.new x) w (w.alloc (.cells cs x.ty)):=by
 have hle:σ.le (σ.ext H.next (w.heap.size,some k)):=Sg.le_ext (h.new _ (bL _))
 refine⟨h.place rfl (λb y hy=>⟨hy,λc' o' hs=>?_⟩) hnx hlive h.hB (uP _ _) (by simp;have:=h.hB;omega) ⟨aa,λe=>(by cases e),λk' hk'=>(by cases hk';exact⟨Nat.le_of_eq hk.symm,hkm⟩),(by rw[hopn];rfl),λi hi=>(hcell i hi).mono hle⟩ hxs
  (λc' fs hf=>⟨λ_=>Below.heap_alloc _ _ _ (h.fzlt hf),λe=>by have:=h.fzlt hf;omega⟩) (h.ob.keep λr hr _=>Below.heap_alloc _ _ _ hr),?_⟩
 ·exact aqv
 ·refine⟨λb hb=>Sg.ext_ne _ _ aa,hle,Nat.le_succ _,bL _,(Below.refl _ _).alloc h.hB _,λc hc=> .inl (Below.heap_alloc _ _ _ hc),λb c o hb hs hc=>?_⟩;by_cases e:b=H.next
  ·exact aqw
  ·exact aqx
inductive ke where
 |li (l:List AV)
 |fn (n:Nat) (g:Nat->AV)
def ke.len:ke->Nat
 |.li l=>l.length
 |.fn n _=>n
def ke.at:ke->Nat->AV
 |.li l,i=>l[i]?.getD .u
 |.fn _ g,i=>g i
def AB.app(x:AB)(o:Nat):ke->AB
 |.li l=>{x with size:=o+l.length,cells:=wR x.cells o l,opn:=true,live:=true}
 |.fn n g=>{x with size:=o+n,dflt:=λi=>if o<=i then g (i-o) else x.get i,cells:= .nil,opn:=true,live:=true}
def l8(esz:Nat)(ty:TypeId):AB:=⟨0,esz,ty,λ_=> .u,.nil,true,true,0⟩
def r9(esz byt len n:Nat):Bool:=decide ((len+n)*esz<2^40)&&decide ((len+n)*byt<=140737488355328)&&decide (len+n<=maxLen)
def AH.append(H:AH)(ty esz byt:Nat)(s:AV)(src:ke)(n:Nat):Option (AV×AH):=
 if src.len=n*esz/\0<esz/\H.next+1<2^40 then
  match s with
  |.sl0=>if r9 esz byt 0 n=true then some (.os H.next n,H.new ((l8 esz ty).app 0 src)) else none
  |.os b len=>
   match H.at b with
   |some x=>if(x.ty=ty/\x.esz=esz/\x.opn=true/\x.fzn<=len*esz/\len*esz<=x.size)/\r9 esz byt len n=true then some (.os H.next (len+n),(H.kill b).new (x.app (len*esz) src)) else none
   |none=>none
  |.sl b 0 len cap=>
   match H.at b with
   |some x=>
    if(x.ty=ty/\x.esz=esz/\0<n/\len<=cap/\cap<=maxLen/\x.fzn<=len*esz/\len*esz<=x.size/\(x.opn=true\/x.size=cap*esz))/\r9 esz byt len n=true then some (.os H.next (len+n),(H.kill b).new (x.app (len*esz) src)) else none
   |none=>none
  |_=>none
 else none
theorem Ah(l:List AV):∀(t:Tr AV) (k i:Nat),k+l.length<2^47->
  ((l.foldl (λ(p:Tr AV×Nat) v=>(Tr.set 48 p.1 p.2 v,p.2+1)) (t,k)).1).get i=if k<=i/\i<k+l.length then l[i-k]? else t.get i:=by
 induction l with
 |nil=>intro t k i h;rw[if_neg (by simp only[List.length_nil];omega)];rfl
 |cons v l ih=>
  intro t k i h;simp only[List.length_cons] at h;rw[List.foldl_cons,ih _ _ _ aa,List.length_cons];by_cases h1:k+1<=i/\i<k+1+l.length
  ·rw[if_pos h1,if_pos aa,show i-k=(i-(k+1))+1 by omega,List.getElem?_cons_succ]
  ·rw[if_neg h1,Tr.get_set 48 t k v i aa];by_cases e:i=k
   ·subst e;rw[if_pos rfl,if_pos aa];simp
   ·rw[if_neg e,if_neg aa]
theorem uu(t:Tr AV)(o:Nat)(l:List AV)(i:Nat)(h:o+l.length<2^47):(wR t o l).get i=if o<=i/\i<o+l.length then l[i-o]? else t.get i:=Ah l t o i h
theorem mT(l:List AV)(i:Nat)(h:l.length<2^47):(oh l).get i=l[i]? :=by
 unfold oh wR;rw[Ah l .nil 0 i aa];by_cases hi:i<l.length
 ·rw[if_pos aa];simp
 ·rw[if_neg aa,apI aa];rfl
theorem gn.app{l':List AV}{cs cs':List Value}(h:gn σ l cs)(h':gn σ l' cs'):gn σ (l++l') (cs++cs'):=by
 refine⟨by simp[h.1,h'.1],λi v hv=>?_⟩
 by_cases hi:i<l.length
 ·rw[apF hi] at hv;have:=h.2 i v hv;rw[apd] at this ⊢;rw[apF (by rw[<-h.1];exact hi)]
  exact this
 ·rw[apP aa] at hv;have:=h'.2 _ v hv;rw[apd] at this ⊢;rw[apP (by rw[<-h.1];omega),<-h.1]
  exact this
theorem HR.loadN(h:HR B σ H w):∀(n i:Nat) (l:List AV),H.loadN b i n=some l->0<n->
  ∃c o cs,σ b=some (c,o)/\c<w.heap.size/\gn σ l cs/\l.length=n/\∀j,j<n->w.cell? ⟨c,i+j,none⟩=cs[j]?
 |0,_,_,_,h0=>by omega
 |n+1,i,l,hl,_=>by
  unfold AH.loadN at hl;cases hv:H.load b i with
  |none=>rw[hv] at hl;cases hl
  |some v=>
   rw[hv] at hl;simp only[apc] at hl;obtain⟨l',h1,rfl⟩:=hl;obtain⟨c,o,u,g1,g2,g3,g4⟩:=h.load hv;by_cases hn:n=0
   ·subst hn;simp only[AH.loadN,apn] at h1;subst h1;refine⟨c,o,[u],g1,g4,gn.nil.cons g3,rfl,λj hj=>?_⟩;have:j=0:=aa;subst this;simpa using g2
   ·obtain⟨c',o',cs,k1,k2,k3,k4,k5⟩:=HR.loadN h n (i+1) l' h1 aa;rw[g1] at k1;cases k1;refine⟨c,o,u::cs,g1,g4,k3.cons g3,by simp[k4],λj hj=>?_⟩
    cases j with
    |zero=>simpa using g2
    |succ j=>rw[show i+(j+1)=i+1+j by omega];simpa using k5 j aa
theorem AV.one_cell{a:AV}{v:Value}(h:VR σ a v)(h1:a.one=true):v.oneCell'=true:=by
 cases h<;>first|rfl|assumption|(simp[AV.one] at h1)
theorem gn.one{cs:List Value}(h:gn σ l cs)(h1:l.all AV.one=true):∀u ∈ cs,u.oneCell'=true:=by
 intro u hu;obtain⟨i,hi,rfl⟩:=List.getElem_of_mem hu;have hil:i<l.length:=by rw[h.1];exact hi
 have:=h.2 i l[i] (apk hil);rw[apd,apk hi] at this;exact AV.one_cell this (apr.1 h1 _ (ap2 hil))
theorem AB.app_get(x:AB)(o:Nat)(s:ke)(i:Nat)(h:o+s.len<2^47)(hi:i<o+s.len):(x.app o s).get i=if o<=i then s.at (i-o) else x.get i:=by
 cases s with
 |li l=>
  simp only[ke.len] at h hi;simp only[AB.app,AB.get];rw[uu _ _ _ _ h];by_cases ho:o<=i
  ·rw[if_pos ⟨ho,hi⟩,if_pos ho];simp only[ke.at];rw[apk aa];rfl
  ·rw[if_neg aa,if_neg ho]
 |fn n g=>simp[AB.app,AB.get,Tr.get_nil,ke.at]
theorem AB.app_size(x:AB)(o:Nat)(s:ke):(x.app o s).size=o+s.len:=by cases s<;>rfl
theorem AB.app_rest(x:AB)(o:Nat)(s:ke):(x.app o s).esz=x.esz/\(x.app o s).ty=x.ty/\(x.app o s).opn=true/\(x.app o s).live=true/\(x.app o s).fzn=x.fzn:=by cases s<;>exact⟨rfl,rfl,rfl,rfl,rfl⟩
theorem Da{cs:List Value}(h:gn σ l cs){cur:Array Value}{m:Nat}(hm:l.length=m)(hmx:m<2^40)(htk:cur.toList.take m=cs)(ty esz:Nat)(o lv:Bool)(d:Nat->AV)(fz:Nat):
  ∀i,i<m->VR σ (AB.get ⟨m,esz,ty,d,oh l,o,lv,fz⟩ i) (cur.getD i undef):=by
 intro i hi;unfold AB.get;simp only;rw[mT l i aa,apk aa,Option.getD_some];have:=h.2 i l[i] (apk aa);rw[<-htk,apd,ap6 hi] at this;simpa [apA] using this
theorem AH.kill_low_le(h:H.at b=some x):(H.kill b).low<=b:=by
 unfold AH.kill;rw[h];exact Nat.min_le_right _ _
theorem pC(c:Nat):∀(vs:List Value) (o:Nat) (w:World) (cs:Array Value) (t:TypeId) (fr:Nat×Nat),w.heap[c]? =some (.cells cs t fr)->o+vs.length<=cs.size->
  ∃cs',(w.setCells c o vs).heap[c]? =some (.cells cs' t fr)/\cs'.size=cs.size/\(∀j,j<o->cs'[j]? =cs[j]?)/\∀j,j<vs.length->cs'[o+j]? =vs[j]?
 |[],o,w,cs,t,fr,h,_=>⟨cs,h,rfl,λ_ _=>rfl,λj hj=>by simp at hj⟩
 |v::vs,o,w,cs,t,fr,h,hl=>by
  simp only[List.length_cons] at hl;have h1:(w.setCell ⟨c,o,none⟩ v).heap[c]? =some (.cells (cs.setIfInBounds o v) t fr):=by
   simp only[World.setCell,apN,h];simp
  obtain⟨cs',g1,g2,g3,g4⟩:=pC c vs (o+1) _ _ t fr h1 (by rw[Array.size_setIfInBounds];omega)
  refine⟨cs',g1,by simpa using g2,λj hj=>?_,λj hj=>?_⟩
  ·rw[g3 j aa,aqd aa]
  ·cases j with
   |zero=>
    rw[Nat.add_zero,g3 o aa];have:o<cs.size:=aa;simp[this]
   |succ j=>
    have:=g4 j (by simpa using hj)
    rw[show o+(j+1)=o+1+j by omega,this]
    simp
theorem uZ{P:Program}{t tx tyR e:TypeId}{i:TypeInfo}{z:Value}{esz byt:Nat}(ht:P.underlying t=some (.slice e))(hi:P.info? e=some i)(hz:i.zero=some z)(hsize:i.size=esz)(hby:i.bytes=byt)(hzs:z.cells.size=esz)
  {yv:Value} {len n cap':Nat} {ad:Option Addr} {olds news:List Value} (hsrc:Src P esz tx yv n news w) (hlim:r9 esz byt len n=true)
  (hold:(len=0/\cap'=0/\olds=[])\/∃c cs,ad=some ⟨c,0,none⟩/\w.heap[c]? =some (.cells cs e (0,0))/\cap'*esz<=cs.size/\len<=cap'/\olds=cs.toList.take (len*esz)):
  ∃u w',(Builtin.append_ #[t,tx] tyR #[.slice ad len cap',yv]).run P w= .ok u w'/\w'.os=w.os/\w'.tape=w.tape/\w'.output=w.output/\w.heap.size<=w'.heap.size/\
   ((len+n<=cap'/\u= .slice ad (len+n) cap'/\((n=0/\w'=w)\/0<n/\∃c cs cs',ad=some ⟨c,0,none⟩/\w.heap[c]? =some (.cells cs e (0,0))/\w'.heap[c]? =some (.cells cs' e (0,0))/\cs'.size=cs.size/\(∀j,j<len*esz->cs'[j]? =cs[j]?)/\(∀j,j<n*esz->cs'[len*esz+j]? =news[j]?)/\
     ∀k,k<w.heap.size->k≠c->w'.heap[k]? =w.heap[k]?))\/
    (∃cap2 cur,u= .slice (some ⟨w.heap.size,0,none⟩) (len+n) cap2/\len+n<=cap2/\cap2<=maxLen/\w'.heap[w.heap.size]? =some (.cells cur e (0,0))/\cur.size=cap2*esz/\(∀j,j<len*esz->cur[j]? =olds[j]?)/\(∀j,j<n*esz->cur[len*esz+j]? =news[j]?)/\
     ∀k,k<w.heap.size->w'.heap[k]? =w.heap[k]?)):=by
 subst hsize;subst hby;simp only[r9,apq,decide_eq_true_eq] at hlim;obtain⟨⟨p1,p2⟩,p3⟩:=hlim;have hnl:=hsrc.newsLen;have holdl:olds.length=len*i.size:=by
  rcases hold with⟨rfl,_,rfl⟩|⟨c,cs,_,_,h3,h4,rfl⟩
  ·simp
  ·rw[apL,apX];exact Nat.min_eq_left (apj (apD _ h4) h3)
 by_cases hroom:len+n<=cap'
 ·rcases hold with⟨rfl,rfl,rfl⟩|⟨c,cs,rfl,h2,h3,h4,rfl⟩
  ·have hn:n=0:=aa;subst hn;have hnil:news=[]:=aqe aa;subst hnil;exact⟨_,w,run_append_nothing w t tx tyR e i ht hi ad 0 0 (bL _) yv hsrc,rfl,rfl,rfl,bL _,.inl ⟨hroom,rfl,.inl ⟨rfl,rfl⟩⟩⟩
  ·have hfit:len*i.size+news.length<=cs.size:=by rw[hnl,<-Nat.add_mul];exact apj (apD _ hroom) h3
   have hcl:∀j,j<news.length->(w.cell? ⟨c,0+len*i.size+j,none⟩).isSome=true:=λj hj=>by
    have:0+len*i.size+j<cs.size:=aa;simp only[World.cell?,h2];rw[ap7 this];rfl
   have hr:=run_append_room_src (P:=P) w t tx tyR e i ht hi c 0 len cap' yv n news hsrc hroom hcl (λj hj=>by simp[World.frozen?,h2])
   rw[apz] at hr;obtain⟨cs',g1,g2,g3,g4⟩:=pC c news (len*i.size) w cs e (0,0) h2 hfit;have hk:=World.keptBut_setCells c (may:=λ_=>True) news (len*i.size) w (λ_ _=>trivial);have hB:=Go.below_setCells (B:=c) (b:=c) (a:=w) (bL _) news (len*i.size) w (Below.refl _ _);by_cases hn0:n=0
   ·have hnil:news=[]:=aqe (by rw[hnl,hn0];simp)
    subst hnil;exact⟨_,_,hr,rfl,rfl,rfl,bL _,.inl ⟨hroom,rfl,.inl ⟨hn0,rfl⟩⟩⟩
   refine⟨_,_,hr,hB.os,hB.tape,hB.output,hB.size,.inl ⟨hroom,rfl,.inr ⟨aa,c,cs,cs',rfl,h2,g1,g2,g3,λj hj=>g4 j aa,λk hk hkc=>World.heap_setCells_other w c _ _ hk hkc⟩⟩⟩
 ·have hfc:(Builtin.firstCells i.size len (.slice ad len cap')).run P w.drew= .ok olds.toArray w.drew:=by
   rcases hold with⟨rfl,rfl,rfl⟩|⟨c,cs,rfl,h2,h3,h4,rfl⟩
   ·cases ad with
    |none=>exact run_firstCells_none _ _ _ _ _
    |some ad=>exact run_firstCells_some _ _ _ _ _ _ _ holdl (λj v hj=>by simp at hj)
   ·refine run_firstCells_some _ _ _ _ _ _ _ holdl (λj v hj=>?_);have hjl:j<len*i.size:=by
     by_cases hh:j<len*i.size
     ·exact hh
     ·rw[apI (by rw[holdl];omega)] at hj;cases hj
    rw[ap6 hjl,apC] at hj;rw[Addr.add_lit,apz];show w.cell? ⟨c,j,none⟩=some v;simp only[World.cell?,h2];exact hj
  have hg:cap'<len+n:=aa;have hr:=run_append_grow_src (P:=P) w t tx tyR e i z ht hi hz ad len cap' olds hfc yv n news hsrc hg (by simp only[maxLen] at p3;omega) (growslice_fits hg p2)
  have hge:=grownCap_ge w (len+n) cap' e;refine⟨_,_,hr,rfl,rfl,rfl,ae,.inr ⟨_,_,rfl,hge,grownCap_le_maxLen w _ _ e p3,heap_alloc_new w.drew _,?_,λj hj=>?_,λj hj=>?_,λk hk=>Below.heap_alloc w.drew _ k hk⟩⟩
  ·simp only[Array.size_append,List.size_toArray,size_zeroCells,hzs,ape,holdl,hnl,<-Nat.add_mul];congr 1;omega
  ·rw[Array.getElem?_append_left (by simp;omega),List.getElem?_toArray,apF aa]
  ·rw[Array.getElem?_append_left (by simp;omega),List.getElem?_toArray,apP aa,holdl,Nat.add_sub_cancel_left]
theorem HR.append{P:Program}{H':AH}(h:HR B σ H w){ty esz byt n:Nat}{s r:AV}{src:ke}(ha:H.append ty esz byt s src n=some (r,H')){v:Value}(hs:VR σ s v){news:List Value}
  (hl:∀i,i<n*esz->VR σ (src.at i) (news.getD i undef))
  {t tx tyR:TypeId} {i:TypeInfo} {z:Value} (ht:P.underlying t=some (.slice ty)) (hi:P.info? ty=some i) (hz:i.zero=some z) (hsize:i.size=esz) (hby:i.bytes=byt) (hzs:z.cells.size=esz)
  {yv:Value} (hsrc:Src P esz tx yv n news w):
  ∃u w' σ',(Builtin.append_ #[t,tx] tyR #[v,yv]).run P w= .ok u w'/\VR σ' r u/\HR B σ' H' w'/\Fr B σ σ' H H' w w'/\σ'.fz=σ.fz:=by
 unfold AH.append at ha;split at ha;rotate_left
 ·cases ha
 rename_i hc;obtain⟨q1,q3,q4⟩:=hc;have hsm:=h.small;have hnl:=hsrc.newsLen;have onNil:∀(y:AB) (H1:AH),H1.next=H.next->(∀b x,H1.at b=some x->H.at b=some x)->H1.low<=H.low->(H1.ob=H.ob/\H1.mp=H.mp)->r9 esz byt 0 n=true->y.size=n*esz->y.esz=esz->y.ty=ty->y.opn=true->y.live=true->(∀i,i<n*esz->y.get i=src.at i)->(∃a0,v= .slice a0 0 0)->r= .os H.next n->H'=H1.new y->
   ∃u w' σ',(Builtin.append_ #[t,tx] tyR #[v,yv]).run P w= .ok u w'/\VR σ' r u/\HR B σ' H' w'/\Fr B σ σ' H H' w w'/\σ'.fz=σ.fz:=by
  rintro y H1 hn1 hat1 hlow1 hob1 hlim y1 y2 y3 y4 y5 y7 ⟨a0,rfl⟩ rfl rfl;obtain⟨u,w',hr,e1,e2,e3,e4,hcase⟩:=uZ (P:=P) (w:=w) (tyR:=tyR) (ad:=a0) (len:=0) (cap':=0) (olds:=[]) ht hi hz hsize hby hzs hsrc hlim (.inl ⟨rfl,rfl,rfl⟩);simp only[r9,apq,decide_eq_true_eq,apz] at hlim;obtain⟨⟨p1,p2⟩,p3⟩:=hlim;rcases hcase with⟨_,rfl,h1⟩|⟨cap,cur,rfl,k2,k3,k1,k4,_,k5,k7⟩
  ·have h1':n=0/\w'=w:=by
    rcases h1 with h3|⟨h0,_⟩
    ·exact h3
    ·omega
   obtain⟨rfl,rfl⟩:=h1'
   ·refine⟨_,w',σ.extNil H.next,hr,.os0 (σ:=σ.extNil H.next) (Or.inl rfl) _,h.placeNil hn1 hat1 q4 y5 aa y4 hob1,?_,rfl⟩
    refine⟨λb hb=>rfl,Sg.le_extNil _ _,by show H.next<=H1.next+1;omega,hlow1,Below.refl _ _,λc hc=> .inl rfl,λb c o hb hs hc=>?_⟩
    have hs':σ b=some (c,o):=hs;rw[h.new b hb] at hs';cases hs'
  ·rw[ap3] at k5;simp only[apz] at k2 k5 hr ⊢;have hle:σ.le (σ.ext H.next (w.heap.size,some cap)):=Sg.le_ext (h.new _ (bL _))
   have hbel:Below B w w':=⟨e1,e2,e3,e4,λk hk=>k7 k (by have:=h.hB;omega)⟩
   refine⟨_,w',σ.ext H.next (w.heap.size,some cap),hr,.os (Sg.ext_self _ _ _) k2,?_,?_,rfl⟩
   ·refine h.place hn1 (λb y hy=>⟨hat1 b y hy,λc' o' hs=>?_⟩) q4 y5 h.hB (by rw[y3];exact k1) (apj h.hB e4) ⟨?_,λe=>(by cases e),λk hk=>?_,by rw[y4];rfl,λj hj=>?_⟩ (by rw[y1];exact p1) (λc' fs hf=>?_) (by rw[hob1.1,hob1.2];exact h.ob.keep λr hr _=>k7 r hr)
    ·obtain⟨cs1,g2,g3,_⟩:=h.blk b y c' o' (hat1 b y hy) hs;have hlt':c'<w.heap.size:=(apo.1 g3).1;exact⟨aa,k7 c' hlt'⟩
    ·rw[y1,k4];exact apD _ k2
    ·cases hk;exact⟨by rw[y2];exact Nat.le_of_eq k4.symm,k3⟩
    ·rw[y1] at hj;rw[y7 j hj];have:=(hl j hj).mono hle;rw[apd,<-k5 j hj] at this;rw[apA];exact this
    ·have:=h.fzlt hf;exact⟨λ_=>k7 c' this,λe=>aa⟩
   ·refine⟨λb hb=>Sg.ext_ne _ _ aa,hle,by show H.next<=H1.next+1;omega,hlow1,hbel,λc hc=> .inl (k7 c hc),λb c o hb hs hc=>?_⟩
    by_cases e:b=H.next
    ·exact aqw
    ·exact aqx
 have onRow:∀(b len cap':Nat) (x:AB) (c:Nat) (o:Option Nat) (cs:Array Value),H.at b=some x->σ b=some (c,o)->B<=c->w.heap[c]? =some (.cells cs x.ty (0,0))->BR σ x o cs->x.ty=ty->x.esz=esz->x.fzn<=len*esz->len*esz<=x.size->r9 esz byt len n=true->
   v= .slice (some ⟨c,0,none⟩) len cap'->len<=cap'->cap'<=maxLen->cap'*esz<=cs.size->r= .os H.next (len+n)->H'=(H.kill b).new (x.app (len*esz) src)->
   ∃u w' σ',(Builtin.append_ #[t,tx] tyR #[v,yv]).run P w= .ok u w'/\VR σ' r u/\HR B σ' H' w'/\Fr B σ σ' H H' w w'/\σ'.fz=σ.fz:=by
  rintro b len cap' x c o cs hx g1 g2 g3 g4 p1 p2 pf p5 hlim rfl f1 f2 f3 rfl rfl;have hbn:=AH.at_lt h hx;have hclt:c<w.heap.size:=(apo.1 g3).1;rw[p1] at g3;obtain⟨u,w',hr,e1,e2,e3,e4,hcase⟩:=uZ (P:=P) (w:=w) (tyR:=tyR) (ad:=some ⟨c,0,none⟩) (len:=len) (cap':=cap') ht hi hz hsize hby hzs hsrc hlim (.inr ⟨c,cs,rfl,g3,f3,f1,rfl⟩);simp only[r9,apq,decide_eq_true_eq] at hlim;obtain⟨⟨p7,p8⟩,p9⟩:=hlim;have hadd:(len+n)*esz=len*esz+n*esz:=Nat.add_mul _ _ _;have hsz:(x.app (len*esz) src).size=(len+n)*esz:=by rw[AB.app_size,q1,hadd]
  obtain⟨r1,r2,r3,r4,r5⟩:=AB.app_rest x (len*esz) src;have hget:∀j,j<(len+n)*esz->(x.app (len*esz) src).get j=if len*esz<=j then src.at (j-len*esz) else x.get j:=λj hj=>AB.app_get _ _ _ _ (by rw[q1];omega) (by rw[q1];omega)
  have hne:∀b' y c' o',(H.kill b).at b'=some y->σ b'=some (c',o')->c'≠c:=λb' y c' o' hy hs' e=>by
   obtain⟨e1,e2⟩:=AH.at_kill aa hy;exact e1 (h.inj b' b y x c' o' o e2 hx hs' (by rw[e];exact g1))
  have hat1:∀b' y,(H.kill b).at b'=some y->H.at b'=some y:=λb' y hy=>(AH.at_kill aa hy).2;have hcs:len*esz<=cs.size:=apj (apD _ f1) f3;have fin:∀(g cap2:Nat) (cur:Array Value),u= .slice (some ⟨g,0,none⟩) (len+n) cap2->len+n<=cap2->cap2<=maxLen->(g=c\/g=w.heap.size)->w'.heap[g]? =some (.cells cur ty (0,0))->cap2*esz<=cur.size->(∀j,j<len*esz->cur[j]? =cs[j]?)->(∀j,j<n*esz->cur[len*esz+j]? =news[j]?)->
    (∀k,k<w.heap.size->k≠g->w'.heap[k]? =w.heap[k]?)->∃u w' σ',(Builtin.append_ #[t,tx] tyR #[.slice (some ⟨c,0,none⟩) len cap',yv]).run P w= .ok u w'/\VR σ' (.os H.next (len+n)) u/\HR B σ' ((H.kill b).new (x.app (len*esz) src)) w'/\Fr B σ σ' H ((H.kill b).new (x.app (len*esz) src)) w w'/\σ'.fz=σ.fz:=by
   rintro g cap2 cur rfl k2 k3 hat' k1 k4 kold knew kother;have hle:σ.le (σ.ext H.next (g,some cap2)):=Sg.le_ext (h.new _ (bL _))
   have hBg:B<=g:=by
    rcases hat' with e|e
    ·omega
    ·have:=h.hB;omega
   refine⟨_,w',σ.ext H.next (g,some cap2),hr,.os (Sg.ext_self _ _ _) k2,?_,?_,rfl⟩
   ·refine h.place (AH.kill_next H b) (λb' y hy=>⟨hat1 b' y hy,λc' o' hs'=>?_⟩) q4 r4 hBg (by rw[r2,p1];exact k1) (apj h.hB e4) ⟨?_,λe=>(by cases e),λk hk=>?_,by rw[r3];rfl,λj hj=>?_⟩ (by rw[hsz];exact p7) (λc' fs hf=>?_) (by rw[AH.kill_ob,AH.kill_mp];exact h.ob.keep λr hr hn=>kother r hr (λe=>by
     rcases hat' with e'|e'
     ·exact hn _ _ _ (by rw[e,e'];exact g3)
     ·omega))
    ·obtain⟨cs1,m2,m3,_⟩:=h.blk b' y c' o' (hat1 b' y hy) hs';have hlt':c'<w.heap.size:=(apo.1 m3).1;have hcc:=hne b' y c' o' hy hs';have hcg:c'≠g:=by
      rcases hat' with e|e
      ·rw[e];exact hcc
      ·omega
     exact⟨hcg,kother c' hlt' hcg⟩
    ·rw[hsz];exact apj (apD _ k2) k4
    ·cases hk;exact⟨by rw[r1,p2];exact k4,k3⟩
    ·rw[hsz] at hj;rw[hget j hj];by_cases hjo:len*esz<=j
     ·rw[if_pos hjo];have:=(hl (j-len*esz) aa).mono hle;rw[apd,<-knew (j-len*esz) aa,show len*esz+(j-len*esz)=j by omega] at this
      rw[apA];exact this
     ·rw[if_neg hjo];have:=(g4.cell j aa).mono hle;rw[apA] at this ⊢;rw[kold j aa];exact this
    ·obtain⟨cs',t',fr',m1,m2,m3⟩:=h.frz c' fs hf;have hlt2:=h.fzlt hf;refine⟨λe=>kother c' hlt2 e,λe=>?_⟩;have ec:c'=c:=by
      rcases hat' with e'|e'
      ·omega
      ·omega
     subst ec;rw[g3] at m1;cases m1;have hfs:=m3 b x _ hx g1;have hle2:len*esz<=cur.size:=by
      have:(len+n)*esz<=cur.size:=apj (apD _ k2) k4;omega
     exact⟨by rw[r5];exact hfs,aa,λj hj=>by rw[kold j aa];exact m2.2 j hj⟩
   ·refine⟨λb' hb'=>Sg.ext_ne _ _ aa,hle,by show H.next<=(H.kill b).next+1;rw[AH.kill_next];omega,AH.kill_low H b,⟨e1,e2,e3,e4,λk hk=>kother k (by have:=h.hB;omega) aa⟩,λk hk=>?_,λb' c' o' hb' hs' hc'=>?_⟩
    ·by_cases e:k=c
     ·subst e;exact .inr (.inl ⟨b,o,hbn,g1,AH.kill_low_le hx⟩)
     ·refine .inl (kother k hk ?_);rcases hat' with e'|e'
      ·rw[e'];exact e
      ·omega
    ·by_cases e:b'=H.next
     ·subst e;rw[Sg.ext_self] at hs';cases hs';rcases hat' with e'|e'
      ·subst e';exact⟨b,o,hbn,g1,AH.kill_low_le hx⟩
      ·omega
     ·rw[Sg.ext_ne _ _ e,h.new b' hb'] at hs';cases hs'
  rcases hcase with⟨k2,k0,hh⟩|⟨cap2,cur,k0,k2,k3,k1,k4,k5,k6,k7⟩
  ·rcases hh with⟨h0,rfl⟩|⟨_,c2,cs2,cs',h0,h2,h3,h4,h5,h6,h7⟩
   ·exact fin c cap' cs k0 k2 f2 (.inl rfl) g3 f3 (λ_ _=>rfl) (λj hj=>by rw[h0,ap3] at hj;omega) (λ_ _ _=>rfl)
   ·cases h0;rw[g3] at h2;cases h2;exact fin c cap' cs' k0 k2 f2 (.inl rfl) h3 (by rw[h4];exact f3) h5 h6 h7
  ·refine fin w.heap.size cap2 cur k0 k2 k3 (.inr rfl) k1 (Nat.le_of_eq k4.symm) (λj hj=>?_) k6 (λk hk _=>k7 k hk);rw[k5 j hj,ap6 hj,apC]
 split at ha
 ·split at ha;rotate_left
  ·cases ha
  rename_i hlim;cases ha;cases hs;obtain⟨r1,r2,r3,r4,r5⟩:=AB.app_rest (l8 esz ty) 0 src;refine onNil _ H rfl (λ_ _ h=>h) (bL _) ⟨rfl,rfl⟩ hlim (by rw[AB.app_size,q1];omega) r1 r2 r3 r4 (λj hj=>?_) ⟨_,rfl⟩ rfl rfl
  simp only[r9,apq,decide_eq_true_eq,apz] at hlim;rw[AB.app_get _ _ _ _ (by rw[q1];omega) (by rw[q1];omega),if_pos (apf _),Nat.sub_zero]
 ·rename_i b len;split at ha;rotate_left
  ·cases ha
  rename_i x hx;split at ha;rotate_left
  ·cases ha
  rename_i hc2;obtain⟨⟨p1,p2,p3,pf,p5⟩,hlim⟩:=hc2;cases ha;cases hs with
  |os0 hn a0=>
   have hn':=h.nilp _ hn;have h0:=(h.nil _ _ hx hn').1;obtain⟨r1,r2,r3,r4,r5⟩:=AB.app_rest x (0*esz) src;have hbn:=AH.at_lt h hx;refine onNil _ (H.kill b) (AH.kill_next H b) (λb' y hy=>(AH.at_kill aa hy).2) (AH.kill_low H b) ⟨AH.kill_ob H b,AH.kill_mp H b⟩ hlim (by rw[AB.app_size,q1];omega) (by rw[r1,p2]) (by rw[r2,p1]) r3 r4 (λj hj=>?_) ⟨_,rfl⟩ (by rw[apz]) rfl
   simp only[r9,apq,decide_eq_true_eq,apz] at hlim;rw[AB.app_get _ _ _ _ (by rw[q1];omega) (by rw[q1];omega),if_pos aa]
   congr 1;omega
  |os hh hk=>
   obtain⟨cs,g2,g3,g4⟩:=h.blk _ _ _ _ hx hh;obtain⟨e1,e2⟩:=g4.op _ rfl;exact onRow b len _ x _ _ cs hx hh g2 g3 g4 p1 p2 pf p5 hlim rfl hk e2 (by rw[p2] at e1;exact e1) rfl rfl
 ·rename_i b len cap;split at ha;rotate_left
  ·cases ha
  rename_i x hx;split at ha;rotate_left
  ·cases ha
  rename_i hc2;obtain⟨⟨p1,p2,p0,p3,p4,pf,p5,p6⟩,hlim⟩:=hc2;cases ha;cases hs with
  |sl hh=>
   obtain⟨cs,g2,g3,g4⟩:=h.blk _ _ _ _ hx hh;refine onRow b len cap x _ _ cs hx hh g2 g3 g4 p1 p2 pf p5 hlim rfl p3 p4 ?_ rfl rfl;rw[g4.ex rfl];rcases p6 with e|e
   ·have:=g4.ob;rw[e] at this;cases this
   ·exact Nat.le_of_eq e.symm
  |slo hh hc h0=>
   obtain⟨cs,g2,g3,g4⟩:=h.blk _ _ _ _ hx hh;have:=h0 rfl;subst this;obtain⟨e1,e2⟩:=g4.op _ rfl;exact onRow b len _ x _ _ cs hx hh g2 g3 g4 p1 p2 pf p5 hlim rfl (apj p3 hc) e2 (by rw[p2] at e1;exact e1) rfl rfl
 ·cases ha
theorem HR.cutO(h:HR B σ H w){len n:Nat}(hx:H.at b=some x)(hs:σ b=some (c,some k))(hn:n<=len)(hk:len<=k)(hop:x.opn=true)(hlv:x.live=true)(hsz:len*x.esz<=x.size)(hnx:H.next+1<2^40):
  HR B (σ.ext H.next (c,some n)) ((H.kill b).new {x with size:=n*x.esz}) w/\Fr B σ (σ.ext H.next (c,some n)) H ((H.kill b).new {x with size:=n*x.esz}) w w:=by
 have hsm:=h.small;have hbn:=AH.at_lt h hx;have hne:∀b' y c' o',(H.kill b).at b'=some y->σ b'=some (c',o')->c'≠c:=λb' y c' o' hy hs' e=>by
  obtain⟨e1,e2⟩:=AH.at_kill aa hy;exact e1 (h.inj b' b y x c' o' _ e2 hx hs' (by rw[e];exact hs))
 have hat1:∀b' y,(H.kill b).at b'=some y->H.at b'=some y:=λb' y hy=>(AH.at_kill aa hy).2;obtain⟨cs,g2,g3,g4⟩:=h.blk _ _ _ _ hx hs;obtain⟨e1,e2⟩:=g4.op _ rfl;have hle:σ.le (σ.ext H.next (c,some n)):=Sg.le_ext (h.new _ (bL _))
 have hnl:n*x.esz<=len*x.esz:=apD _ hn;have hxs:=h.szs b x hx;have hz:=g4.sz;refine⟨h.place (AH.kill_next H b) (λb' y hy=>⟨hat1 b' y hy,λc' o' hs'=>⟨hne b' y c' o' hy hs',rfl⟩⟩) hnx hlv g2 g3 h.hB ⟨by show n*x.esz<=cs.size;omega,λe=>(by cases e),λk' hk'=>by cases hk';exact⟨by show n*x.esz<=cs.size;omega,aa⟩,by show x.opn=true;exact hop,λj hj=>?_⟩ (by show n*x.esz<2^40;omega) (λc' fs hf=>⟨λ_=>rfl,λe=>?_⟩) (by rw[AH.kill_ob,AH.kill_mp];exact h.ob.keep λr hr hn=>rfl),?_⟩
 ·have hj':j<x.size:=by
   have:j<n*x.esz:=hj;omega
  exact(g4.cell j hj').mono hle
 ·obtain⟨cs',t',fr',m1,m2,m3⟩:=h.frz c' fs hf;subst e;rw[g3] at m1;cases m1;exact⟨m3 b x _ hx hs,m2⟩
 ·refine⟨λb' hb'=>Sg.ext_ne _ _ aa,hle,by show H.next<=(H.kill b).next+1;rw[AH.kill_next];omega,AH.kill_low H b,Below.refl _ _,λk hk=> .inl rfl,λb' c' o' hb' hs' hlt=>?_⟩
  by_cases e:b'=H.next
  ·subst e;rw[Sg.ext_self] at hs';cases hs';exact⟨b,_,hbn,hs,AH.kill_low_le hx⟩
  ·rw[Sg.ext_ne _ _ e,h.new b' hb'] at hs';cases hs'
end
end Go.Proofs.YtdpkgnmmikebdaaGreat