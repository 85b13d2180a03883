/- A part of the proof of AllocateNeeds: EvY. No condition. -/
import Derived.Test.YteopfmnnhlhbmaaHn15
set_option linter.unusedSimpArgs false
set_option linter.unusedVariables false
set_option linter.constructorNameAsVariable false
set_option maxRecDepth 100000
set_option maxHeartbeats 4000000
namespace Go.Proofs.Yteopfmnnhlhbmaa
open Go.RowKit
def j8(ob:Nat->Option OB)(fam:Nat->AB):Nat->AH
 |0=>⟨.nil,100000,2^40,ob⟩
 |k+1=>AH.put (j8 ob fam k) k (fam k)
def eW(ob:Nat->Option OB)(k:Nat)(fam:Nat->AB):List AB->AH
 |[]=>j8 ob fam k
 |x::l=>(eW ob k fam l).new x
section
variable (ob:Nat->Option OB) (fam:Nat->AB)
theorem nV:∀k,(j8 ob fam k).next=100000
 |0=>rfl
 |k+1=>nV k
theorem qK:∀k,(j8 ob fam k).low=2^40
 |0=>rfl
 |k+1=>qK k
theorem tZ:∀k,(j8 ob fam k).ob=ob
 |0=>rfl
 |k+1=>tZ k
theorem oU:∀(k:Nat),k<=100000->∀b,(j8 ob fam k).at b=if b<k then(if(fam b).live then some (fam b) else none) else none
 |0,_,b=>by rw[if_neg (by omega)];simp[j8,AH.at,Tr.get]
 |k+1,h,b=>by
  show AH.at ⟨Tr.set 48 (j8 ob fam k).blks k (fam k),(j8 ob fam k).next,(j8 ob fam k).low,(j8 ob fam k).ob⟩ b=_
  rw[AH.at_put _ _ _ _ _ _ _ (by omega),oU k (by omega)]
  by_cases e:b=k
  ·subst e;rw[if_pos rfl,if_pos (Nat.lt_succ_self _)]
  ·rw[if_neg e]
   by_cases h2:b<k
   ·rw[if_pos h2,if_pos (Nat.lt_succ_of_lt h2)]
   ·rw[if_neg h2,if_neg (λh3=>by omega)]
variable (k:Nat)
theorem au:∀l,(eW ob k fam l).next=100000+l.length
 |[]=>nV ob fam k
 |x::l=>by show(eW ob k fam l).next+1=_;rw[au l];rfl
theorem nM:∀l,(eW ob k fam l).low=2^40
 |[]=>qK ob fam k
 |x::l=>nM l
theorem lL:∀l,(eW ob k fam l).ob=ob
 |[]=>tZ ob fam k
 |x::l=>lL l
theorem ka{l:List AB}(h:l.length<800000)(x:AB)(b:Nat):(eW ob k fam (x::l)).at b=if b=100000+l.length then(if x.live then some x else none) else(eW ob k fam l).at b:=by
 show((eW ob k fam l).new x).at b=_
 rw[iW (by rw[au];omega),au]
end
theorem zB{ob:Nat->Option OB}{fam:Nat->AB}{k:Nat}(hk:k<=100000){j:Nat}(hj:j<k)(hl:(fam j).live=true):∀bl:List AB,bl.length<800000->(eW ob k fam bl).at j=some (fam j)
 |[],_=>by show(j8 ob fam k).at j=_;rw[oU ob fam k hk,if_pos hj,if_pos hl]
 |x::l,h=>by
  simp only[List.length_cons] at h
  rw[ka ob fam k (by omega),if_neg (by omega)]
  exact zB hk hj hl l (by omega)
theorem ri{ob:Nat->Option OB}{fam:Nat->AB}{k:Nat}(hk:k<=100000):∀(bl:List AB) (b:Nat) (x:AB),bl.length<800000->(eW ob k fam bl).at b=some x->(b<k/\x=fam b)\/(100000<=b/\(aN bl).at (b-100000)=some x)
 |[],b,x,_,hx=>by
  have hx:(j8 ob fam k).at b=some x:=hx
  rw[oU ob fam k hk] at hx
  split at hx
  ·split at hx
   ·cases hx;exact .inl ⟨by assumption,rfl⟩
   ·cases hx
  ·cases hx
 |y::l,b,x,h,hx=>by
  simp only[List.length_cons] at h
  rw[ka ob fam k (by omega)] at hx
  rw[ik,iW (by rw[ag];omega),ag]
  split at hx
  ·rename_i e
   subst e
   exact .inr ⟨by omega,by rw[if_pos (by omega)];exact hx⟩
  ·rename_i e
   rcases ri hk l b x (by omega) hx with h1|⟨h1,h2⟩
   ·exact .inl h1
   ·exact .inr ⟨h1,by rw[if_neg (by omega)];exact h2⟩
attribute [go_sem] au nM lL
attribute [go_sem] ka
theorem Wk.mkG{n:Nat}{e:Tr AV}{H H2:AH}{L:List (Nat×AV)}(r:Nat->Option Nat)(M:List Nat)(he:bk r M H e L)(hat:∀b2 x2,H2.at b2=some x2->∃b,r b2=some b/\cZ r M H b x2)(inj:∀i j b,r i=some b->r j=some b->i=j)(out:∀b2,H2.next<=b2->r b2=none)(hnx:H2.next<2^40)
  (hob:∀q x,H2.ob q=some x->H.ob q=some x):Wk n e H (aE L) H2:=by
 intro B σ a w hE hH
 obtain⟨σ2,q1,q2,q3,q4,q5,q6,q7⟩:=hH.marks M
 let σ3:Sg:=⟨λb2=>(r b2).bind σ.nm,λb2=>∃b,r b2=some b/\σ.nl b,σ2.fz⟩
 have hr:∀b2 b,r b2=some b->σ3 b2=σ b/\(σ.nl b->σ3.nl b2):=λb2 b hb=>⟨by show(r b2).bind σ.nm=_;rw[hb];rfl,λhn=>⟨b,hb,hn⟩⟩
 have h3:σ2.bare.le σ3:=⟨λb x hx=>(by cases hx),λb hb=>False.elim hb,λc fs hf=>⟨fs,hf,fZ.refl _⟩⟩
 have conv:∀{v v2:AV} {u:Value},Wv r M H v v2->VR σ v u->VR σ3 v2 u:=λhc hu=>hc.ok hH q1 q2 q7 h3 hr hu
 refine⟨σ3,⟨⟨hE.er.df,λt v2 hv=>?_⟩,hE.sz,hE.sm⟩,?_,⟨λc hc=>q4.eq c hc,λc fs hf=>q4.le c fs hf⟩⟩
 ·obtain⟨v,h1,h2⟩:=he.get t v2 hv
  exact conv h2 (hE.er.get t v h1)
 ·refine⟨λb hb=>?_,λb hb=>?_,λb hb=>?_,hnx,hH.hB,λb x hx hs=>?_,λb hb=>?_,λb x c o hx hs=>?_,λb x hx=>?_,λb b' x x' c o o' k1 k2 k3 k4=>?_,λc fs hf=>?_,λq x hx=>hH.ob q x (hob q x hx)⟩
  ·show(r b).bind σ.nm=none
   rw[out b hb];rfl
  ·rintro ⟨b0,e1,_⟩
   rw[out b hb] at e1;cases e1
  ·cases hx:H2.at b with
   |none=>rfl
   |some x=>
    obtain⟨b0,e1,_⟩:=hat b x hx
    rw[out b hb] at e1;cases e1
  ·obtain⟨b0,e1,x0,e2,e3,e4,e5,e6,e7,e8,e9⟩:=hat b x hx
   obtain⟨g1,g2⟩:=hr b b0 e1
   rw[g1] at hs
   obtain⟨p1,p2,p3⟩:=hH.nil b0 x0 e2 hs
   refine⟨?_,by rw[e5];exact p2,g2 p3⟩
   rcases e7 with e7|e7<;>omega
  ·obtain⟨b0,e1,e2⟩:=hb
   rw[(hr b b0 e1).1]
   exact hH.nilp b0 e2
  ·obtain⟨b0,e1,x0,e2,e3,e4,e5,e6,e7,e8,e9⟩:=hat b x hx
   rw[(hr b b0 e1).1] at hs
   obtain⟨cs,p1,p2,p3⟩:=hH.blk b0 x0 c o e2 hs
   refine⟨cs,p1,by rw[e3];exact p2,⟨?_,λho=>?_,λk hk=>by rw[e4];exact p3.op k hk,by rw[e5];exact p3.ob,λi hi=>conv (e9 i hi) (p3.cell i ?_)⟩⟩
   ·have:=p3.sz
    rcases e7 with e7|e7<;>omega
   ·rcases e7 with e7|e7
    ·rw[e7];exact p3.ex ho
    ·have:=p3.ob
     rw[e7.1,ho] at this;cases this
   ·rcases e7 with e7|e7<;>omega
  ·obtain⟨b0,e1,x0,e2,e3,e4,e5,e6,e7,e8,e9⟩:=hat b x hx
   have:=hH.szs b0 x0 e2
   rcases e7 with e7|e7<;>omega
  ·obtain⟨b0,e1,x0,e2,_⟩:=hat b x k1
   obtain⟨b1,f1,x1,f2,_⟩:=hat b' x' k2
   rw[(hr b b0 e1).1] at k3
   rw[(hr b' b1 f1).1] at k4
   have hbb:=hH.inj b0 b1 x0 x1 c o o' e2 f2 k3 k4
   subst hbb
   exact inj b b' b0 e1 f1
  ·obtain⟨cs,t,fr,p1,p2,p3⟩:=q6.frz c fs hf
   refine⟨cs,t,fr,p1,p2,λb x o hx hs=>?_⟩
   obtain⟨b0,e1,x0,e2,e3,e4,e5,e6,e7,e8,e9⟩:=hat b x hx
   rw[(hr b b0 e1).1] at hs
   obtain⟨y,y1,y2⟩:=gU M (λb x hx=>Nat.lt_trans (AH.at_lt hH hx) hH.small) e2
   have:=p3 b0 y o y1 (by rw[q2];exact hs)
   omega
def rF(k:Nat)(f:Nat->Nat)(ρ:List Nat)(b2:Nat):Option Nat:=if 100000<=b2 then ρ.reverse[b2-100000]? else if b2<k then some (f b2) else none
theorem qb{k:Nat}{f:Nat->Nat}{ρ:List Nat}{j:Nat}(hk:k<=100000)(hj:j<k):rF k f ρ j=some (f j):=by unfold rF;rw[if_neg (by omega),if_pos hj]
theorem Wk.mkF{n:Nat}{e:Tr AV}{H:AH}{L:List (Nat×AV)}{bl:List AB}{k:Nat}{fam:Nat->AB}{ob:Nat->Option OB}(f:Nat->Nat)(ρ M:List Nat)(hk:k<=100000)(he:bk (rF k f ρ) M H e L)(hh:bh (rF k f ρ) M H ρ bl)(hl:bl.length<800000)
  (hf:∀j,j<k->cZ (rF k f ρ) M H (f j) (fam j)) (hi:∀i j,i<k->j<k->f i=f j->i=j) (hx:∀j,j<k->f j ∉ ρ) (hob:∀q x,ob q=some x->H.ob q=some x):Wk n e H (aE L) (eW ob k fam bl):=by
 have hlen:=hh.len
 have hat:=hh.at (by omega)
 have mem:∀i b,ρ.reverse[i]? =some b->b ∈ ρ:=λi b hi=>List.mem_reverse.1 (List.mem_of_getElem? hi)
 refine Wk.mkG (rF k f ρ) M he (λb2 x2 hx2=>?_) (λi j b h1 h2=>?_) (λb2 hb=>?_) (by rw[au];omega) (λq x hq=>hob q x (by rw[lL] at hq;exact hq))
 ·rcases ri hk bl b2 x2 hl hx2 with⟨h1,rfl⟩|⟨h1,h2⟩
  ·exact⟨f b2,qb hk h1,hf b2 h1⟩
  ·obtain⟨b,e1,e2⟩:=hat _ _ h2
   exact⟨b,by unfold rF;rw[if_pos h1];exact e1,e2⟩
 ·unfold rF at h1 h2
  split at h1
  ·split at h2
   ·have:=hh.inj _ _ _ h1 h2;omega
   ·split at h2
    ·cases h2;exact absurd (mem _ _ h1) (hx _ (by assumption))
    ·cases h2
  ·split at h1
   ·cases h1
    split at h2
    ·exact absurd (mem _ _ h2) (hx _ (by assumption))
    ·split at h2
     ·have:=Option.some.inj h2
      exact hi _ _ (by assumption) (by assumption) this.symm
     ·cases h2
   ·cases h1
 ·rw[au] at hb
  unfold rF
  rw[if_pos (by omega)]
  exact List.getElem?_eq_none (by simp;omega)
def ir(ty R:Nat)(m:Nat->Nat->Bool)(j:Nat):AB:=aH ty 1 R 0 (λc _=> .b (m j c))
theorem j3(ty R:Nat)(m:Nat->Nat->Bool)(j:Nat):(ir ty R m j).size=R:=Nat.mul_one R
theorem xN(ty R:Nat)(m:Nat->Nat->Bool)(j:Nat):(ir ty R m j).fzn=0:=rfl
theorem gF(ty R:Nat)(m:Nat->Nat->Bool)(j c:Nat):(ir ty R m j).get c= .b (m j c):=by
 have:=aL (ty:=ty) (n:=R) (z:=0) (row:=λc _=> .b (m j c)) c 0 (by decide:0<1)
 rw[Nat.mul_one,Nat.add_zero] at this
 exact this
def kF(m:Nat->Nat->Bool)(i c:Nat)(v:Bool):Nat->Nat->Bool:=λj d=>if j=i/\d=c then v else m j d
theorem cZ.mat{r:Nat->Option Nat}{H:AH}{b ty R:Nat}{m m2:Nat->Nat->Bool}{j j2:Nat}(hx:H.at b=some (ir ty R m j))(hm:∀c,c<R->m j c=m2 j2 c):cZ r [] H b (ir ty R m2 j2):=
 .rows hx rfl rfl rfl (Nat.le_refl _) (Nat.le_refl _) (by decide) (λc q hc hq=>by obtain rfl:q=0:=(by omega);rw[Nat.mul_one,Nat.add_zero,gF,hm c hc]) (λc q hc hq=>rfl)
theorem cZ.matp{r:Nat->Option Nat}{H:AH}{b ty R:Nat}{m m2:Nat->Nat->Bool}{j j2 c0:Nat}{v:Bool}(hx:H.at b=some ((ir ty R m j).putN c0 [.b v]))(hR:R<900000)(h0:c0<R)(hm:∀c,c<R->(if c=c0 then v else m j c)=m2 j2 c):cZ r [] H b (ir ty R m2 j2):=
 .rows hx rfl rfl rfl (Nat.le_refl _) (Nat.le_refl _) (by decide) (λc q hc hq=>by
  obtain rfl:q=0:=by omega
  rw[Nat.mul_one,Nat.add_zero,fo (by simp;omega),gF,<-hm c hc]
  by_cases e:c=c0
  ·subst e;rw[if_pos (by simp),if_pos rfl,Nat.sub_self];rfl
  ·rw[if_neg (by simp;omega),if_neg e]) (λc q hc hq=>rfl)
end Go.Proofs.Yteopfmnnhlhbmaa