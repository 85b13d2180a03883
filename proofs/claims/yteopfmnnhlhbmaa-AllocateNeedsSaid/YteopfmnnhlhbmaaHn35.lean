/- A part of the proof of AllocateNeeds: RlA RlB RiA RiB RjA RjB RkA RkB RkC. No condition. -/
import Derived.Test.YteopfmnnhlhbmaaHn33
import Derived.Test.YteopfmnnhlhbmaaHn34
import Derived.Test.YteopfmnnhlhbmaaHn17
set_option linter.unusedSimpArgs false
set_option linter.unusedVariables false
set_option linter.constructorNameAsVariable false
set_option maxRecDepth 100000
set_option maxHeartbeats 4000000
namespace Go.Proofs.Yteopfmnnhlhbmaa
open Go.RowKit
def kJ(f:Nat->Bool):Nat->Nat
 |0=>0
 |R+1=>kJ f R+(if f R then 1 else 0)
def iV(m:Nat->Nat->Bool)(R:Nat):Nat->Nat
 |0=>0
 |n+1=>iV m R n+kJ (m n) R
theorem uf(f:Nat->Bool):∀R,kJ f R<=R
 |0=>Nat.le_refl _
 |R+1=>by have:=uf f R;unfold kJ;split<;>omega
theorem ug(m:Nat->Nat->Bool)(R:Nat):∀n,iV m R n<=n*R
 |0=>by simp[iV]
 |n+1=>by have:=ug m R n;have:=uf (m n) R;unfold iV;rw[Nat.succ_mul];omega
theorem eG{f g:Nat->Bool}:∀{R:Nat},(∀c,c<R->f c=g c)->kJ f R=kJ g R
 |0,_=>rfl
 |R+1,h=>by unfold kJ;rw[eG (λc hc=>h c (by omega)),h R (by omega)]
theorem mr{m m2:Nat->Nat->Bool}{R:Nat}:∀{n:Nat},(∀i,i<n->∀c,c<R->m i c=m2 i c)->iV m R n=iV m2 R n
 |0,_=>rfl
 |n+1,h=>by unfold iV;rw[mr (λi hi=>h i (by omega)),eG (h n (by omega))]
theorem qX{f:Nat->Bool}{c:Nat}(hf:f c=false):∀{R:Nat},c<R->kJ (λd=>if d=c then true else f d) R=kJ f R+1
 |0,h=>by omega
 |R+1,h=>by
  unfold kJ
  by_cases e:c=R
  ·subst e
   rw[eG (g:=f) (λd hd=>if_neg (by omega)),if_pos (by simp),if_neg (by simp[hf])]
  ·rw[qX hf (show c<R by omega),if_neg (show ¬R=c by omega)]
   omega
theorem qY{m:Nat->Nat->Bool}{i c R:Nat}(hc:c<R)(hf:m i c=false):∀{n:Nat},i<n->iV (kF m i c true) R n=iV m R n+1
 |0,h=>by omega
 |n+1,h=>by
  unfold iV
  by_cases e:i=n
  ·subst e
   rw[mr (m2:=m) (λj hj c' _=>by unfold kF;rw[if_neg (by omega)])]
   have:kJ (kF m i c true i) R=kJ (m i) R+1:=by
    rw[<-qX hf hc]
    refine eG (λd _=>?_)
    unfold kF
    by_cases e2:d=c<;>simp[e2]
   omega
  ·rw[qY hc hf (show i<n by omega),eG (f:=kF m i c true n) (g:=m n) (λd _=>by unfold kF;rw[if_neg (by omega)])]
   omega
noncomputable def G7(cs:List In)(nx:Nat->List Nat)(i r:Nat):Bool:= @decide (bn cs nx i (r:Int)) (Classical.propDecidable _)
theorem A9{cs:List In}{nx:Nat->List Nat}{i r:Nat}:G7 cs nx i r=true↔bn cs nx i (r:Int):=by
 unfold G7
 exact @decide_eq_true_iff _ (Classical.propDecidable _)
abbrev rM(cs:List In)(i:Nat):List Int:=aA (cs.getD i (0,0,0,0,0)).1 (cs.getD i (0,0,0,0,0)).2.2.1 (cs.getD i (0,0,0,0,0)).2.2.2.1
abbrev F1(cs:List In)(i:Nat):Int:=a8 (cs.getD i (0,0,0,0,0)).1 (cs.getD i (0,0,0,0,0)).2.1
def pD(cs:List In)(nx:Nat->List Nat)(m:Nat->Nat->Bool)(i r:Nat):Nat->Bool
 |0=>(rM cs i).contains (r:Int)
 |q+1=>pD cs nx m i r q||(m ((nx i).getD q 0) r&& !decide ((r:Int)=F1 cs i))
theorem qB{cs:List In}{nx:Nat->List Nat}{m:Nat->Nat->Bool}(hm:∀i r,m i r=true->bn cs nx i (r:Int)){i r:Nat}(hi:i<cs.length):∀{q:Nat},q<=(nx i).length->pD cs nx m i r q=true->bn cs nx i (r:Int)
 |0,_,h=> .read hi (by unfold pD at h;exact List.contains_iff_mem.1 h)
 |q+1,hq,h=>by
  unfold pD at h
  simp only[Bool.or_eq_true,Bool.and_eq_true,Bool.not_eq_true',decide_eq_false_iff_not] at h
  rcases h with h|⟨h1,h2⟩
  ·exact qB hm hi (by omega) h
  ·have hk:(nx i).getD q 0 ∈ nx i:=by rw[List.getD_eq_getElem?_getD,List.getElem?_eq_getElem (by omega)];exact List.getElem_mem _
   exact .flow hi hk (hm _ _ h1) h2
theorem lZ{cs:List In}{nx:Nat->List Nat}{m:Nat->Nat->Bool}{i r:Nat}:∀{q q2:Nat},q<=q2->pD cs nx m i r q=true->pD cs nx m i r q2=true
 |q,0,h,h1=>by obtain rfl:q=0:=(by omega);exact h1
 |q,q2+1,h,h1=>by
  by_cases e:q=q2+1
  ·subst e;exact h1
  ·unfold pD;rw[lZ (show q<=q2 by omega) h1];rfl
def lj(cs:List In)(nx:Nat->List Nat)(R:Nat)(m:Nat->Nat->Bool)(i:Nat):Prop:=∀r,r<R->pD cs nx m i r (nx i).length=true->m i r=true
theorem kG{cs:List In}{nx:Nat->List Nat}{R:Nat}{m:Nat->Nat->Bool}(hc:∀i,i<cs.length->lj cs nx R m i){i:Nat}{r:Int}(h:bn cs nx i r):∀n:Nat,n<R->r=(n:Int)->m i n=true:=by
 induction h with
 |read hi h=>
  rintro n hn rfl
  refine hc _ hi n hn (lZ (Nat.zero_le _) ?_)
  unfold pD
  exact List.contains_iff_mem.2 h
 |@flow i k r hi hk h hw ih=>
  rintro n hn rfl
  obtain⟨q,hq,e⟩:=List.getElem_of_mem hk
  refine hc _ hi n hn (lZ (q:=q+1) (by omega) ?_)
  unfold pD
  have:(nx i).getD q 0=k:=by rw[List.getD_eq_getElem?_getD,List.getElem?_eq_getElem hq,e];rfl
  rw[this,ih n hn rfl,decide_eq_false hw]
  simp
structure uv(cs:List In)(nx:Nat->List Nat)(R:Nat)(m0 m:Nat->Nat->Bool)(fl:Bool)(q:Nat):Prop where
 live:∀i r,m i r=true->bn cs nx i (r:Int)
 no:fl=false->m=m0/\∀i,q<=i->i<cs.length->lj cs nx R m0 i
 yes:fl=true->iV m0 R (cs.length+1)<iV m R (cs.length+1)
structure kP(cs:List In)(nx:Nat->List Nat)(R:Nat)(m0 m:Nat->Nat->Bool)(fl:Bool)(p c:Nat):Prop where
 live:∀i r,m i r=true->bn cs nx i (r:Int)
 no:fl=false->m=m0/\(∀i,p+1<=i->i<cs.length->lj cs nx R m0 i)/\∀r,r<c->pD cs nx m0 p r (nx p).length=true->m0 p r=true
 yes:fl=true->iV m0 R (cs.length+1)<iV m R (cs.length+1)
theorem uv.row{cs:List In}{nx:Nat->List Nat}{R:Nat}{m0 m:Nat->Nat->Bool}{fl:Bool}{p:Nat}(h:uv cs nx R m0 m fl (p+1)):kP cs nx R m0 m fl p 0:=
 ⟨h.live,λhf=>⟨(h.no hf).1,(h.no hf).2,λr hr=>by omega⟩,h.yes⟩
theorem kP.pass{cs:List In}{nx:Nat->List Nat}{R:Nat}{m0 m:Nat->Nat->Bool}{fl:Bool}{p:Nat}(h:kP cs nx R m0 m fl p R):uv cs nx R m0 m fl p:=
 ⟨h.live,λhf=>⟨(h.no hf).1,λi hi hl=>by
  by_cases e:i=p
  ·subst e;exact(h.no hf).2.2
  ·exact(h.no hf).2.1 i (by omega) hl⟩,h.yes⟩
theorem kP.skip{cs:List In}{nx:Nat->List Nat}{R:Nat}{m0 m:Nat->Nat->Bool}{fl:Bool}{p c:Nat}(h:kP cs nx R m0 m fl p c)(hs:pD cs nx m p c (nx p).length=true->m p c=true):kP cs nx R m0 m fl p (c+1):=
 ⟨h.live,λhf=>by
  obtain⟨rfl,h2,h3⟩:=h.no hf
  refine⟨rfl,h2,λr hr=>?_⟩
  by_cases e:r=c
  ·subst e;exact hs
  ·exact h3 r (by omega),h.yes⟩
theorem kP.put{cs:List In}{nx:Nat->List Nat}{R:Nat}{m0 m:Nat->Nat->Bool}{fl:Bool}{p c:Nat}(h:kP cs nx R m0 m fl p c)(hp:p<cs.length)(hc:c<R)(hs:pD cs nx m p c (nx p).length=true)(hn:m p c=false):kP cs nx R m0 (kF m p c true) true p (c+1):=by
 refine⟨λi r hm=>?_,λhf=>(by cases hf),λ_=>?_⟩
 ·unfold kF at hm
  split at hm
  ·rename_i e
   obtain⟨rfl,rfl⟩:=e
   exact qB h.live hp (Nat.le_refl _) hs
  ·exact h.live i r hm
 ·rw[qY hc hn (by omega)]
  cases hfl:fl with
  |true=>have:=h.yes hfl;omega
  |false=>obtain⟨rfl,_⟩:=h.no hfl;omega
def qh(R i _j:Nat):AV:= .os i R
theorem far{j c:Nat}(h:j<100000)(hc:100000<=c):(j=c)=False:=by simp;omega
theorem Bz{j:Nat}(h:j<100000):(j=100000)=False/\(j=100001)=False/\(j=100002)=False/\(j=100003)=False/\(j=100004)=False/\(j=100005)=False:=⟨far h (by decide),far h (by decide),far h (by decide),far h (by decide),far h (by decide),far h (by decide)⟩
theorem n8(ob:Nat->Option OB)(fam:Nat->AB)(k j:Nat)(hk:k<=100000)(hj:j<k)(hl:(fam j).live=true)(a b:AB):(eW ob k fam [a,b]).at j=some (fam j):=zB hk hj hl _ (by simp)
theorem RN{k:Nat}:∀i j,i<k->j<k->id i=id j->i=j:=λ_ _ _ _ h=>h
theorem Ov{r:Nat->Option Nat}{M:List Nat}{H:AH}{b ty R n:Nat}(hM:M.contains b=false)(hx:H.at b=some (aH ty 1 n 0 (qh R)))(hr:∀j,j<n->r j=some j):cZ r M H b (aH ty 1 n 0 (qh R)):=
 ⟨_,hx,rfl,rfl,rfl,rfl,.inl rfl,by rw[if_neg (by simpa using hM)];exact Nat.le_refl _,λi hi=>by
  have hi':i<n:=by rw[fm] at hi;omega
  have:=aL (ty:=ty) (n:=n) (z:=0) (row:=qh R) i 0 (by decide:0<1)
  rw[Nat.mul_one,Nat.add_zero] at this
  rw[this]
  exact .os (hr i hi')⟩
theorem RC{r:Nat->Option Nat}{H:AH}{b ty R n v:Nat}(hx:H.at b=some ((aH ty 1 n 0 (qh R)).app n (.li [.os v R])))(hn:n<900000)(hr:∀j,j<n->r j=some j)(hv:r n=some v):cZ r [] H b (aH ty 1 (n+1) 0 (qh R)):=
 ⟨_,hx,(zD (aH ty 1 n 0 (qh R)) _ _).symm,(um (aH ty 1 n 0 (qh R)) _ _).symm,(ul (aH ty 1 n 0 (qh R)) _ _).symm,rfl,.inl (by rw[app_size,fm,Nat.mul_one];rfl),by rw[cz];exact Nat.le_refl _,λi hi=>by
  have hi':i<n+1:=by rw[fm] at hi;omega
  have e2:∀n,(aH ty 1 n 0 (qh R)).get i= .os i R:=λn=>by
   have:=aL (ty:=ty) (n:=n) (z:=0) (row:=qh R) i 0 (by decide:0<1)
   rw[Nat.mul_one,Nat.add_zero] at this
   exact this
  rw[db _ _ _ (by omega) _ hi',e2 (n+1)]
  by_cases e:i<n
  ·rw[if_pos e,e2 n];exact .os (hr i e)
  ·obtain rfl:i=n:=by omega
   rw[if_neg e];exact .os hv⟩
theorem RH{r:Nat->Option Nat}{H:AH}{b ty R:Nat}{m:Nat->Nat->Bool}{j:Nat}(hx:H.at b=some (aH ty 1 R 0 (λ_ j=>[AV.b false][j]?.getD .u)))(hm:∀c,m j c=false:=by intros;rfl):cZ r [] H b (ir ty R m j):=
 .rows hx rfl rfl rfl (Nat.le_refl _) (Nat.le_refl _) (by decide) (λc q hc hq=>by obtain rfl:q=0:=(by omega);rw[aL _ _ hq,hm c];rfl) (λc q hc hq=>rfl)
abbrev mN(pr:List Int)(n:Nat):List (Nat×AV):=[(1,.p 100000 0),(3,.fs 1 pr.length (iC .i64 pr)),(6,.n .i64 n),(7,.os 100001 (n+1))]
abbrev wm(la:List (Bool×Int))(par:Int)(cs:List In)(R:Nat)(m:Nat->Nat->Bool):AH:=eW (λ_=>none) (cs.length+1) (ir 4 R m) [aH 55 1 (cs.length+1) 0 (qh R),bg 0 25 [.fs 2 la.length (aC la),.n .i64 R,.n .i64 par,.fs 5 cs.length (cC cs)]]
theorem cP{la:List (Bool×Int)}{par:Int}{cs:List In}{R:Nat}{m:Nat->Nat->Bool}{n:Nat}{e:Tr AV}{L:List (Nat×AV)}(hn:cs.length<=16384)(he:bk (rF (cs.length+1) id [100001,100000]) [] (wm la par cs R m) e L):Wk n e (wm la par cs R m) (aE L) (wm la par cs R m):=by
 refine Wk.mkF id [100001,100000] [] (by omega) he ?_ (by simp) (λj hj=>?_) RN (λj hj=>?_) (λq x hq=>(by cases hq))
 ·exact .cons rfl (Ov rfl (by simp only[go_sem,simprocAttr]) (λj hj=>qb (by omega) hj)) (.cons rfl (.ls (hx:=by simp only[go_sem,simprocAttr])) .nil)
 ·exact .mat (m:=m) (j:=j) (n8 _ _ _ _ (by omega) hj rfl _ _) (λ_ _=>rfl)
 ·simp only[id]
  obtain⟨f0,f1,_⟩:=Bz (show j<100000 by omega)
  simp[f0,f1]
theorem F3{la:List (Bool×Int)}{par:Int}{cs:List In}{R:Nat}{m:Nat->Nat->Bool}{n p c:Nat}{e:Tr AV}{L:List (Nat×AV)}(hn:cs.length<=16384)(hR:R<=2000)(hp:p<cs.length+1)(hc:c<R)(he:bk (rF (cs.length+1) id [100001,100000]) [] ((wm la par cs R m).upd p ((ir 4 R m p).putN c [.b true])) e L):Wk n e ((wm la par cs R m).upd p ((ir 4 R m p).putN c [.b true])) (aE L) (wm la par cs R (kF m p c true)):=by
 obtain⟨f0,f1,_⟩:=Bz (show p<100000 by omega)
 have g0:(100000=p)=False:=by simp;omega
 have g1:(100001=p)=False:=by simp;omega
 have hp6:p<1000000:=by omega
 refine Wk.mkF id [100001,100000] [] (by omega) he ?_ (by simp) (λj hj=>?_) RN (λj hj=>?_) (λq x hq=>(by cases hq))
 ·exact .cons rfl (Ov rfl (by simp only[hp6,g0,g1,go_sem,simprocAttr]) (λj hj=>qb (by omega) hj)) (.cons rfl (.ls (hx:=by simp only[hp6,g0,g1,go_sem,simprocAttr])) .nil)
 ·by_cases e:j=p
  ·subst e
   refine .matp (m:=m) (j:=j) (c0:=c) (v:=true) ?_ (by omega) hc (λd hd=>?_)
   ·show AH.at _ j=_
    rw[gS hp6,if_pos rfl];rfl
   ·unfold kF
    by_cases e2:d=c<;>simp[e2]
  ·refine .mat (m:=m) (j:=j) ?_ (λd hd=>?_)
   ·show AH.at _ j=_
    rw[gS hp6,if_neg e]
    exact n8 _ _ _ _ (by omega) hj rfl _ _
   ·unfold kF
    rw[if_neg (λh=>e h.1)]
 ·simp only[id]
  obtain⟨f0,f1,_⟩:=Bz (show j<100000 by omega)
  simp[f0,f1]
theorem Gm(la:List (Bool×Int))(par:Int)(cs:List In)(R:Nat)(hR2:R<=2000)(hn:cs.length<=16384)(pr:List Int)(nx:Nat->List Nat)(m0 m:Nat->Nat->Bool)(fl:Bool)(p c:Nat)(hp:p<cs.length)(hc:c<R)(hnx:∀k ∈ nx p,k<=cs.length)(hnl:(nx p).length<=2)(hrl:(rM cs p).length<=1000)(h:kP cs nx R m0 m fl p c)
  (Q:AE->Tr AV->AH->Prop) (hQ:∀(m':Nat->Nat->Bool) (fl':Bool) e' H',kP cs nx R m0 m' fl' p (c+1)->Wk 110 e' H' (aE ((14,.n .i64 c)::(13,gC nx p 0)::(12,.n .i64 (F1 cs p))::(11,.fs 1 (rM cs p).length (iC .i64 (rM cs p)))::(10,.n .i64 p)::(9,.b fl')::mN pr cs.length)) (wm la par cs R m')->Q .normal e' H'):
  GA Try.prog 110 (aB Try.prog 40) wE (aE ((14,.n .i64 c)::(13,gC nx p 0)::(12,.n .i64 (F1 cs p))::(11,.fs 1 (rM cs p).length (iC .i64 (rM cs p)))::(10,.n .i64 p)::(9,.b fl)::mN pr cs.length)) (wm la par cs R m) Q:=by
 have hadd:∀j:Nat,j<100000->IntKind.wrap .i64 ((j:Int)+1)=((j+1:Nat):Int):=λj hj=>by rw[aU (by omega)];omega
 have hgC:gC nx p 0= .fs 1 (nx p).length (λj _=> .n .i64 (((nx p).getD j 0:Nat):Int)):=rfl
 repeat first|with_reducible refine aw ?_|simp only[go_sem,simprocAttr]
 refine ao [] (.cons (.rfl (by rfl)) (.cons (.rfl (by rfl)) .nil)) (xf (rM cs p) (by omega) (c:Int)) (by simp only[AH.mark_next,ah,ay,az,am,ai,av,af,au,ag,List.length_cons,List.length_nil];decide) ?_
 repeat first|with_reducible refine aw ?_|simp only[go_sem,simprocAttr]
 refine GA.loop (I:=λmm e H=>∃(q:Nat),mm=(nx p).length-q/\q<=(nx p).length/\e=aE ((16,.n .i64 q)::(15,.b (pD cs nx m p c q))::(14,.n .i64 c)::(13,gC nx p 0)::(12,.n .i64 (F1 cs p))::(11,.fs 1 (rM cs p).length (iC .i64 (rM cs p)))::(10,.n .i64 p)::(9,.b fl)::mN pr cs.length)/\H=wm la par cs R m)
  (cP hn ?_) ⟨0,rfl,Nat.zero_le _,rfl,rfl⟩ ?_
 ·simp only[bk,bh,mN,go_sem,simprocAttr]
  repeat' refine ab ?_ ?_
  all_goals first|exact bu|skip
  all_goals exact Wv.same rfl
 rintro mm e H ⟨q,rfl,hq,rfl,rfl⟩
 repeat first|with_reducible refine aw ?_|simp only[hgC,go_sem,simprocAttr]
 refine⟨λhlt=>?_,λhlt=>?_⟩
 ·have hql:q<(nx p).length:=by omega
  have hq0:(0:Int)<=(q:Int):=by omega
  have ha:=hadd q (by omega)
  have hk:(nx p).getD q 0<=cs.length:=hnx _ (by rw[List.getD_eq_getElem?_getD,List.getElem?_eq_getElem hql];exact List.getElem_mem _)
  have his:pD cs nx m p c (q+1)=(pD cs nx m p c q||(m ((nx p).getD q 0) c&& !decide ((c:Int)=F1 cs p))):=rfl
  obtain⟨k,hkq⟩:∃k,(nx p).getD q 0=k:=⟨_,rfl⟩
  rw[hkq] at hk his
  have hk0:(0:Int)<=(k:Int):=by omega
  have hk1:(k:Int)<((cs.length+1:Nat):Int):=by omega
  have hk2:k<cs.length+1:=by omega
  have hc0:(0:Int)<=(c:Int):=by omega
  have hc1:(c:Int)<(R:Int):=by omega
  have hat:=n8 (λ_=>none) (ir 4 R m) (cs.length+1) k (by omega) hk2 rfl
  have hos:(aH 55 1 (cs.length+1) 0 (qh R)).get k= .os k R:=by
   have:=aL (ty:=55) (n:=cs.length+1) (z:=0) (row:=qh R) k 0 (by decide:0<1)
   rw[Nat.mul_one,Nat.add_zero] at this
   exact this
  have hge:=gF 4 R m k c
  have hsz:=j3 4 R m k
  cases hA:pD cs nx m p c q with
  |true=>
   rw[hA] at his
   repeat first|with_reducible refine aw ?_|simp only[hA,ha,go_sem,simprocAttr]
   refine⟨_,_,_,?_,cP hn ?_,q+1,rfl,by omega,rfl,rfl⟩
   ·omega
   ·rw[his]
    simp only[bk,bh,mN,hgC,Bool.true_or,go_sem,simprocAttr]
    repeat' refine ab ?_ ?_
    all_goals first|exact bu|skip
    all_goals exact Wv.same rfl
  |false=>
   rw[hA] at his
   cases hm:m k c with
   |true=>
    rw[hm] at hge his
    repeat first|with_reducible refine aw ?_|simp only[hA,ha,hq0,hlt,hkq,hk0,hk1,hk2,hc0,hc1,hc,hat,hos,hge,hsz,decide_true,go_sem,simprocAttr]
    refine⟨_,_,_,?_,cP hn ?_,q+1,rfl,by omega,rfl,rfl⟩
    ·omega
    ·rw[his]
     simp only[bk,bh,mN,hgC,Bool.false_or,Bool.true_and,go_sem,simprocAttr]
     repeat' refine ab ?_ ?_
     all_goals first|exact bu|skip
     all_goals exact Wv.same rfl
   |false=>
    rw[hm] at hge his
    repeat first|with_reducible refine aw ?_|simp only[hA,ha,hq0,hlt,hkq,hk0,hk1,hk2,hc0,hc1,hc,hat,hos,hge,hsz,decide_true,go_sem,simprocAttr]
    refine⟨_,_,_,?_,cP hn ?_,q+1,rfl,by omega,rfl,rfl⟩
    ·omega
    ·rw[his]
     simp only[bk,bh,mN,hgC,Bool.false_or,Bool.false_and,go_sem,simprocAttr]
     repeat' refine ab ?_ ?_
     all_goals first|exact bu|skip
     all_goals exact Wv.same rfl
 ·have hqq:q=(nx p).length:=by omega
  subst hqq
  have hp0:(0:Int)<=(p:Int):=by omega
  have hp1:(p:Int)<((cs.length+1:Nat):Int):=by omega
  have hp2:p<cs.length+1:=by omega
  have hp6:p<1000000:=by omega
  have hc0:(0:Int)<=(c:Int):=by omega
  have hc1:(c:Int)<(R:Int):=by omega
  have hc2:c+1<=R:=hc
  have hat:=n8 (λ_=>none) (ir 4 R m) (cs.length+1) p (by omega) hp2 rfl
  have hos:(aH 55 1 (cs.length+1) 0 (qh R)).get p= .os p R:=by
   have:=aL (ty:=55) (n:=cs.length+1) (z:=0) (row:=qh R) p 0 (by decide:0<1)
   rw[Nat.mul_one,Nat.add_zero] at this
   exact this
  have hge:=gF 4 R m p c
  have hsz:=j3 4 R m p
  have hfz:=xN 4 R m p
  cases hA:pD cs nx m p c (nx p).length with
  |false=>
   repeat first|with_reducible refine aw ?_|simp only[hA,go_sem,simprocAttr]
   refine hQ m fl _ _ (h.skip (λh2=>(by rw[hA] at h2;cases h2))) (cP hn ?_)
   simp only[bk,bh,mN,go_sem,simprocAttr]
   repeat' refine ab ?_ ?_
   all_goals first|exact bu|skip
   all_goals exact Wv.same rfl
  |true=>
   cases hm:m p c with
   |true=>
    rw[hm] at hge
    repeat first|with_reducible refine aw ?_|simp only[hA,hp0,hp1,hp2,hc0,hc1,hc,hat,hos,hge,hsz,decide_true,go_sem,simprocAttr]
    refine hQ m fl _ _ (h.skip (λ_=>hm)) (cP hn ?_)
    simp only[bk,bh,mN,go_sem,simprocAttr]
    repeat' refine ab ?_ ?_
    all_goals first|exact bu|skip
    all_goals exact Wv.same rfl
   |false=>
    rw[hm] at hge
    repeat first|with_reducible refine aw ?_|simp only[hA,hp0,hp1,hp2,hp6,hc0,hc1,hc2,hc,hat,hos,hge,hsz,hfz,decide_true,go_sem,simprocAttr]
    refine hQ (kF m p c true) true _ _ (h.put hp hc hA hm) (F3 hn hR2 hp2 hc ?_)
    simp only[bk,bh,mN,go_sem,simprocAttr]
    repeat' refine ab ?_ ?_
    all_goals first|exact bu|skip
    all_goals exact Wv.same rfl
theorem uH(la:List (Bool×Int))(par:Int)(cs:List In)(R:Nat)(hR2:R<=2000)(hn:cs.length<=16384)(pr:List Int)(hpr:pr.length=cs.length)(pt:Nat->Nat)(p2 p3:AV)(hp2:p2.pu 3=true)(hp3:p3.pu 3=true)
  (hpt:bR Try.prog 23 [.fs 5 cs.length (cC cs)] [.v (.fs 1 pr.length (iC .i64 pr)),.v p2,.v p3])
  (hpb:∀i,i<cs.length->dN (bU cs i)->pr.getD i 0=(pt i:Int)/\pt i<cs.length)
  (hops:∀x ∈ cs,0<=x.1/\x.1<39) (hR:∀x ∈ cs,∀r ∈ aA x.1 x.2.2.1 x.2.2.2.1,0<=r/\r<(R:Int)):
  bR Try.prog 40 [aP la.length (aC la) R par cs] [.v (.fs 1 (cs.length+1) (λi _=> .fs 1 R (bC (G7 cs (bE cs pt) i))))]:=by
 have hadd:∀j:Nat,j<100000->IntKind.wrap .i64 ((j:Int)+1)=((j+1:Nat):Int):=λj hj=>by rw[aU (by omega)];omega
 have hsub:∀j:Int,0<=j->j<100000->IntKind.wrap .i64 (j-1)=j-1:=λj h0 hj=>aU (by omega)
 have hR0:(0:Int)<=(R:Int):=by omega
 have hR1:(R:Int)<=16777216:=by omega
 have hR3:1*R<=140737488355328:=by omega
 have hR4:R<1099511627776:=by omega
 have hR5:R<=140737488355328:=by omega
 refine yk (by rfl) (aK bf Ly ⟨by simp,by decide⟩ ?_)
 simp only[bI,aP]
 repeat first|with_reducible refine aw ?_|simp only[go_sem,simprocAttr]
 refine ao [] (.cons (.rfl (by rfl)) .nil) hpt (by simp only[AH.mark_next,ah,ay,az,am,ai,av,af,au,ag,List.length_cons,List.length_nil];decide) ?_
 repeat first|with_reducible refine aw ?_|simp only[go_sem,simprocAttr]
 refine GA.wk (Wk.nil 7 1 55 (by simp only[go_sem,simprocAttr]) (by decide) (by simp only[go_sem,simprocAttr])) ?_
 refine GA.loop (I:=λmm e H=>∃(i:Nat),mm=cs.length+1-i/\i<=cs.length+1/\e=aE [(1,.p 100000 0),(3,.fs 1 pr.length (iC .i64 pr)),(6,.n .i64 cs.length),(7,.os 100001 i),(8,.n .i64 i)]/\H=eW (λ_=>none) i (ir 4 R (λ_ _=>false)) [aH 55 1 i 0 (qh R),bg 0 25 [.fs 2 la.length (aC la),.n .i64 R,.n .i64 par,.fs 5 cs.length (cC cs)]])
  (Wk.mkF id [1,0] [] (Nat.zero_le _) ?_ ?_ ?_ (λj hj=>absurd hj (Nat.not_lt_zero _)) RN (λj hj=>absurd hj (Nat.not_lt_zero _)) (λq x hq=>(by cases hq))) ⟨0,rfl,Nat.zero_le _,rfl,rfl⟩ ?_
 ·simp only[bk,bh,go_sem,simprocAttr]
  repeat' refine ab ?_ ?_
  all_goals first|exact bu|skip
 ·exact .cons rfl (.rows (x:=_) (by simp only[go_sem,simprocAttr];rfl) (by rfl) (by rfl) (by rfl) (by show 0*1<=0;decide) (by exact Nat.le_refl _) (by decide) (λi j hi=>absurd (show i<0 from hi) (Nat.not_lt_zero _)) (λi j hi=>absurd (show i<0 from hi) (Nat.not_lt_zero _))) (.cons rfl .ls .nil)
 ·simp
 rintro mm e H ⟨i,rfl,hi,rfl,rfl⟩
 repeat first|with_reducible refine aw ?_|simp only[go_sem,simprocAttr]
 refine⟨λh=>?_,λh=>?_⟩
 ·have hil:i<=cs.length:=by omega
  have ha:=hadd i (by omega)
  have hl1:i+1<1099511627776:=by omega
  have hl2:(i+1)*24<=140737488355328:=by omega
  have hl3:i<=9223372036854775806:=by omega
  repeat first|with_reducible refine aw ?_|simp only[hR0,hR1,hR3,hR4,hR5,ha,hl1,hl2,hl3,Int.le_refl,decide_true,go_sem,simprocAttr]
  refine⟨_,_,_,?_,Wk.mkF (λj=>if j=i then 100002 else j) [100004,100000] [] (k:=i+1) (by omega) ?_ ?_ ?_ (λj hj=>?_) (λj1 j2 h1 h2 he=>?_) (λj hj=>?_) (λq x hq=>(by cases hq)),i+1,rfl,by omega,rfl,rfl⟩
  ·omega
  ·simp only[bk,bh,go_sem,simprocAttr]
   repeat' refine ab ?_ ?_
   all_goals first|exact bu|skip
  ·exact .cons rfl (RC (v:=100002) (by simp only[go_sem,simprocAttr]<;>rfl) (by omega) (λj hj=>by rw[qb (by omega) (by omega),if_neg (by omega)]) (by rw[qb (by omega) (by omega),if_pos rfl])) (.cons rfl .ls .nil)
  ·simp
  ·by_cases e:j=i
   ·subst e
    rw[if_pos rfl]
    exact RH (by simp only[go_sem,simprocAttr]<;>rfl)
   ·rw[if_neg e]
    have hat:=n8 (λ_=>none) (ir 4 R (λ_ _=>false)) i j (by omega) (show j<i by omega) rfl
    obtain⟨f0,f1,f2,f3,f4,f5⟩:=Bz (show j<100000 by omega)
    exact .mat (m:=λ_ _=>false) (j:=j) (by simp only[hat,f0,f1,f2,f3,f4,f5,go_sem,simprocAttr]) (λ_ _=>rfl)
  ·by_cases e1:j1=i<;>by_cases e2:j2=i<;>simp only[e1,e2,if_true,if_false] at he<;>omega
  ·by_cases e:j=i<;>simp[e]<;>omega
 ·have hie:i=cs.length+1:=by omega
  subst hie
  repeat first|with_reducible refine aw ?_|simp only[go_sem,simprocAttr]
  have hrdl:∀i,(rM cs i).length<=1000:=λi=>by unfold rM aA;(repeat' split)<;>simp
  have hnxl:∀i,(bE cs pt i).length<=2:=λi=>by unfold bE;(repeat' split)<;>simp
  have hnxb:∀i,i<cs.length->∀k ∈ bE cs pt i,k<=cs.length:=λi hi k hk=>by
   have hb:=hpb i hi
   unfold bE at hk
   unfold dN at hb
   split at hk
   ·have:=(hb (by omega)).2;simp at hk;omega
   split at hk
   ·have:=(hb (by omega)).2;simp at hk;omega
   split at hk
   ·have:=(hb (by omega)).2
    split at hk<;>simp at hk<;>omega
   ·simp at hk;omega
  refine GA.loop (I:=λmm e H=>∃(m:Nat->Nat->Bool) (fl:Bool),mm=2*((cs.length+1)*R-iV m R (cs.length+1))+(if fl then 1 else 0)/\(∀i r,m i r=true->bn cs (bE cs pt) i (r:Int))/\(fl=false->∀i,i<cs.length->lj cs (bE cs pt) R m i)/\e=aE ((9,.b fl)::mN pr cs.length)/\H=wm la par cs R m)
   (cP hn ?_) ⟨λ_ _=>false,true,rfl,λi r h=>(by cases h),λh=>(by cases h),rfl,rfl⟩ ?_
  ·simp only[bk,bh,mN,go_sem,simprocAttr]
   repeat' refine ab ?_ ?_
   all_goals first|exact bu|skip
   all_goals exact Wv.same rfl
  rintro mm e H ⟨m,fl,rfl,hlive,hcl,rfl,rfl⟩
  repeat first|with_reducible refine aw ?_|simp only[go_sem,simprocAttr]
  refine⟨λhf=>?_,λhf=>?_⟩
  ·subst hf
   have hs0:IntKind.wrap .i64 ((cs.length:Int)-1)=(cs.length:Int)-1:=aU (by omega)
   repeat first|with_reducible refine aw ?_|simp only[hs0,go_sem,simprocAttr]
   refine GA.loop (I:=λmm e H=>∃(p:Nat) (m':Nat->Nat->Bool) (fl:Bool),mm=0+p/\p<=cs.length/\uv cs (bE cs pt) R m m' fl p/\e=aE ((10,.n .i64 ((p:Int)-1))::(9,.b fl)::mN pr cs.length)/\H=wm la par cs R m')
    (cP hn ?_) ⟨cs.length,m,false,rfl,Nat.le_refl _,⟨hlive,λ_=>⟨rfl,λi h1 h2=>by omega⟩,λh=>(by cases h)⟩,rfl,rfl⟩ ?_
   ·simp only[bk,bh,mN,go_sem,simprocAttr]
    repeat' refine ab ?_ ?_
    all_goals first|exact bu|skip
    all_goals exact Wv.same rfl
   rintro mm e H ⟨p,m',fl,rfl,hp,hP,rfl,rfl⟩
   repeat first|with_reducible refine aw ?_|simp only[go_sem,simprocAttr]
   refine⟨λh0=>?_,λh0=>?_⟩
   ·obtain⟨p,rfl⟩:∃p',p=p'+1:=⟨p-1,by omega⟩
    have hpn:p<cs.length:=by omega
    have hpe:((p+1:Nat):Int)-1=(p:Int):=by omega
    have hp0:(0:Int)<=(p:Int):=by omega
    have hp1:(p:Int)<(cs.length:Int):=by omega
    have hs:=hsub (p:Int) (by omega) (by omega)
    have hcc0:=ww cs p
    have hcc1:=CB cs p
    have hcc2:=CA cs p
    have hcc3:=Cz cs p
    have hcc4:=Cy cs p
    have hxm:cs.getD p (0,0,0,0,0) ∈ cs:=by rw[List.getD_eq_getElem?_getD,List.getElem?_eq_getElem hpn];exact List.getElem_mem hpn
    have hru:=fS (nw (cs.getD p (0,0,0,0,0)).1 (cs.getD p (0,0,0,0,0)).2.1 (cs.getD p (0,0,0,0,0)).2.2.1 (cs.getD p (0,0,0,0,0)).2.2.2.1 (cs.getD p (0,0,0,0,0)).2.2.2.2 (hops _ hxm)) (by rfl)
    simp only[List.map_cons,List.map_nil,RT.fz] at hru
    repeat first|with_reducible refine aw ?_|simp only[hpe,hp0,hp1,hcc0,hcc1,hcc2,hcc3,hcc4,decide_true,go_sem,simprocAttr]
    refine ao [] (.cons (.rfl (by rfl)) .nil) hru (by simp only[AH.mark_next,ah,ay,az,am,ai,av,af,au,ag,List.length_cons,List.length_nil];decide) ?_
    repeat first|with_reducible refine aw ?_|simp only[go_sem,simprocAttr]
    refine ao [] (.cons (.rfl (by rfl)) (.cons (.rfl (by rfl)) (.cons (.rfl (by rfl)) .nil))) (ny cs hn pr hpr pt p hpn (hpb p hpn)) (by simp only[AH.mark_next,ah,ay,az,am,ai,av,af,au,ag,List.length_cons,List.length_nil];decide) ?_
    repeat first|with_reducible refine aw ?_|simp only[go_sem,simprocAttr]
    refine GA.loop (I:=λmm e H=>∃(c:Nat) (m2:Nat->Nat->Bool) (fl:Bool),mm=R-c/\c<=R/\kP cs (bE cs pt) R m m2 fl p c/\e=aE ((14,.n .i64 c)::(13,gC (bE cs pt) p 0)::(12,.n .i64 (F1 cs p))::(11,.fs 1 (rM cs p).length (iC .i64 (rM cs p)))::(10,.n .i64 p)::(9,.b fl)::mN pr cs.length)/\H=wm la par cs R m2)
     (cP hn ?_) ⟨0,m',fl,rfl,Nat.zero_le _,hP.row,rfl,rfl⟩ ?_
    ·simp only[bk,bh,mN,go_sem,simprocAttr]
     repeat' refine ab ?_ ?_
     all_goals first|exact bu|skip
     all_goals exact Wv.same rfl
    rintro mm e H ⟨c,m2,fl2,rfl,hc,hrow,rfl,rfl⟩
    repeat first|with_reducible refine aw ?_|simp only[go_sem,simprocAttr]
    refine⟨λh1=>?_,λh1=>?_⟩
    ·have hcl:c<R:=by omega
     have ha:=hadd c (by omega)
     (try simp only[go_sem,simprocAttr])
     iterate 1 (with_reducible refine GA.go bf rfl ?_;try simp only[go_sem,simprocAttr])
     refine GA.seq ?_
     refine GA.block ?_
     refine GA.wk (cP (L:=(14,.n .i64 c)::(13,gC (bE cs pt) p 0)::(12,.n .i64 (F1 cs p))::(11,.fs 1 (rM cs p).length (iC .i64 (rM cs p)))::(10,.n .i64 p)::(9,.b fl2)::mN pr cs.length) hn ?_) ?_
     ·simp only[bk,bh,mN,go_sem,simprocAttr]
      repeat' refine ab ?_ ?_
      all_goals first|exact bu|skip
      all_goals exact Wv.same rfl
     refine Gm la par cs R hR2 hn pr (bE cs pt) m m2 fl2 p c hpn hcl (hnxb p hpn) (hnxl p) (hrdl p) hrow _ (λm3 fl3 e' H' hrow' hwk=>?_)
     simp only[go_sem,simprocAttr]
     refine GA.wk hwk ?_
     repeat first|with_reducible refine aw ?_|simp only[ha,go_sem,simprocAttr]
     refine⟨_,_,_,?_,cP hn ?_,c+1,m3,fl3,rfl,by omega,hrow',rfl,rfl⟩
     ·omega
     ·simp only[bk,bh,mN,go_sem,simprocAttr]
      repeat' refine ab ?_ ?_
      all_goals first|exact bu|skip
      all_goals exact Wv.same rfl
    ·have hcR:c=R:=by omega
     subst hcR
     repeat first|with_reducible refine aw ?_|simp only[hs,go_sem,simprocAttr]
     refine⟨_,_,_,?_,cP hn ?_,p,m2,fl2,rfl,by omega,hrow.pass,rfl,rfl⟩
     ·omega
     ·simp only[bk,bh,mN,go_sem,simprocAttr]
      repeat' refine ab ?_ ?_
      all_goals first|exact bu|skip
      all_goals exact Wv.same rfl
   ·have hp0:p=0:=by omega
    subst hp0
    repeat first|with_reducible refine aw ?_|simp only[go_sem,simprocAttr]
    refine⟨_,_,_,?_,cP hn ?_,m',fl,rfl,hP.live,λhf=>?_,rfl,rfl⟩
    ·have h1:=ug m' R (cs.length+1)
     cases fl with
     |true=>have:=hP.yes rfl;simp only[if_true];omega
     |false=>obtain⟨rfl,_⟩:=hP.no rfl;simp
    ·simp only[bk,bh,mN,go_sem,simprocAttr]
     repeat' refine ab ?_ ?_
     all_goals first|exact bu|skip
     all_goals exact Wv.same rfl
    ·obtain⟨rfl,h2⟩:=hP.no hf
     exact λi hi=>h2 i (Nat.zero_le _) hi
  ·subst hf
   have hcl:=hcl rfl
   have hmeq:∀i c,c<R->m i c=G7 cs (bE cs pt) i c:=λi c hc=>by
    rw[Bool.eq_iff_iff,A9]
    exact⟨hlive i c,λh=>kG hcl h c hc rfl⟩
   refine GA.wk (Wk.mkO (ob:=λ_=>none) (L:=[(7,.os 0 (cs.length+1))]) (bl:=[aH 55 1 (cs.length+1) 0 (λi _=> .fs 1 R (bC (G7 cs (bE cs pt) i)))]) [100001] (List.range (cs.length+1)) ?_ ?_ (by simp) (λq x hq=>(by cases hq))) ?_
   ·simp only[bk,bh,mN,go_sem,simprocAttr]
    repeat' refine ab ?_ ?_
    all_goals first|exact bu|skip
   ·refine .cons rfl ⟨aH 55 1 (cs.length+1) 0 (qh R),by simp only[go_sem,simprocAttr],rfl,rfl,rfl,rfl,.inl rfl,by rw[if_neg (by simp;omega)];exact Nat.le_refl _,λi hi=>?_⟩ .nil
    have hi':i<cs.length+1:=by rw[fm] at hi;omega
    have e2:∀(row:Nat->Nat->AV),(aH 55 1 (cs.length+1) 0 row).get i=row i 0:=λrow=>by
     have:=aL (ty:=55) (n:=cs.length+1) (z:=0) (row:=row) i 0 (by decide:0<1)
     rw[Nat.mul_one,Nat.add_zero] at this
     exact this
    rw[e2,e2]
    refine .cv (.os (x:=ir 4 R m i) (List.mem_range.2 hi') (n8 _ _ _ _ (by omega) hi' rfl _ _) (by rw[j3];omega) (λc j hc hj=>?_) (λc j hc hj=>rfl))
    obtain rfl:j=0:=by omega
    rw[Nat.mul_one,Nat.add_zero,gF,hmeq i c hc]
    rfl
   repeat first|with_reducible refine aw ?_|simp only[go_sem,simprocAttr]
   exact⟨[0],.os (x:=aH 55 1 (cs.length+1) 0 (λi _=> .fs 1 R (bC (G7 cs (bE cs pt) i)))) (by simp) (by simp only[go_sem,simprocAttr]) (Nat.le_refl _) (λi j hi hj=>aL i j hj) (λi j hi hj=>rfl)⟩
section
variable {cs:List In} {nx:Nat->List Nat} {R i q c a b:Nat}
end
end Go.Proofs.Yteopfmnnhlhbmaa
namespace Go.Proofs.Yteopfmnnhlhbmaa
open Go.RowKit
noncomputable def vw(cs:List In)(nx:Nat->List Nat)(a b:Nat):Bool:= @decide (f9 cs nx (a:Int) (b:Int)) (Classical.propDecidable _)
theorem lY{cs:List In}{nx:Nat->List Nat}{a b:Nat}:vw cs nx a b=true↔f9 cs nx (a:Int) (b:Int):=by
 unfold vw
 exact @decide_eq_true_iff _ (Classical.propDecidable _)
theorem xr(cs:List In)(pt:Nat->Nat)(i:Nat):(bE cs pt i).length<=2:=by unfold bE;(repeat' split)<;>simp
theorem tG{cs:List In}{pt:Nat->Nat}{i:Nat}(hi:i<cs.length)(hb:dN (bU cs i)->pt i<cs.length):∀k ∈ bE cs pt i,k<=cs.length:=λk hk=>by
 unfold bE at hk
 unfold dN at hb
 split at hk
 ·have:=hb (by omega);simp at hk;omega
 split at hk
 ·have:=hb (by omega);simp at hk;omega
 split at hk
 ·have:=hb (by omega)
  split at hk<;>simp at hk<;>omega
 ·simp at hk;omega
def pW(nm:List Int)(x:In):In:=(x.1,ja nm x.2.1,ja nm x.2.2.1,ja nm x.2.2.2.1,x.2.2.2.2)
theorem xh(na:Nat)(ra:Nat->Nat->AV)(regs par:Int)(cs:List In)(x:AV)(hc:bR Try.prog 39 [aP na ra regs par cs] [.v x,.v (.n .i64 0)])(n R:Nat)(hn:n<=20000)(hR:R<=2000)(L:Nat->Nat->Bool)
  (hlv:bR Try.prog 40 [aP na ra regs par cs] [.v (.fs 1 n (λi _=> .fs 1 R (bC (L i))))]):
  bR Try.prog 12 [aP na ra regs par cs] [.v (.fs 1 n (gC (λi=>dH (L i) R))),.v (.n .i64 0)]:=by
 have hadd:∀j:Nat,j<100000->IntKind.wrap .i64 ((j:Int)+1)=((j+1:Nat):Int):=λj hj=>by rw[aU (by omega)];omega
 refine fS (rs:=[.o 39 1 n 0 (gC (λi=>dH (L i) R)),.v (.n .i64 0)]) ?_ (by rfl)
 refine aK bf LL ⟨by simp,by decide⟩ ?_
 simp only[bI,aP] at hc hlv ⊢
 repeat first|with_reducible refine aw ?_|simp only[go_sem,simprocAttr]
 refine ao [] (.cons (.rfl (by rfl)) .nil) hc (by simp only[AH.mark_next,ah,ay,az,am,ai,av,af,au,ag,List.length_cons,List.length_nil];decide) ?_
 repeat first|with_reducible refine aw ?_|simp only[go_sem,simprocAttr]
 refine ao [] (.cons (.rfl (by rfl)) .nil) hlv (by simp only[AH.mark_next,ah,ay,az,am,ai,av,af,au,ag,List.length_cons,List.length_nil];decide) ?_
 repeat first|with_reducible refine aw ?_|simp only[go_sem,simprocAttr]
 refine GA.wk (Wk.nil 7 1 39 (by simp only[go_sem,simprocAttr]) (by decide) (by simp only[go_sem,simprocAttr])) ?_
 refine GA.loop (I:=λmm e H=>∃(i:Nat),mm=n-i/\i<=n/\e=aE [(6,.fs 1 n (λi _=> .fs 1 R (bC (L i)))),(7,.os 0 i),(8,.n .i64 i)]/\H=aN [aH 39 1 i 0 (gC (λi=>dH (L i) R))]) (Wk.mk [1] [] ?_ ?_ ?_) ⟨0,rfl,Nat.zero_le _,rfl,rfl⟩ ?_
 ·simp only[bk,bh,go_sem,simprocAttr]
  repeat' refine ab ?_ ?_
  all_goals first|exact bu|skip
 ·exact .cons rfl (.rows (x:=_) (by simp only[go_sem,simprocAttr];rfl) (by rfl) (by rfl) (by rfl) (by show 0*1<=0;decide) (by exact Nat.le_refl _) (by decide) (λi j hi=>absurd (show i<0 from hi) (Nat.not_lt_zero _)) (λi j hi=>absurd (show i<0 from hi) (Nat.not_lt_zero _))) .nil
 ·simp
 rintro mm e H ⟨i,rfl,hi,rfl,rfl⟩
 repeat first|with_reducible refine aw ?_|simp only[go_sem,simprocAttr]
 refine⟨λh=>?_,λh=>?_⟩
 ·have hil:i<n:=by omega
  have hi0:(0:Int)<=(i:Int):=by omega
  have ha:=hadd i (by omega)
  have hl1:i+1<1099511627776:=by omega
  have hl2:(i+1)*24<=140737488355328:=by omega
  have hl3:i<=9223372036854775806:=by omega
  have hmb:=fS (rK (L i) R (by omega)) (by rfl)
  simp only[List.map_cons,List.map_nil,RT.fz] at hmb
  repeat first|with_reducible refine aw ?_|simp only[hi0,h,decide_true,go_sem,simprocAttr]
  refine ao [] (.cons (.rfl (by rfl)) .nil) hmb (by simp only[AH.mark_next,ah,ay,az,am,ai,av,af,au,ag,List.length_cons,List.length_nil];decide) ?_
  repeat first|with_reducible refine aw ?_|simp only[ha,hl1,hl2,hl3,go_sem,simprocAttr]
  refine⟨_,_,_,?_,Wk.mk [2] [] ?_ ?_ ?_,i+1,rfl,by omega,rfl,rfl⟩
  ·omega
  ·simp only[bk,bh,go_sem,simprocAttr]
   repeat' refine ab ?_ ?_
   all_goals first|exact bu|skip
  ·exact .cons rfl (.rowW (by simp only[go_sem,simprocAttr];rfl) (by rfl) (by rfl) (by rfl) (by rw[app_size];show(i+1)*1<=_;simp only[cg.len,List.length_singleton];omega) (by rw[cz];exact Nat.le_refl _) rfl (by decide) (λq j hq hj=>dQ (by omega) hq hj (.rfl (by rfl)))) .nil
  ·simp
 ·have hk:i=n:=by omega
  subst hk
  repeat first|with_reducible refine aw ?_|simp only[go_sem,simprocAttr]
  exact⟨[_,_],rfl,dS.o (x:=aH 39 1 i 0 (gC (λi=>dH (L i) R))) (by simp only[go_sem,simprocAttr]) rfl rfl rfl (by decide) (Nat.le_refl _) (Nat.le_refl _) (λi j hi hj=>aL i j hj) (λi j hi hj=>rfl) rfl (dS.v rfl rfl .nil)⟩
def vQ(f:Nat->Bool):Nat->Nat
 |0=>0
 |r+1=>vQ f r+(if f r then 1 else 0)
def BK(f:Nat->Bool)(R:Nat):List Int:=(List.range R).map λr=>((vQ f r:Nat):Int)
theorem r7{P:Nat->Prop}:∀B:Nat,¬P B->∃c,eg P c:=by
 intro B
 induction B using Nat.strongRecOn with
 |_ B ih=>
  intro hB
  by_cases h:∃c,c<B/\¬P c
  ·obtain⟨c,h1,h2⟩:=h
   exact ih c h1 h2
  ·exact⟨B,hB,λc' hc'=>Classical.byContradiction λh2=>h ⟨c',hc',h2⟩⟩
def Bm(K:Nat->Nat)(r c:Nat):Nat->Nat:=λx=>if x=r then c else K x
theorem rB.add{occ:Nat->Bool}{nb:Nat->Nat->Prop}{n:Nat}{K:Nat->Nat}(h:rB occ nb n K)(ho:occ n=true){c:Nat}(hc:eg (λc=>∃s,s<n/\occ s=true/\nb n s/\K s=c) c):rB occ nb (n+1) (Bm K n c):=by
 have hK:∀s,s<n->Bm K n c s=K s:=λs hs=>if_neg (by omega)
 refine⟨λr hr hor=>?_,λr hr hor=>?_⟩
 ·by_cases e:r=n
  ·subst e
   have:Bm K r c r=c:=if_pos rfl
   rw[this]
   refine hc.congr (λc=>⟨λ⟨s,h1,h2,h3,h4⟩=>⟨s,h1,h2,h3,by rw[hK s h1];exact h4⟩,λ⟨s,h1,h2,h3,h4⟩=>⟨s,h1,h2,h3,by rw[<-hK s h1];exact h4⟩⟩)
  ·rw[hK r (by omega)]
   refine(h.yes r (by omega) hor).congr (λc=>⟨λ⟨s,h1,h2,h3,h4⟩=>⟨s,h1,h2,h3,by rw[hK s (by omega)];exact h4⟩,λ⟨s,h1,h2,h3,h4⟩=>⟨s,h1,h2,h3,by rw[<-hK s (by omega)];exact h4⟩⟩)
 ·by_cases e:r=n
  ·subst e;rw[ho] at hor;cases hor
  ·rw[hK r (by omega)];exact h.no r (by omega) hor
theorem rB.pass{occ:Nat->Bool}{nb:Nat->Nat->Prop}{n:Nat}{K:Nat->Nat}(h:rB occ nb n K)(ho:occ n=false)(hk:K n=0):rB occ nb (n+1) K:=
 ⟨λr hr hor=>h.yes r (by
  by_cases e:r=n
  ·subst e;rw[ho] at hor;cases hor
  ·omega) hor,λr hr hor=>by
  by_cases e:r=n
  ·subst e;exact hk
  ·exact h.no r (by omega) hor⟩
theorem iT(occ:Nat->Bool)(nb:Nat->Nat->Prop):∀n,∃K:Nat->Nat,rB occ nb n K/\(∀r,n<=r->K r=0)/\∃B,∀r,K r<B
 |0=>⟨λ_=>0,⟨λr h=>by omega,λr h=>by omega⟩,λ_ _=>rfl,1,λ_=>Nat.one_pos⟩
 |n+1=>by
  obtain⟨K,h1,h2,B,h3⟩:=iT occ nb n
  cases ho:occ n with
  |false=>exact⟨K,h1.pass ho (h2 n (Nat.le_refl _)),λr hr=>h2 r (by omega),B,h3⟩
  |true=>
   obtain⟨c,hc⟩:=r7 (P:=λc=>∃s,s<n/\occ s=true/\nb n s/\K s=c) B (λ⟨s,_,_,_,h⟩=>by have:=h3 s;omega)
   refine⟨Bm K n c,h1.add ho hc,λr hr=>?_,max B (c+1),λr=>?_⟩
   ·show(if r=n then c else K r)=0
    rw[if_neg (by omega)];exact h2 r (by omega)
   ·show(if r=n then c else K r)<_
    have:=h3 r
    split<;>omega
noncomputable def Pa(occ:Nat->Bool)(nb:Nat->Nat->Prop)(n:Nat):Nat->Nat:=Classical.choose (iT occ nb n)
theorem yX(occ:Nat->Bool)(nb:Nat->Nat->Prop)(n:Nat):rB occ nb n (Pa occ nb n):=(Classical.choose_spec (iT occ nb n)).1
def mq(K:Nat->Nat)(occ:Nat->Bool):Nat->Nat
 |0=>0
 |r+1=>if occ r=true then max (mq K occ r) (K r+1) else mq K occ r
theorem ml{K K':Nat->Nat}{occ:Nat->Bool}:∀{n:Nat},(∀r,r<n->K r=K' r)->mq K occ n=mq K' occ n
 |0,_=>rfl
 |n+1,h=>by unfold mq;rw[ml (λr hr=>h r (by omega)),h n (by omega)]
theorem ud{K:Nat->Nat}{occ:Nat->Bool}:∀{n:Nat},(∀r,r<n->K r<=r)->mq K occ n<=n
 |0,_=>Nat.le_refl _
 |n+1,h=>by
  have:=ud (K:=K) (occ:=occ) (n:=n) (λr hr=>h r (by omega))
  have:=h n (by omega)
  unfold mq;split<;>omega
def kL(K:Nat->Nat)(R:Nat):List Int:=(List.range R).map λr=>((K r:Nat):Int)
theorem yc(K:Nat->Nat)(R r:Nat)(h:r<R):(kL K R).getD r 0=((K r:Nat):Int):=by
 unfold kL
 rw[List.getD_eq_getElem?_getD,List.getElem?_map,List.getElem?_range h]
 rfl
def w6(nm:List Int)(kept first:Int)(cs:List In):List In:=(cs.map λx=>wY kept first (pW nm x)).flatten
section
variable (la:List (Bool×Int)) (regs par:Int) (cs:List In) (x:AV) (hla:la.length<1000000) (hcs:cs.length<=16384) (r n:Nat) (hr:4<=r/\r<=1024) (nm:List Int) (hnm:∀x ∈ cs,x.2.1<(nm.length:Int)/\x.2.2.1<(nm.length:Int)/\x.2.2.2.1<(nm.length:Int))
 (hc:bR Try.prog 39 [aP la.length (aC la) regs par cs] [.v x,.v (.n .i64 0)])
 (hcol:bR Try.prog 47 [aP la.length (aC la) regs par cs] [.v (.fs 1 nm.length (iC .i64 nm)),.v (.n .i64 n)])
include hla hcs hr hc hcol hnm
end
end Go.Proofs.Yteopfmnnhlhbmaa