/- A part of the proof of AllocateSpills: RlA RlB RiA RiB RjA RjB RkA RkB. No condition. -/
import Derived.Test.YteopfmnnhlhbmaaHp33
import Derived.Test.YteopfmnnhlhbmaaHp34
set_option linter.unusedSimpArgs false
set_option linter.unusedVariables false
set_option linter.constructorNameAsVariable false
set_option maxRecDepth 100000
set_option maxHeartbeats 4000000
namespace Go.Proofs.Yteopfmnnhlhbmaa
open Go.RowKit
def kK(f:Nat->Bool):Nat->Nat
 |0=>0
 |R+1=>kK f R+(if f R then 1 else 0)
def iW(m:Nat->Nat->Bool)(R:Nat):Nat->Nat
 |0=>0
 |n+1=>iW m R n+kK (m n) R
theorem ut(f:Nat->Bool):∀R,kK f R<=R
 |0=>Nat.le_refl _
 |R+1=>by have:=ut f R;unfold kK;split<;>omega
theorem uu(m:Nat->Nat->Bool)(R:Nat):∀n,iW m R n<=n*R
 |0=>by simp[iW]
 |n+1=>by have:=uu m R n;have:=ut (m n) R;unfold iW;rw[Nat.succ_mul];omega
theorem eJ{f g:Nat->Bool}:∀{R:Nat},(∀c,c<R->f c=g c)->kK f R=kK g R
 |0,_=>rfl
 |R+1,h=>by unfold kK;rw[eJ (λc hc=>h c (by omega)),h R (by omega)]
theorem ml{m m2:Nat->Nat->Bool}{R:Nat}:∀{n:Nat},(∀i,i<n->∀c,c<R->m i c=m2 i c)->iW m R n=iW m2 R n
 |0,_=>rfl
 |n+1,h=>by unfold iW;rw[ml (λi hi=>h i (by omega)),eJ (h n (by omega))]
theorem rl{f:Nat->Bool}{c:Nat}(hf:f c=false):∀{R:Nat},c<R->kK (λd=>if d=c then true else f d) R=kK f R+1
 |0,h=>by omega
 |R+1,h=>by
  unfold kK
  by_cases e:c=R
  ·subst e
   rw[eJ (g:=f) (λd hd=>if_neg (by omega)),if_pos (by simp),if_neg (by simp[hf])]
  ·rw[rl hf (show c<R by omega),if_neg (show ¬R=c by omega)]
   omega
theorem rm{m:Nat->Nat->Bool}{i c R:Nat}(hc:c<R)(hf:m i c=false):∀{n:Nat},i<n->iW (d8 m i c true) R n=iW m R n+1
 |0,h=>by omega
 |n+1,h=>by
  unfold iW
  by_cases e:i=n
  ·subst e
   rw[ml (m2:=m) (λj hj c' _=>by unfold d8;rw[if_neg (by omega)])]
   have:kK (d8 m i c true i) R=kK (m i) R+1:=by
    rw[<-rl hf hc]
    refine eJ (λd _=>?_)
    unfold d8
    by_cases e2:d=c<;>simp[e2]
   omega
  ·rw[rm hc hf (show i<n by omega),eJ (f:=d8 m i c true n) (g:=m n) (λd _=>by unfold d8;rw[if_neg (by omega)])]
   omega
noncomputable def ib(cs:List In)(nx:Nat->List Nat)(i r:Nat):Bool:= @decide (bn cs nx i (r:Int)) (Classical.propDecidable _)
theorem kY{cs:List In}{nx:Nat->List Nat}{i r:Nat}:ib cs nx i r=true↔bn cs nx i (r:Int):=by
 unfold ib
 exact @decide_eq_true_iff _ (Classical.propDecidable _)
abbrev r6(cs:List In)(i:Nat):List Int:=aF (cs.getD i (0,0,0,0,0)).1 (cs.getD i (0,0,0,0,0)).2.2.1 (cs.getD i (0,0,0,0,0)).2.2.2.1
abbrev IA(cs:List In)(i:Nat):Int:=a6 (cs.getD i (0,0,0,0,0)).1 (cs.getD i (0,0,0,0,0)).2.1
def pV(cs:List In)(nx:Nat->List Nat)(m:Nat->Nat->Bool)(i r:Nat):Nat->Bool
 |0=>(r6 cs i).contains (r:Int)
 |q+1=>pV cs nx m i r q||(m ((nx i).getD q 0) r&& !decide ((r:Int)=IA cs i))
theorem qK{cs:List In}{nx:Nat->List Nat}{m:Nat->Nat->Bool}(hm:∀i r,m i r=true->bn cs nx i (r:Int)){i r:Nat}(hi:i<cs.length):∀{q:Nat},q<=(nx i).length->pV cs nx m i r q=true->bn cs nx i (r:Int)
 |0,_,h=> .read hi (by unfold pV at h;exact List.contains_iff_mem.1 h)
 |q+1,hq,h=>by
  unfold pV at h
  simp only[Bool.or_eq_true,Bool.and_eq_true,Bool.not_eq_true',decide_eq_false_iff_not] at h
  rcases h with h|⟨h1,h2⟩
  ·exact qK hm hi (by omega) h
  ·have hk:(nx i).getD q 0 ∈ nx i:=by rw[List.getD_eq_getElem?_getD,List.getElem?_eq_getElem (by omega)];exact List.getElem_mem _
   exact .flow hi hk (hm _ _ h1) h2
theorem l6{cs:List In}{nx:Nat->List Nat}{m:Nat->Nat->Bool}{i r:Nat}:∀{q q2:Nat},q<=q2->pV cs nx m i r q=true->pV cs nx m i r q2=true
 |q,0,h,h1=>by obtain rfl:q=0:=(by omega);exact h1
 |q,q2+1,h,h1=>by
  by_cases e:q=q2+1
  ·subst e;exact h1
  ·unfold pV;rw[l6 (show q<=q2 by omega) h1];rfl
def lq(cs:List In)(nx:Nat->List Nat)(R:Nat)(m:Nat->Nat->Bool)(i:Nat):Prop:=∀r,r<R->pV cs nx m i r (nx i).length=true->m i r=true
theorem kG{cs:List In}{nx:Nat->List Nat}{R:Nat}{m:Nat->Nat->Bool}(hc:∀i,i<cs.length->lq cs nx R m i){i:Nat}{r:Int}(h:bn cs nx i r):∀n:Nat,n<R->r=(n:Int)->m i n=true:=by
 induction h with
 |read hi h=>
  rintro n hn rfl
  refine hc _ hi n hn (l6 (Nat.zero_le _) ?_)
  unfold pV
  exact List.contains_iff_mem.2 h
 |@flow i k r hi hk h hw ih=>
  rintro n hn rfl
  obtain⟨q,hq,e⟩:=List.getElem_of_mem hk
  refine hc _ hi n hn (l6 (q:=q+1) (by omega) ?_)
  unfold pV
  have:(nx i).getD q 0=k:=by rw[List.getD_eq_getElem?_getD,List.getElem?_eq_getElem hq,e];rfl
  rw[this,ih n hn rfl,decide_eq_false hw]
  simp
structure uG(cs:List In)(nx:Nat->List Nat)(R:Nat)(m0 m:Nat->Nat->Bool)(fl:Bool)(q:Nat):Prop where
 live:∀i r,m i r=true->bn cs nx i (r:Int)
 no:fl=false->m=m0/\∀i,q<=i->i<cs.length->lq cs nx R m0 i
 yes:fl=true->iW m0 R (cs.length+1)<iW m R (cs.length+1)
structure kP(cs:List In)(nx:Nat->List Nat)(R:Nat)(m0 m:Nat->Nat->Bool)(fl:Bool)(p c:Nat):Prop where
 live:∀i r,m i r=true->bn cs nx i (r:Int)
 no:fl=false->m=m0/\(∀i,p+1<=i->i<cs.length->lq cs nx R m0 i)/\∀r,r<c->pV cs nx m0 p r (nx p).length=true->m0 p r=true
 yes:fl=true->iW m0 R (cs.length+1)<iW m R (cs.length+1)
theorem uG.row{cs:List In}{nx:Nat->List Nat}{R:Nat}{m0 m:Nat->Nat->Bool}{fl:Bool}{p:Nat}(h:uG cs nx R m0 m fl (p+1)):kP cs nx R m0 m fl p 0:=
 ⟨h.live,λhf=>⟨(h.no hf).1,(h.no hf).2,λr hr=>by omega⟩,h.yes⟩
theorem kP.pass{cs:List In}{nx:Nat->List Nat}{R:Nat}{m0 m:Nat->Nat->Bool}{fl:Bool}{p:Nat}(h:kP cs nx R m0 m fl p R):uG cs nx R m0 m fl p:=
 ⟨h.live,λhf=>⟨(h.no hf).1,λi hi hl=>by
  by_cases e:i=p
  ·subst e;exact(h.no hf).2.2
  ·exact(h.no hf).2.1 i (by omega) hl⟩,h.yes⟩
theorem kP.skip{cs:List In}{nx:Nat->List Nat}{R:Nat}{m0 m:Nat->Nat->Bool}{fl:Bool}{p c:Nat}(h:kP cs nx R m0 m fl p c)(hs:pV cs nx m p c (nx p).length=true->m p c=true):kP cs nx R m0 m fl p (c+1):=
 ⟨h.live,λhf=>by
  obtain⟨rfl,h2,h3⟩:=h.no hf
  refine⟨rfl,h2,λr hr=>?_⟩
  by_cases e:r=c
  ·subst e;exact hs
  ·exact h3 r (by omega),h.yes⟩
theorem kP.put{cs:List In}{nx:Nat->List Nat}{R:Nat}{m0 m:Nat->Nat->Bool}{fl:Bool}{p c:Nat}(h:kP cs nx R m0 m fl p c)(hp:p<cs.length)(hc:c<R)(hs:pV cs nx m p c (nx p).length=true)(hn:m p c=false):kP cs nx R m0 (d8 m p c true) true p (c+1):=by
 refine⟨λi r hm=>?_,λhf=>(by cases hf),λ_=>?_⟩
 ·unfold d8 at hm
  split at hm
  ·rename_i e
   obtain⟨rfl,rfl⟩:=e
   exact qK h.live hp (Nat.le_refl _) hs
  ·exact h.live i r hm
 ·rw[rm hc hn (by omega)]
  cases hfl:fl with
  |true=>have:=h.yes hfl;omega
  |false=>obtain⟨rfl,_⟩:=h.no hfl;omega
def lM(R i _j:Nat):AV:= .os i R
theorem far{j c:Nat}(h:j<100000)(hc:100000<=c):(j=c)=False:=by simp;omega
theorem kJ{j:Nat}(h:j<100000):(j=100000)=False/\(j=100001)=False/\(j=100002)=False/\(j=100003)=False/\(j=100004)=False/\(j=100005)=False:=⟨far h (by decide),far h (by decide),far h (by decide),far h (by decide),far h (by decide),far h (by decide)⟩
theorem ej(ob:Nat->Option OB)(fam:Nat->AB)(k j:Nat)(hk:k<=100000)(hj:j<k)(hl:(fam j).live=true)(a b:AB):(eG ob k fam [a,b]).at j=some (fam j):=Aa hk hj hl _ (by simp)
theorem BV{k:Nat}:∀i j,i<k->j<k->id i=id j->i=j:=λ_ _ _ _ h=>h
theorem sd{r:Nat->Option Nat}{M:List Nat}{H:AH}{b ty R n:Nat}(hM:M.contains b=false)(hx:H.at b=some (aD ty 1 n 0 (lM R)))(hr:∀j,j<n->r j=some j):dg r M H b (aD ty 1 n 0 (lM R)):=
 ⟨_,hx,rfl,rfl,rfl,rfl,.inl rfl,by rw[if_neg (by simpa using hM)];exact Nat.le_refl _,λi hi=>by
  have hi':i<n:=by rw[ew] at hi;omega
  have:=aL (ty:=ty) (n:=n) (z:=0) (row:=lM R) i 0 (by decide:0<1)
  rw[Nat.mul_one,Nat.add_zero] at this
  rw[this]
  exact .os (hr i hi')⟩
theorem Q3{r:Nat->Option Nat}{H:AH}{b ty R n v:Nat}(hx:H.at b=some ((aD ty 1 n 0 (lM R)).app n (.li [.os v R])))(hn:n<900000)(hr:∀j,j<n->r j=some j)(hv:r n=some v):dg r [] H b (aD ty 1 (n+1) 0 (lM R)):=
 ⟨_,hx,(Ac (aD ty 1 n 0 (lM R)) _ _).symm,(uB (aD ty 1 n 0 (lM R)) _ _).symm,(uA (aD ty 1 n 0 (lM R)) _ _).symm,rfl,.inl (by rw[app_size,ew,Nat.mul_one];rfl),by rw[cy];exact Nat.le_refl _,λi hi=>by
  have hi':i<n+1:=by rw[ew] at hi;omega
  have e2:∀n,(aD ty 1 n 0 (lM R)).get i= .os i R:=λn=>by
   have:=aL (ty:=ty) (n:=n) (z:=0) (row:=lM R) i 0 (by decide:0<1)
   rw[Nat.mul_one,Nat.add_zero] at this
   exact this
  rw[da _ _ _ (by omega) _ hi',e2 (n+1)]
  by_cases e:i<n
  ·rw[if_pos e,e2 n];exact .os (hr i e)
  ·obtain rfl:i=n:=by omega
   rw[if_neg e];exact .os hv⟩
theorem Rs{r:Nat->Option Nat}{H:AH}{b ty R:Nat}{m:Nat->Nat->Bool}{j:Nat}(hx:H.at b=some (aD ty 1 R 0 (λ_ j=>[AV.b false][j]?.getD .u)))(hm:∀c,m j c=false:=by intros;rfl):dg r [] H b (dH ty R m j):=
 .rows hx rfl rfl rfl (Nat.le_refl _) (Nat.le_refl _) (by decide) (λc q hc hq=>by obtain rfl:q=0:=(by omega);rw[aL _ _ hq,hm c];rfl) (λc q hc hq=>rfl)
abbrev mN(pr:List Int)(n:Nat):List (Nat×AV):=[(1,.p 100000 0),(3,.fs 1 pr.length (iC .i64 pr)),(6,.n .i64 n),(7,.os 100001 (n+1))]
abbrev wD(la:List (Bool×Int))(par:Int)(cs:List In)(R:Nat)(m:Nat->Nat->Bool):AH:=eG (λ_=>none) (cs.length+1) (dH 4 R m) [aD 55 1 (cs.length+1) 0 (lM R),aK 0 25 [.fs 2 la.length (aC la),.n .i64 R,.n .i64 par,.fs 5 cs.length (cC cs)]]
theorem cM{la:List (Bool×Int)}{par:Int}{cs:List In}{R:Nat}{m:Nat->Nat->Bool}{n:Nat}{e:Tr AV}{L:List (Nat×AV)}(hn:cs.length<=16384)(he:aX (rF (cs.length+1) id [100001,100000]) [] (wD la par cs R m) e L):Wk n e (wD la par cs R m) (az L) (wD la par cs R m):=by
 refine Wk.mkF id [100001,100000] [] (by omega) he ?_ (by simp) (λj hj=>?_) BV (λj hj=>?_) (λq x hq=>(by cases hq))
 ·exact .cons rfl (sd rfl (by simp only[go_sem,simprocAttr]) (λj hj=>f9 (by omega) hj)) (.cons rfl (.ls (hx:=by simp only[go_sem,simprocAttr])) .nil)
 ·exact .mat (m:=m) (j:=j) (ej _ _ _ _ (by omega) hj rfl _ _) (λ_ _=>rfl)
 ·simp only[id]
  obtain⟨f0,f1,_⟩:=kJ (show j<100000 by omega)
  simp[f0,f1]
theorem IB{la:List (Bool×Int)}{par:Int}{cs:List In}{R:Nat}{m:Nat->Nat->Bool}{n p c:Nat}{e:Tr AV}{L:List (Nat×AV)}(hn:cs.length<=16384)(hR:R<=2000)(hp:p<cs.length+1)(hc:c<R)(he:aX (rF (cs.length+1) id [100001,100000]) [] ((wD la par cs R m).upd p ((dH 4 R m p).putN c [.b true])) e L):Wk n e ((wD la par cs R m).upd p ((dH 4 R m p).putN c [.b true])) (az L) (wD la par cs R (d8 m p c true)):=by
 obtain⟨f0,f1,_⟩:=kJ (show p<100000 by omega)
 have g0:(100000=p)=False:=by simp;omega
 have g1:(100001=p)=False:=by simp;omega
 have hp6:p<1000000:=by omega
 refine Wk.mkF id [100001,100000] [] (by omega) he ?_ (by simp) (λj hj=>?_) BV (λj hj=>?_) (λq x hq=>(by cases hq))
 ·exact .cons rfl (sd rfl (by simp only[hp6,g0,g1,go_sem,simprocAttr]) (λj hj=>f9 (by omega) hj)) (.cons rfl (.ls (hx:=by simp only[hp6,g0,g1,go_sem,simprocAttr])) .nil)
 ·by_cases e:j=p
  ·subst e
   refine .matp (m:=m) (j:=j) (c0:=c) (v:=true) ?_ (by omega) hc (λd hd=>?_)
   ·show AH.at _ j=_
    rw[dR hp6,if_pos rfl];rfl
   ·unfold d8
    by_cases e2:d=c<;>simp[e2]
  ·refine .mat (m:=m) (j:=j) ?_ (λd hd=>?_)
   ·show AH.at _ j=_
    rw[dR hp6,if_neg e]
    exact ej _ _ _ _ (by omega) hj rfl _ _
   ·unfold d8
    rw[if_neg (λh=>e h.1)]
 ·simp only[id]
  obtain⟨f0,f1,_⟩:=kJ (show j<100000 by omega)
  simp[f0,f1]
theorem IX(la:List (Bool×Int))(par:Int)(cs:List In)(R:Nat)(hR2:R<=2000)(hn:cs.length<=16384)(pr:List Int)(nx:Nat->List Nat)(m0 m:Nat->Nat->Bool)(fl:Bool)(p c:Nat)(hp:p<cs.length)(hc:c<R)(hnx:∀k ∈ nx p,k<=cs.length)(hnl:(nx p).length<=2)(hrl:(r6 cs p).length<=1000)(h:kP cs nx R m0 m fl p c)
  (Q:AE->Tr AV->AH->Prop) (hQ:∀(m':Nat->Nat->Bool) (fl':Bool) e' H',kP cs nx R m0 m' fl' p (c+1)->Wk 110 e' H' (az ((14,.n .i64 c)::(13,gC nx p 0)::(12,.n .i64 (IA cs p))::(11,.fs 1 (r6 cs p).length (iC .i64 (r6 cs p)))::(10,.n .i64 p)::(9,.b fl')::mN pr cs.length)) (wD la par cs R m')->Q .normal e' H'):
  GA Try.prog 110 (aE Try.prog 40) wT (az ((14,.n .i64 c)::(13,gC nx p 0)::(12,.n .i64 (IA cs p))::(11,.fs 1 (r6 cs p).length (iC .i64 (r6 cs p)))::(10,.n .i64 p)::(9,.b fl)::mN pr cs.length)) (wD la par cs R m) Q:=by
 have hadd:∀j:Nat,j<100000->IntKind.wrap .i64 ((j:Int)+1)=((j+1:Nat):Int):=λj hj=>by rw[aJ (by omega)];omega
 have hgC:gC nx p 0= .fs 1 (nx p).length (λj _=> .n .i64 (((nx p).getD j 0:Nat):Int)):=rfl
 repeat first|with_reducible refine aw ?_|simp only[go_sem,simprocAttr]
 refine ao [] (.cons (.rfl (by rfl)) (.cons (.rfl (by rfl)) .nil)) (qk (r6 cs p) (by omega) (c:Int)) (by simp only[AH.mark_next,ae,au,av,am,ah,aj,af,ai,ag,List.length_cons,List.length_nil];decide) ?_
 repeat first|with_reducible refine aw ?_|simp only[go_sem,simprocAttr]
 refine GA.loop (I:=λmm e H=>∃(q:Nat),mm=(nx p).length-q/\q<=(nx p).length/\e=az ((16,.n .i64 q)::(15,.b (pV cs nx m p c q))::(14,.n .i64 c)::(13,gC nx p 0)::(12,.n .i64 (IA cs p))::(11,.fs 1 (r6 cs p).length (iC .i64 (r6 cs p)))::(10,.n .i64 p)::(9,.b fl)::mN pr cs.length)/\H=wD la par cs R m)
  (cM hn ?_) ⟨0,rfl,Nat.zero_le _,rfl,rfl⟩ ?_
 ·simp only[aX,aV,mN,go_sem,simprocAttr]
  repeat' refine aa ?_ ?_
  all_goals first|exact ba|skip
  all_goals exact Wv.same rfl
 rintro mm e H ⟨q,rfl,hq,rfl,rfl⟩
 repeat first|with_reducible refine aw ?_|simp only[hgC,go_sem,simprocAttr]
 refine⟨λhlt=>?_,λhlt=>?_⟩
 ·have hql:q<(nx p).length:=by omega
  have hq0:(0:Int)<=(q:Int):=by omega
  have ha:=hadd q (by omega)
  have hk:(nx p).getD q 0<=cs.length:=hnx _ (by rw[List.getD_eq_getElem?_getD,List.getElem?_eq_getElem hql];exact List.getElem_mem _)
  have his:pV cs nx m p c (q+1)=(pV cs nx m p c q||(m ((nx p).getD q 0) c&& !decide ((c:Int)=IA cs p))):=rfl
  obtain⟨k,hkq⟩:∃k,(nx p).getD q 0=k:=⟨_,rfl⟩
  rw[hkq] at hk his
  have hk0:(0:Int)<=(k:Int):=by omega
  have hk1:(k:Int)<((cs.length+1:Nat):Int):=by omega
  have hk2:k<cs.length+1:=by omega
  have hc0:(0:Int)<=(c:Int):=by omega
  have hc1:(c:Int)<(R:Int):=by omega
  have hat:=ej (λ_=>none) (dH 4 R m) (cs.length+1) k (by omega) hk2 rfl
  have hos:(aD 55 1 (cs.length+1) 0 (lM R)).get k= .os k R:=by
   have:=aL (ty:=55) (n:=cs.length+1) (z:=0) (row:=lM R) k 0 (by decide:0<1)
   rw[Nat.mul_one,Nat.add_zero] at this
   exact this
  have hge:=fv 4 R m k c
  have hsz:=dM 4 R m k
  cases hA:pV cs nx m p c q with
  |true=>
   rw[hA] at his
   repeat first|with_reducible refine aw ?_|simp only[hA,ha,go_sem,simprocAttr]
   refine⟨_,_,_,?_,cM hn ?_,q+1,rfl,by omega,rfl,rfl⟩
   ·omega
   ·rw[his]
    simp only[aX,aV,mN,hgC,Bool.true_or,go_sem,simprocAttr]
    repeat' refine aa ?_ ?_
    all_goals first|exact ba|skip
    all_goals exact Wv.same rfl
  |false=>
   rw[hA] at his
   cases hm:m k c with
   |true=>
    rw[hm] at hge his
    repeat first|with_reducible refine aw ?_|simp only[hA,ha,hq0,hlt,hkq,hk0,hk1,hk2,hc0,hc1,hc,hat,hos,hge,hsz,decide_true,go_sem,simprocAttr]
    refine⟨_,_,_,?_,cM hn ?_,q+1,rfl,by omega,rfl,rfl⟩
    ·omega
    ·rw[his]
     simp only[aX,aV,mN,hgC,Bool.false_or,Bool.true_and,go_sem,simprocAttr]
     repeat' refine aa ?_ ?_
     all_goals first|exact ba|skip
     all_goals exact Wv.same rfl
   |false=>
    rw[hm] at hge his
    repeat first|with_reducible refine aw ?_|simp only[hA,ha,hq0,hlt,hkq,hk0,hk1,hk2,hc0,hc1,hc,hat,hos,hge,hsz,decide_true,go_sem,simprocAttr]
    refine⟨_,_,_,?_,cM hn ?_,q+1,rfl,by omega,rfl,rfl⟩
    ·omega
    ·rw[his]
     simp only[aX,aV,mN,hgC,Bool.false_or,Bool.false_and,go_sem,simprocAttr]
     repeat' refine aa ?_ ?_
     all_goals first|exact ba|skip
     all_goals exact Wv.same rfl
 ·have hqq:q=(nx p).length:=by omega
  subst hqq
  have hp0:(0:Int)<=(p:Int):=by omega
  have hp1:(p:Int)<((cs.length+1:Nat):Int):=by omega
  have hp2:p<cs.length+1:=by omega
  have hp6:p<1000000:=by omega
  have hc0:(0:Int)<=(c:Int):=by omega
  have hc1:(c:Int)<(R:Int):=by omega
  have hc2:c+1<=R:=hc
  have hat:=ej (λ_=>none) (dH 4 R m) (cs.length+1) p (by omega) hp2 rfl
  have hos:(aD 55 1 (cs.length+1) 0 (lM R)).get p= .os p R:=by
   have:=aL (ty:=55) (n:=cs.length+1) (z:=0) (row:=lM R) p 0 (by decide:0<1)
   rw[Nat.mul_one,Nat.add_zero] at this
   exact this
  have hge:=fv 4 R m p c
  have hsz:=dM 4 R m p
  have hfz:=js 4 R m p
  cases hA:pV cs nx m p c (nx p).length with
  |false=>
   repeat first|with_reducible refine aw ?_|simp only[hA,go_sem,simprocAttr]
   refine hQ m fl _ _ (h.skip (λh2=>(by rw[hA] at h2;cases h2))) (cM hn ?_)
   simp only[aX,aV,mN,go_sem,simprocAttr]
   repeat' refine aa ?_ ?_
   all_goals first|exact ba|skip
   all_goals exact Wv.same rfl
  |true=>
   cases hm:m p c with
   |true=>
    rw[hm] at hge
    repeat first|with_reducible refine aw ?_|simp only[hA,hp0,hp1,hp2,hc0,hc1,hc,hat,hos,hge,hsz,decide_true,go_sem,simprocAttr]
    refine hQ m fl _ _ (h.skip (λ_=>hm)) (cM hn ?_)
    simp only[aX,aV,mN,go_sem,simprocAttr]
    repeat' refine aa ?_ ?_
    all_goals first|exact ba|skip
    all_goals exact Wv.same rfl
   |false=>
    rw[hm] at hge
    repeat first|with_reducible refine aw ?_|simp only[hA,hp0,hp1,hp2,hp6,hc0,hc1,hc2,hc,hat,hos,hge,hsz,hfz,decide_true,go_sem,simprocAttr]
    refine hQ (d8 m p c true) true _ _ (h.put hp hc hA hm) (IB hn hR2 hp2 hc ?_)
    simp only[aX,aV,mN,go_sem,simprocAttr]
    repeat' refine aa ?_ ?_
    all_goals first|exact ba|skip
    all_goals exact Wv.same rfl
theorem nw(la:List (Bool×Int))(par:Int)(cs:List In)(R:Nat)(hR2:R<=2000)(hn:cs.length<=16384)(pr:List Int)(hpr:pr.length=cs.length)(pt:Nat->Nat)(p2 p3:AV)(hp2:p2.pu 3=true)(hp3:p3.pu 3=true)
  (hpt:bA Try.prog 23 [.fs 5 cs.length (cC cs)] [.v (.fs 1 pr.length (iC .i64 pr)),.v p2,.v p3])
  (hpb:∀i,i<cs.length->dN (bS cs i)->pr.getD i 0=(pt i:Int)/\pt i<cs.length)
  (hops:∀x ∈ cs,0<=x.1/\x.1<39) (hR:∀x ∈ cs,∀r ∈ aF x.1 x.2.2.1 x.2.2.2.1,0<=r/\r<(R:Int)):
  bA Try.prog 40 [ax la.length (aC la) R par cs] [.v (.fs 1 (cs.length+1) (λi _=> .fs 1 R (bC (ib cs (bO cs pt) i))))]:=by
 have hadd:∀j:Nat,j<100000->IntKind.wrap .i64 ((j:Int)+1)=((j+1:Nat):Int):=λj hj=>by rw[aJ (by omega)];omega
 have hsub:∀j:Int,0<=j->j<100000->IntKind.wrap .i64 (j-1)=j-1:=λj h0 hj=>aJ (by omega)
 have hR0:(0:Int)<=(R:Int):=by omega
 have hR1:(R:Int)<=16777216:=by omega
 have hR3:1*R<=140737488355328:=by omega
 have hR4:R<1099511627776:=by omega
 have hR5:R<=140737488355328:=by omega
 refine sO (by rfl) (aB aW M5 ⟨by simp,by decide⟩ ?_)
 simp only[bt,ax]
 repeat first|with_reducible refine aw ?_|simp only[go_sem,simprocAttr]
 refine ao [] (.cons (.rfl (by rfl)) .nil) hpt (by simp only[AH.mark_next,ae,au,av,am,ah,aj,af,ai,ag,List.length_cons,List.length_nil];decide) ?_
 repeat first|with_reducible refine aw ?_|simp only[go_sem,simprocAttr]
 refine GA.wk (Wk.nil 7 1 55 (by simp only[go_sem,simprocAttr]) (by decide) (by simp only[go_sem,simprocAttr])) ?_
 refine GA.loop (I:=λmm e H=>∃(i:Nat),mm=cs.length+1-i/\i<=cs.length+1/\e=az [(1,.p 100000 0),(3,.fs 1 pr.length (iC .i64 pr)),(6,.n .i64 cs.length),(7,.os 100001 i),(8,.n .i64 i)]/\H=eG (λ_=>none) i (dH 4 R (λ_ _=>false)) [aD 55 1 i 0 (lM R),aK 0 25 [.fs 2 la.length (aC la),.n .i64 R,.n .i64 par,.fs 5 cs.length (cC cs)]])
  (Wk.mkF id [1,0] [] (Nat.zero_le _) ?_ ?_ ?_ (λj hj=>absurd hj (Nat.not_lt_zero _)) BV (λj hj=>absurd hj (Nat.not_lt_zero _)) (λq x hq=>(by cases hq))) ⟨0,rfl,Nat.zero_le _,rfl,rfl⟩ ?_
 ·simp only[aX,aV,go_sem,simprocAttr]
  repeat' refine aa ?_ ?_
  all_goals first|exact ba|skip
 ·exact .cons rfl (.rows (x:=_) (by simp only[go_sem,simprocAttr];rfl) (by rfl) (by rfl) (by rfl) (by show 0*1<=0;decide) (by exact Nat.le_refl _) (by decide) (λi j hi=>absurd (show i<0 from hi) (Nat.not_lt_zero _)) (λi j hi=>absurd (show i<0 from hi) (Nat.not_lt_zero _))) (.cons rfl .ls .nil)
 ·simp
 rintro mm e H ⟨i,rfl,hi,rfl,rfl⟩
 repeat first|with_reducible refine aw ?_|simp only[go_sem,simprocAttr]
 refine⟨λh=>?_,λh=>?_⟩
 ·have hil:i<=cs.length:=by omega
  have ha:=hadd i (by omega)
  have hl1:i+1<1099511627776:=by omega
  have hl2:(i+1)*24<=140737488355328:=by omega
  have hl3:i<=9223372036854775806:=by omega
  repeat first|with_reducible refine aw ?_|simp only[hR0,hR1,hR3,hR4,hR5,ha,hl1,hl2,hl3,Int.le_refl,decide_true,go_sem,simprocAttr]
  refine⟨_,_,_,?_,Wk.mkF (λj=>if j=i then 100002 else j) [100004,100000] [] (k:=i+1) (by omega) ?_ ?_ ?_ (λj hj=>?_) (λj1 j2 h1 h2 he=>?_) (λj hj=>?_) (λq x hq=>(by cases hq)),i+1,rfl,by omega,rfl,rfl⟩
  ·omega
  ·simp only[aX,aV,go_sem,simprocAttr]
   repeat' refine aa ?_ ?_
   all_goals first|exact ba|skip
  ·exact .cons rfl (Q3 (v:=100002) (by simp only[go_sem,simprocAttr]<;>rfl) (by omega) (λj hj=>by rw[f9 (by omega) (by omega),if_neg (by omega)]) (by rw[f9 (by omega) (by omega),if_pos rfl])) (.cons rfl .ls .nil)
  ·simp
  ·by_cases e:j=i
   ·subst e
    rw[if_pos rfl]
    exact Rs (by simp only[go_sem,simprocAttr]<;>rfl)
   ·rw[if_neg e]
    have hat:=ej (λ_=>none) (dH 4 R (λ_ _=>false)) i j (by omega) (show j<i by omega) rfl
    obtain⟨f0,f1,f2,f3,f4,f5⟩:=kJ (show j<100000 by omega)
    exact .mat (m:=λ_ _=>false) (j:=j) (by simp only[hat,f0,f1,f2,f3,f4,f5,go_sem,simprocAttr]) (λ_ _=>rfl)
  ·by_cases e1:j1=i<;>by_cases e2:j2=i<;>simp only[e1,e2,if_true,if_false] at he<;>omega
  ·by_cases e:j=i<;>simp[e]<;>omega
 ·have hie:i=cs.length+1:=by omega
  subst hie
  repeat first|with_reducible refine aw ?_|simp only[go_sem,simprocAttr]
  have hrdl:∀i,(r6 cs i).length<=1000:=λi=>by unfold r6 aF;(repeat' split)<;>simp
  have hnxl:∀i,(bO cs pt i).length<=2:=λi=>by unfold bO;(repeat' split)<;>simp
  have hnxb:∀i,i<cs.length->∀k ∈ bO cs pt i,k<=cs.length:=λi hi k hk=>by
   have hb:=hpb i hi
   unfold bO at hk
   unfold dN at hb
   split at hk
   ·have:=(hb (by omega)).2;simp at hk;omega
   split at hk
   ·have:=(hb (by omega)).2;simp at hk;omega
   split at hk
   ·have:=(hb (by omega)).2
    split at hk<;>simp at hk<;>omega
   ·simp at hk;omega
  refine GA.loop (I:=λmm e H=>∃(m:Nat->Nat->Bool) (fl:Bool),mm=2*((cs.length+1)*R-iW m R (cs.length+1))+(if fl then 1 else 0)/\(∀i r,m i r=true->bn cs (bO cs pt) i (r:Int))/\(fl=false->∀i,i<cs.length->lq cs (bO cs pt) R m i)/\e=az ((9,.b fl)::mN pr cs.length)/\H=wD la par cs R m)
   (cM hn ?_) ⟨λ_ _=>false,true,rfl,λi r h=>(by cases h),λh=>(by cases h),rfl,rfl⟩ ?_
  ·simp only[aX,aV,mN,go_sem,simprocAttr]
   repeat' refine aa ?_ ?_
   all_goals first|exact ba|skip
   all_goals exact Wv.same rfl
  rintro mm e H ⟨m,fl,rfl,hlive,hcl,rfl,rfl⟩
  repeat first|with_reducible refine aw ?_|simp only[go_sem,simprocAttr]
  refine⟨λhf=>?_,λhf=>?_⟩
  ·subst hf
   have hs0:IntKind.wrap .i64 ((cs.length:Int)-1)=(cs.length:Int)-1:=aJ (by omega)
   repeat first|with_reducible refine aw ?_|simp only[hs0,go_sem,simprocAttr]
   refine GA.loop (I:=λmm e H=>∃(p:Nat) (m':Nat->Nat->Bool) (fl:Bool),mm=0+p/\p<=cs.length/\uG cs (bO cs pt) R m m' fl p/\e=az ((10,.n .i64 ((p:Int)-1))::(9,.b fl)::mN pr cs.length)/\H=wD la par cs R m')
    (cM hn ?_) ⟨cs.length,m,false,rfl,Nat.le_refl _,⟨hlive,λ_=>⟨rfl,λi h1 h2=>by omega⟩,λh=>(by cases h)⟩,rfl,rfl⟩ ?_
   ·simp only[aX,aV,mN,go_sem,simprocAttr]
    repeat' refine aa ?_ ?_
    all_goals first|exact ba|skip
    all_goals exact Wv.same rfl
   rintro mm e H ⟨p,m',fl,rfl,hp,hP,rfl,rfl⟩
   repeat first|with_reducible refine aw ?_|simp only[go_sem,simprocAttr]
   refine⟨λh0=>?_,λh0=>?_⟩
   ·obtain⟨p,rfl⟩:∃p',p=p'+1:=⟨p-1,by omega⟩
    have hpn:p<cs.length:=by omega
    have hpe:((p+1:Nat):Int)-1=(p:Int):=by omega
    have hp0:(0:Int)<=(p:Int):=by omega
    have hp1:(p:Int)<(cs.length:Int):=by omega
    have hs:=hsub (p:Int) (by omega) (by omega)
    have hcc0:=te cs p
    have hcc1:=zP cs p
    have hcc2:=zO cs p
    have hcc3:=zN cs p
    have hcc4:=zM cs p
    have hxm:cs.getD p (0,0,0,0,0) ∈ cs:=by rw[List.getD_eq_getElem?_getD,List.getElem?_eq_getElem hpn];exact List.getElem_mem hpn
    have hru:=de (jT (cs.getD p (0,0,0,0,0)).1 (cs.getD p (0,0,0,0,0)).2.1 (cs.getD p (0,0,0,0,0)).2.2.1 (cs.getD p (0,0,0,0,0)).2.2.2.1 (cs.getD p (0,0,0,0,0)).2.2.2.2 (hops _ hxm)) (by rfl)
    simp only[List.map_cons,List.map_nil,RT.fz] at hru
    repeat first|with_reducible refine aw ?_|simp only[hpe,hp0,hp1,hcc0,hcc1,hcc2,hcc3,hcc4,decide_true,go_sem,simprocAttr]
    refine ao [] (.cons (.rfl (by rfl)) .nil) hru (by simp only[AH.mark_next,ae,au,av,am,ah,aj,af,ai,ag,List.length_cons,List.length_nil];decide) ?_
    repeat first|with_reducible refine aw ?_|simp only[go_sem,simprocAttr]
    refine ao [] (.cons (.rfl (by rfl)) (.cons (.rfl (by rfl)) (.cons (.rfl (by rfl)) .nil))) (nv cs hn pr hpr pt p hpn (hpb p hpn)) (by simp only[AH.mark_next,ae,au,av,am,ah,aj,af,ai,ag,List.length_cons,List.length_nil];decide) ?_
    repeat first|with_reducible refine aw ?_|simp only[go_sem,simprocAttr]
    refine GA.loop (I:=λmm e H=>∃(c:Nat) (m2:Nat->Nat->Bool) (fl:Bool),mm=R-c/\c<=R/\kP cs (bO cs pt) R m m2 fl p c/\e=az ((14,.n .i64 c)::(13,gC (bO cs pt) p 0)::(12,.n .i64 (IA cs p))::(11,.fs 1 (r6 cs p).length (iC .i64 (r6 cs p)))::(10,.n .i64 p)::(9,.b fl)::mN pr cs.length)/\H=wD la par cs R m2)
     (cM hn ?_) ⟨0,m',fl,rfl,Nat.zero_le _,hP.row,rfl,rfl⟩ ?_
    ·simp only[aX,aV,mN,go_sem,simprocAttr]
     repeat' refine aa ?_ ?_
     all_goals first|exact ba|skip
     all_goals exact Wv.same rfl
    rintro mm e H ⟨c,m2,fl2,rfl,hc,hrow,rfl,rfl⟩
    repeat first|with_reducible refine aw ?_|simp only[go_sem,simprocAttr]
    refine⟨λh1=>?_,λh1=>?_⟩
    ·have hcl:c<R:=by omega
     have ha:=hadd c (by omega)
     (try simp only[go_sem,simprocAttr])
     iterate 1 (with_reducible refine GA.go aW rfl ?_;try simp only[go_sem,simprocAttr])
     refine GA.seq ?_
     refine GA.block ?_
     refine GA.wk (cM (L:=(14,.n .i64 c)::(13,gC (bO cs pt) p 0)::(12,.n .i64 (IA cs p))::(11,.fs 1 (r6 cs p).length (iC .i64 (r6 cs p)))::(10,.n .i64 p)::(9,.b fl2)::mN pr cs.length) hn ?_) ?_
     ·simp only[aX,aV,mN,go_sem,simprocAttr]
      repeat' refine aa ?_ ?_
      all_goals first|exact ba|skip
      all_goals exact Wv.same rfl
     refine IX la par cs R hR2 hn pr (bO cs pt) m m2 fl2 p c hpn hcl (hnxb p hpn) (hnxl p) (hrdl p) hrow _ (λm3 fl3 e' H' hrow' hwk=>?_)
     simp only[go_sem,simprocAttr]
     refine GA.wk hwk ?_
     repeat first|with_reducible refine aw ?_|simp only[ha,go_sem,simprocAttr]
     refine⟨_,_,_,?_,cM hn ?_,c+1,m3,fl3,rfl,by omega,hrow',rfl,rfl⟩
     ·omega
     ·simp only[aX,aV,mN,go_sem,simprocAttr]
      repeat' refine aa ?_ ?_
      all_goals first|exact ba|skip
      all_goals exact Wv.same rfl
    ·have hcR:c=R:=by omega
     subst hcR
     repeat first|with_reducible refine aw ?_|simp only[hs,go_sem,simprocAttr]
     refine⟨_,_,_,?_,cM hn ?_,p,m2,fl2,rfl,by omega,hrow.pass,rfl,rfl⟩
     ·omega
     ·simp only[aX,aV,mN,go_sem,simprocAttr]
      repeat' refine aa ?_ ?_
      all_goals first|exact ba|skip
      all_goals exact Wv.same rfl
   ·have hp0:p=0:=by omega
    subst hp0
    repeat first|with_reducible refine aw ?_|simp only[go_sem,simprocAttr]
    refine⟨_,_,_,?_,cM hn ?_,m',fl,rfl,hP.live,λhf=>?_,rfl,rfl⟩
    ·have h1:=uu m' R (cs.length+1)
     cases fl with
     |true=>have:=hP.yes rfl;simp only[if_true];omega
     |false=>obtain⟨rfl,_⟩:=hP.no rfl;simp
    ·simp only[aX,aV,mN,go_sem,simprocAttr]
     repeat' refine aa ?_ ?_
     all_goals first|exact ba|skip
     all_goals exact Wv.same rfl
    ·obtain⟨rfl,h2⟩:=hP.no hf
     exact λi hi=>h2 i (Nat.zero_le _) hi
  ·subst hf
   have hcl:=hcl rfl
   have hmeq:∀i c,c<R->m i c=ib cs (bO cs pt) i c:=λi c hc=>by
    rw[Bool.eq_iff_iff,kY]
    exact⟨hlive i c,λh=>kG hcl h c hc rfl⟩
   refine GA.wk (Wk.mkO (ob:=λ_=>none) (L:=[(7,.os 0 (cs.length+1))]) (bl:=[aD 55 1 (cs.length+1) 0 (λi _=> .fs 1 R (bC (ib cs (bO cs pt) i)))]) [100001] (List.range (cs.length+1)) ?_ ?_ (by simp) (λq x hq=>(by cases hq))) ?_
   ·simp only[aX,aV,mN,go_sem,simprocAttr]
    repeat' refine aa ?_ ?_
    all_goals first|exact ba|skip
   ·refine .cons rfl ⟨aD 55 1 (cs.length+1) 0 (lM R),by simp only[go_sem,simprocAttr],rfl,rfl,rfl,rfl,.inl rfl,by rw[if_neg (by simp;omega)];exact Nat.le_refl _,λi hi=>?_⟩ .nil
    have hi':i<cs.length+1:=by rw[ew] at hi;omega
    have e2:∀(row:Nat->Nat->AV),(aD 55 1 (cs.length+1) 0 row).get i=row i 0:=λrow=>by
     have:=aL (ty:=55) (n:=cs.length+1) (z:=0) (row:=row) i 0 (by decide:0<1)
     rw[Nat.mul_one,Nat.add_zero] at this
     exact this
    rw[e2,e2]
    refine .cv (.os (x:=dH 4 R m i) (List.mem_range.2 hi') (ej _ _ _ _ (by omega) hi' rfl _ _) (by rw[dM];omega) (λc j hc hj=>?_) (λc j hc hj=>rfl))
    obtain rfl:j=0:=by omega
    rw[Nat.mul_one,Nat.add_zero,fv,hmeq i c hc]
    rfl
   repeat first|with_reducible refine aw ?_|simp only[go_sem,simprocAttr]
   exact⟨[0],.os (x:=aD 55 1 (cs.length+1) 0 (λi _=> .fs 1 R (bC (ib cs (bO cs pt) i)))) (by simp) (by simp only[go_sem,simprocAttr]) (Nat.le_refl _) (λi j hi hj=>aL i j hj) (λi j hi hj=>rfl)⟩
abbrev mS(la:List (Bool×Int))(par:Int)(cs:List In)(R:Nat)(m:Nat->Nat->Bool)(k:Nat):AH:=eG (λ_=>none) k (dH 4 R m) [aD 55 1 k 0 (lM R),aK 0 25 [.fs 2 la.length (aC la),.n .i64 R,.n .i64 par,.fs 5 cs.length (cC cs)]]
theorem QV{la:List (Bool×Int)}{par:Int}{cs:List In}{R k:Nat}{m:Nat->Nat->Bool}{n:Nat}{e:Tr AV}{L:List (Nat×AV)}{lo:Nat}(hn:k<=90000)(he:aX (rF k id [100001,100000]) [] ((mS la par cs R m k).setLow lo) e L):Wk n e ((mS la par cs R m k).setLow lo) (az L) (mS la par cs R m k):=by
 refine Wk.mkF id [100001,100000] [] (by omega) he ?_ (by simp) (λj hj=>?_) BV (λj hj=>?_) (λq x hq=>(by cases hq))
 ·exact .cons rfl (sd rfl (by simp only[go_sem,simprocAttr]) (λj hj=>f9 (by omega) hj)) (.cons rfl (.ls (hx:=by simp only[go_sem,simprocAttr])) .nil)
 ·exact .mat (m:=m) (j:=j) (ej _ _ _ _ (by omega) hj rfl _ _) (λ_ _=>rfl)
 ·simp only[id]
  obtain⟨f0,f1,_⟩:=kJ (show j<100000 by omega)
  simp[f0,f1]
theorem cz{la:List (Bool×Int)}{par:Int}{cs:List In}{R k:Nat}{m:Nat->Nat->Bool}{n:Nat}{e:Tr AV}{L:List (Nat×AV)}(hn:k<=90000)(he:aX (rF k id [100001,100000]) [] (mS la par cs R m k) e L):Wk n e (mS la par cs R m k) (az L) (mS la par cs R m k):=by
 refine Wk.mkF id [100001,100000] [] (by omega) he ?_ (by simp) (λj hj=>?_) BV (λj hj=>?_) (λq x hq=>(by cases hq))
 ·exact .cons rfl (sd rfl (by simp only[go_sem,simprocAttr]) (λj hj=>f9 (by omega) hj)) (.cons rfl (.ls (hx:=by simp only[go_sem,simprocAttr])) .nil)
 ·exact .mat (m:=m) (j:=j) (ej _ _ _ _ (by omega) hj rfl _ _) (λ_ _=>rfl)
 ·simp only[id]
  obtain⟨f0,f1,_⟩:=kJ (show j<100000 by omega)
  simp[f0,f1]
theorem oy{la:List (Bool×Int)}{par:Int}{cs:List In}{R k:Nat}{m:Nat->Nat->Bool}{n p c l1 l2:Nat}{v:Bool}{e:Tr AV}{L:List (Nat×AV)}(hn:k<=90000)(hR:R<=2000)(hp:p<k)(hc:c<R)(he:aX (rF k id [100001,100000]) [] ((((mS la par cs R m k).setLow l1).upd p ((dH 4 R m p).putN c [.b v])).setLow l2) e L):Wk n e ((((mS la par cs R m k).setLow l1).upd p ((dH 4 R m p).putN c [.b v])).setLow l2) (az L) (mS la par cs R (d8 m p c v) k):=by
 obtain⟨f0,f1,_⟩:=kJ (show p<100000 by omega)
 have g0:(100000=p)=False:=by simp;omega
 have g1:(100001=p)=False:=by simp;omega
 have hp6:p<1000000:=by omega
 refine Wk.mkF id [100001,100000] [] (by omega) he ?_ (by simp) (λj hj=>?_) BV (λj hj=>?_) (λq x hq=>(by cases hq))
 ·exact .cons rfl (sd rfl (by simp only[hp6,g0,g1,go_sem,simprocAttr]) (λj hj=>f9 (by omega) hj)) (.cons rfl (.ls (hx:=by simp only[hp6,g0,g1,go_sem,simprocAttr])) .nil)
 ·by_cases e:j=p
  ·subst e
   refine .matp (m:=m) (j:=j) (c0:=c) (v:=v) ?_ (by omega) hc (λd hd=>?_)
   ·show AH.at ((AH.setLow _ _).upd j _) j=_
    rw[dR hp6,if_pos rfl];rfl
   ·unfold d8
    by_cases e2:d=c<;>simp[e2]
  ·refine .mat (m:=m) (j:=j) ?_ (λd hd=>?_)
   ·show AH.at ((AH.setLow _ _).upd p _) j=_
    rw[dR hp6,if_neg e]
    exact ej _ _ _ _ (by omega) hj rfl _ _
   ·unfold d8
    rw[if_neg (λh=>e h.1)]
 ·simp only[id]
  obtain⟨f0,f1,_⟩:=kJ (show j<100000 by omega)
  simp[f0,f1]
def oZ(L:Nat->Bool)(q c:Nat):Bool:= !decide (q=c)&&(L q&&L c)
def cW(L:Nat->Bool)(i s q c:Nat):Bool:=if q<i\/(q=i/\c<s) then oZ L q c else false
theorem vP(L:Nat->Bool)(i s R q c:Nat)(h:R<=s)(hc:c<R):cW L i s q c=cW L (i+1) 0 q c:=by
 unfold cW
 by_cases e:q<i
 ·rw[if_pos (.inl e),if_pos (.inl (by omega))]
 ·by_cases e2:q=i
  ·rw[if_pos (.inr ⟨e2,by omega⟩),if_pos (.inl (by omega))]
  ·rw[if_neg (by omega),if_neg (by omega)]
theorem vO(L:Nat->Bool)(i s q c:Nat):d8 (cW L i s) i s (oZ L i s) q c=cW L i (s+1) q c:=by
 unfold d8 cW
 by_cases e:q=i/\c=s
 ·rw[if_pos e,if_pos (by omega)];obtain⟨rfl,rfl⟩:=e;rfl
 ·rw[if_neg e]
  by_cases e2:q<i\/(q=i/\c<s)
  ·rw[if_pos e2,if_pos (by omega)]
  ·rw[if_neg e2,if_neg (by omega)]
theorem xK(la:List (Bool×Int))(par:Int)(cs:List In)(R:Nat)(hR2:R<=2000)(pr:List Int)(L:Nat->Nat->Bool)(n1:Nat)(hn1:0<n1)(i s:Nat)(hi:i<R)(hs:s<R)
  (Q:AE->Tr AV->AH->Prop) (hQ:∀e' H',Wk 133 e' H' (az [(1,.p 100000 0),(3,.fs 1 n1 (λi _=> .fs 1 R (bC (L i)))),(4,.fs 1 pr.length (iC .i64 pr)),(7,.os 100001 (i+1)),(8,.n .i64 i),(9,.n .i64 s)]) (mS la par cs R (d8 (cW (L 0) i s) i s (oZ (L 0) i s)) (i+1))->Q .normal e' H'):
  GA Try.prog 133 (aE Try.prog 79) wR (az [(40,.b true),(39,.n .i64 R),(38,.p 100000 1),(37,.n .i64 s),(1,.p 100000 0),(3,.fs 1 n1 (λi _=> .fs 1 R (bC (L i)))),(4,.fs 1 pr.length (iC .i64 pr)),(7,.os 100001 (i+1)),(8,.n .i64 i),(9,.n .i64 s)]) (mS la par cs R (cW (L 0) i s) (i+1)) Q:=by
 have hi0:(0:Int)<=(i:Int):=by omega
 have hi1:(i:Int)<((i+1:Nat):Int):=by omega
 have hi2:(i:Int)<(R:Int):=by omega
 have hi3:i<i+1:=by omega
 have hi6:i<1000000:=by omega
 have hs0:(0:Int)<=(s:Int):=by omega
 have hs1:(s:Int)<(R:Int):=by omega
 have hs2:s+1<=R:=hs
 have hn0:(0:Int)<(n1:Int):=by omega
 have hat:=ej (λ_=>none) (dH 4 R (cW (L 0) i s)) (i+1) i (by omega) hi3 rfl
 have hos:(aD 55 1 (i+1) 0 (lM R)).get i= .os i R:=by
  have:=aL (ty:=55) (n:=i+1) (z:=0) (row:=lM R) i 0 (by decide:0<1)
  rw[Nat.mul_one,Nat.add_zero] at this
  exact this
 have hsz:=dM 4 R (cW (L 0) i s) i
 have hfz:=js 4 R (cW (L 0) i s) i
 have hbi:bC (L 0) i 0= .b (L 0 i):=rfl
 have hbs:bC (L 0) s 0= .b (L 0 s):=rfl
 have hv:oZ (L 0) i s=(!decide (i=s)&&(L 0 i&&L 0 s)):=rfl
 by_cases e:i=s
 ·subst e
  have hdd:decide ((i:Int)=(i:Int))=true:=decide_eq_true rfl
  have hv:oZ (L 0) i i=false:=by unfold oZ;simp
  rw[hv] at hQ
  repeat first|with_reducible refine aw ?_|simp only[hi0,hi1,hi3,hi6,hs0,hs1,hs,hs2,hdd,hat,hos,hsz,hfz,decide_true,decide_false,go_sem,simprocAttr]
  refine hQ _ _ (oy (by omega) hR2 hi3 hs ?_)
  simp only[aX,aV,go_sem,simprocAttr]
  repeat' refine aa ?_ ?_
  all_goals first|exact ba|skip
 ·have e':¬(i:Int)=(s:Int):=by omega
  rw[decide_eq_false e] at hv
  cases h1:L 0 i with
  |false=>
   rw[h1] at hbi hv
   have hv:oZ (L 0) i s=false:=hv
   rw[hv] at hQ
   repeat first|with_reducible refine aw ?_|simp only[hi0,hi1,hi2,hi3,hi6,hs0,hs1,hs,hs2,hn0,e',hat,hos,hsz,hfz,hbi,decide_true,decide_false,go_sem,simprocAttr]
   refine hQ _ _ (oy (by omega) hR2 hi3 hs ?_)
   simp only[aX,aV,go_sem,simprocAttr]
   repeat' refine aa ?_ ?_
   all_goals first|exact ba|skip
  |true=>
   rw[h1] at hbi hv
   have hv:oZ (L 0) i s=L 0 s:=hv
   rw[hv] at hQ
   repeat first|with_reducible refine aw ?_|simp only[hi0,hi1,hi2,hi3,hi6,hs0,hs1,hs,hs2,hn0,e',hat,hos,hsz,hfz,hbi,hbs,decide_true,decide_false,go_sem,simprocAttr]
   refine hQ _ _ (oy (by omega) hR2 hi3 hs ?_)
   simp only[aX,aV,go_sem,simprocAttr]
   repeat' refine aa ?_ ?_
   all_goals first|exact ba|skip
def Rx(cs:List In)(nx:Nat->List Nat)(i k r a b:Nat):Prop:=0<=jP cs i/\(r:Int)≠jP cs i/\bn cs nx k (r:Int)/\(((a:Int)=jP cs i/\b=r)\/(a=r/\(b:Int)=jP cs i))
def k9(cs:List In)(nx:Nat->List Nat)(R i q c a b:Nat):Prop:=
 (a≠b/\bn cs nx 0 (a:Int)/\bn cs nx 0 (b:Int))\/(∃i' k r,i'<i/\k ∈ nx i'/\r<R/\Rx cs nx i' k r a b)\/(∃q' r,q'<q/\r<R/\Rx cs nx i ((nx i).getD q' 0) r a b)\/(∃r,r<c/\Rx cs nx i ((nx i).getD q 0) r a b)
section
variable {cs:List In} {nx:Nat->List Nat} {R i q c a b:Nat}
theorem k9.more:k9 cs nx R i q (c+1) a b↔k9 cs nx R i q c a b\/Rx cs nx i ((nx i).getD q 0) c a b:=by
 unfold k9
 constructor
 ·rintro (h|h|h|⟨r,h1,h2⟩)
  ·exact .inl (.inl h)
  ·exact .inl (.inr (.inl h))
  ·exact .inl (.inr (.inr (.inl h)))
  ·by_cases e:r=c
   ·subst e;exact .inr h2
   ·exact .inl (.inr (.inr (.inr ⟨r,by omega,h2⟩)))
 ·rintro ((h|h|h|⟨r,h1,h2⟩)|h)
  ·exact .inl h
  ·exact .inr (.inl h)
  ·exact .inr (.inr (.inl h))
  ·exact .inr (.inr (.inr ⟨r,by omega,h2⟩))
  ·exact .inr (.inr (.inr ⟨c,by omega,h⟩))
theorem k9.row:k9 cs nx R i q R a b↔k9 cs nx R i (q+1) 0 a b:=by
 unfold k9
 constructor
 ·rintro (h|h|⟨q',r,h1,h2,h3⟩|⟨r,h1,h2⟩)
  ·exact .inl h
  ·exact .inr (.inl h)
  ·exact .inr (.inr (.inl ⟨q',r,by omega,h2,h3⟩))
  ·exact .inr (.inr (.inl ⟨q,r,by omega,h1,h2⟩))
 ·rintro (h|h|⟨q',r,h1,h2,h3⟩|⟨r,h1,h2⟩)
  ·exact .inl h
  ·exact .inr (.inl h)
  ·by_cases e:q'=q
   ·subst e;exact .inr (.inr (.inr ⟨r,h2,h3⟩))
   ·exact .inr (.inr (.inl ⟨q',r,by omega,h2,h3⟩))
  ·omega
theorem k9.next(h:q=(nx i).length\/jP cs i<0)(hq:q<=(nx i).length):k9 cs nx R i q 0 a b↔k9 cs nx R (i+1) 0 0 a b:=by
 unfold k9
 constructor
 ·rintro (h|⟨i',k,r,h1,h2,h3,h4⟩|⟨q',r,h1,h2,h3⟩|⟨r,h1,h2⟩)
  ·exact .inl h
  ·exact .inr (.inl ⟨i',k,r,by omega,h2,h3,h4⟩)
  ·exact .inr (.inl ⟨i,(nx i).getD q' 0,r,by omega,by rw[List.getD_eq_getElem?_getD,List.getElem?_eq_getElem (by omega)];exact List.getElem_mem _,h2,h3⟩)
  ·omega
 ·rintro (h0|⟨i',k,r,h1,h2,h3,h4⟩|⟨q',r,h1,h2,h3⟩|⟨r,h1,h2⟩)
  ·exact .inl h0
  ·by_cases e:i'=i
   ·subst e
    rcases h with h|h
    ·obtain⟨q',hq',e⟩:=List.getElem_of_mem h2
     refine .inr (.inr (.inl ⟨q',r,by omega,h3,?_⟩))
     rw[List.getD_eq_getElem?_getD,List.getElem?_eq_getElem hq',e]
     exact h4
    ·have:=h4.1;omega
   ·exact .inr (.inl ⟨i',k,r,by omega,h2,h3,h4⟩)
  ·omega
  ·omega
theorem k9.all(hR:∀x ∈ cs,∀r ∈ aF x.1 x.2.2.1 x.2.2.2.1,0<=r/\r<(R:Int)):k9 cs nx R cs.length 0 0 a b↔fj cs nx (a:Int) (b:Int):=by
 unfold k9 fj
 constructor
 ·rintro (⟨h1,h2,h3⟩|⟨i,k,r,h1,h2,h3,h4,h5,h6,h7⟩|⟨q',r,h1,h2,h3⟩|⟨r,h1,h2⟩)
  ·exact .inl ⟨by omega,h2,h3⟩
  ·refine .inr ⟨i,k,h1,h2,h4,?_⟩
   rcases h7 with⟨e1,rfl⟩|⟨rfl,e2⟩
   ·exact .inl ⟨e1,by omega,h6⟩
   ·exact .inr ⟨e2,by omega,h6⟩
  ·omega
  ·omega
 ·rintro (⟨h1,h2,h3⟩|⟨i,k,h1,h2,h3,⟨h4,h5,h6⟩|⟨h4,h5,h6⟩⟩)
  ·exact .inl ⟨by omega,h2,h3⟩
  ·have:=h6.range hR
   exact .inr (.inl ⟨i,k,b,h1,h2,by omega,h3,by omega,h6,.inl ⟨h4,rfl⟩⟩)
  ·have:=h6.range hR
   exact .inr (.inl ⟨i,k,a,h1,h2,by omega,h3,by omega,h6,.inr ⟨rfl,h4⟩⟩)
end
theorem AQ{la:List (Bool×Int)}{par:Int}{cs:List In}{R k:Nat}{m:Nat->Nat->Bool}{n p c l1 l2:Nat}{e:Tr AV}{L:List (Nat×AV)}(hn:k<=90000)(hR:R<=2000)(hk:k<=R)(hp:p<k)(hc:c<k)(hpc:c≠p)(he:aX (rF k id [100001,100000]) [] (((((mS la par cs R m k).setLow l1).upd p ((dH 4 R m p).putN c [.b true])).upd c ((dH 4 R m c).putN p [.b true])).setLow l2) e L):Wk n e (((((mS la par cs R m k).setLow l1).upd p ((dH 4 R m p).putN c [.b true])).upd c ((dH 4 R m c).putN p [.b true])).setLow l2) (az L) (mS la par cs R (d8 (d8 m p c true) c p true) k):=by
 obtain⟨f0,f1,_⟩:=kJ (show p<100000 by omega)
 have g0:(100000=p)=False:=by simp;omega
 have g1:(100001=p)=False:=by simp;omega
 have g2:(100000=c)=False:=by simp;omega
 have g3:(100001=c)=False:=by simp;omega
 have hp6:p<1000000:=by omega
 have hc6:c<1000000:=by omega
 refine Wk.mkF id [100001,100000] [] (by omega) he ?_ (by simp) (λj hj=>?_) BV (λj hj=>?_) (λq x hq=>(by cases hq))
 ·exact .cons rfl (sd rfl (by simp only[hp6,hc6,g0,g1,g2,g3,go_sem,simprocAttr]) (λj hj=>f9 (by omega) hj)) (.cons rfl (.ls (hx:=by simp only[hp6,hc6,g0,g1,g2,g3,go_sem,simprocAttr])) .nil)
 ·by_cases e:j=c
  ·subst e
   refine .matp (m:=m) (j:=j) (c0:=p) (v:=true) ?_ (by omega) (by omega) (λd hd=>?_)
   ·show AH.at (((AH.setLow _ _).upd p _).upd j _) j=_
    rw[dR hc6,if_pos rfl];rfl
   ·unfold d8
    by_cases e2:d=p
    ·simp[e2]
    ·rw[if_neg e2,if_neg (λh=>e2 h.2),if_neg (λh=>hpc h.1)]
  ·by_cases e3:j=p
   ·subst e3
    refine .matp (m:=m) (j:=j) (c0:=c) (v:=true) ?_ (by omega) (by omega) (λd hd=>?_)
    ·show AH.at (((AH.setLow _ _).upd j _).upd c _) j=_
     rw[dR hc6,if_neg e,dR hp6,if_pos rfl];rfl
    ·show(if d=c then true else m j d)=(if j=c/\d=j then true else if j=j/\d=c then true else m j d)
     rw[if_neg (show ¬(j=c/\d=j) from λh=>e h.1)]
     by_cases e2:d=c<;>simp[e2]
   ·refine .mat (m:=m) (j:=j) ?_ (λd hd=>?_)
    ·show AH.at (((AH.setLow _ _).upd p _).upd c _) j=_
     rw[dR hc6,if_neg e,dR hp6,if_neg e3]
     exact ej _ _ _ _ (by omega) hj rfl _ _
    ·unfold d8
     rw[if_neg (λh=>e h.1),if_neg (λh=>e3 h.1)]
 ·simp only[id]
  obtain⟨f0,f1,_⟩:=kJ (show j<100000 by omega)
  simp[f0,f1]
abbrev pU(pr:List Int)(L:Nat->Nat->Bool)(n1 R i:Nat):List (Nat×AV):=[(1,.p 100000 0),(3,.fs 1 n1 (λi _=> .fs 1 R (bC (L i)))),(4,.fs 1 pr.length (iC .i64 pr)),(7,.os 100001 R),(10,.n .i64 i)]
theorem uV(la:List (Bool×Int))(par:Int)(cs:List In)(R:Nat)(hR2:R<=2000)(hn:cs.length<=16384)(pr:List Int)(nx:Nat->List Nat)(m:Nat->Nat->Bool)(w i q c:Nat)(hw:w<R)(hc:c<R)(hq:q<(nx i).length)(hk:(nx i).getD q 0<=cs.length)
  (Q:AE->Tr AV->AH->Prop) (hQ:∀e' H',Wk 133 e' H' (az ((15,.n .i64 c)::(14,.n .i64 q)::(13,gC nx i 0)::(12,.n .i64 w)::pU pr (ib cs nx) (cs.length+1) R i)) (mS la par cs R (if c≠w/\ib cs nx ((nx i).getD q 0) c=true then d8 (d8 m w c true) c w true else m) R)->Q .normal e' H'):
  GA Try.prog 133 (aE Try.prog 79) wQ (az ((15,.n .i64 c)::(14,.n .i64 q)::(13,gC nx i 0)::(12,.n .i64 w)::pU pr (ib cs nx) (cs.length+1) R i)) (mS la par cs R m R) Q:=by
 have hgC:gC nx i 0= .fs 1 (nx i).length (λj _=> .n .i64 (((nx i).getD j 0:Nat):Int)):=rfl
 obtain⟨k,hkq⟩:∃k,(nx i).getD q 0=k:=⟨_,rfl⟩
 rw[hkq] at hk hQ
 by_cases e:c=w
 ·subst e
  have hdd:decide ((c:Int)=(c:Int))=true:=decide_eq_true rfl
  rw[if_neg (λh=>h.1 rfl)] at hQ
  repeat first|with_reducible refine aw ?_|simp only[hdd,hgC,decide_true,go_sem,simprocAttr]
  refine hQ _ _ (cz (by omega) ?_)
  simp only[aX,aV,pU,go_sem,simprocAttr]
  repeat' refine aa ?_ ?_
  all_goals first|exact ba|skip
  all_goals exact Wv.same rfl
 ·have e':¬(c:Int)=(w:Int):=by omega
  have hq0:(0:Int)<=(q:Int):=by omega
  have hq1:(q:Int)<((nx i).length:Int):=by omega
  have hk0:(0:Int)<=(k:Int):=by omega
  have hk1:(k:Int)<((cs.length+1:Nat):Int):=by omega
  have hc0:(0:Int)<=(c:Int):=by omega
  have hc1:(c:Int)<(R:Int):=by omega
  have hc2:c+1<=R:=hc
  have hw0:(0:Int)<=(w:Int):=by omega
  have hw1:(w:Int)<(R:Int):=by omega
  have hw2:w+1<=R:=hw
  have hc6:c<1000000:=by omega
  have hw6:w<1000000:=by omega
  have hbc:bC (ib cs nx k) c 0= .b (ib cs nx k c):=rfl
  cases hL:ib cs nx k c with
  |false=>
   rw[hL] at hbc
   rw[hL,if_neg (λh=>by cases h.2)] at hQ
   repeat first|with_reducible refine aw ?_|simp only[e',hq0,hq1,hkq,hk0,hk1,hc0,hc1,hgC,hbc,decide_true,decide_false,go_sem,simprocAttr]
   refine hQ _ _ (cz (by omega) ?_)
   simp only[aX,aV,pU,go_sem,simprocAttr]
   repeat' refine aa ?_ ?_
   all_goals first|exact ba|skip
   all_goals exact Wv.same rfl
  |true=>
   rw[hL] at hbc
   rw[hL,if_pos ⟨e,rfl⟩] at hQ
   have hcR:c<100002:=by omega
   have hatw:=ej (λ_=>none) (dH 4 R m) R w (by omega) hw rfl
   have hatc:=ej (λ_=>none) (dH 4 R m) R c (by omega) hc rfl
   have hos:∀j,(aD 55 1 R 0 (lM R)).get j= .os j R:=λj=>by
    have:=aL (ty:=55) (n:=R) (z:=0) (row:=lM R) j 0 (by decide:0<1)
    rw[Nat.mul_one,Nat.add_zero] at this
    exact this
   have hszw:=dM 4 R m w
   have hfzw:=js 4 R m w
   have hszc:=dM 4 R m c
   have hfzc:=js 4 R m c
   repeat first|with_reducible refine aw ?_|simp only[e',hq0,hq1,hkq,hk0,hk1,hc0,hc1,hgC,hbc,hw0,hw1,hw,hc,hos,hatw,hatc,hszw,hszc,hfzw,hfzc,hc2,hw2,hw6,hc6,e,decide_true,decide_false,go_sem,simprocAttr]
   refine hQ _ _ (AQ (by omega) hR2 (Nat.le_refl _) hw hc e ?_)
   simp only[aX,aV,pU,go_sem,simprocAttr]
   repeat' refine aa ?_ ?_
   all_goals first|exact ba|skip
   all_goals exact Wv.same rfl
end Go.Proofs.Yteopfmnnhlhbmaa
namespace Go.Proofs.Yteopfmnnhlhbmaa
open Go.RowKit
noncomputable def lZ(cs:List In)(nx:Nat->List Nat)(a b:Nat):Bool:= @decide (fj cs nx (a:Int) (b:Int)) (Classical.propDecidable _)
theorem jA{cs:List In}{nx:Nat->List Nat}{a b:Nat}:lZ cs nx a b=true↔fj cs nx (a:Int) (b:Int):=by
 unfold lZ
 exact @decide_eq_true_iff _ (Classical.propDecidable _)
theorem xV(cs:List In)(pt:Nat->Nat)(i:Nat):(bO cs pt i).length<=2:=by unfold bO;(repeat' split)<;>simp
theorem tU{cs:List In}{pt:Nat->Nat}{i:Nat}(hi:i<cs.length)(hb:dN (bS cs i)->pt i<cs.length):∀k ∈ bO cs pt i,k<=cs.length:=λk hk=>by
 unfold bO at hk
 unfold dN at hb
 split at hk
 ·have:=hb (by omega);simp at hk;omega
 split at hk
 ·have:=hb (by omega);simp at hk;omega
 split at hk
 ·have:=hb (by omega)
  split at hk<;>simp at hk<;>omega
 ·simp at hk;omega
theorem qj(la:List (Bool×Int))(par:Int)(cs:List In)(R:Nat)(hR2:R<=2000)(hn:cs.length<=16384)(pr:List Int)(hpr:pr.length=cs.length)(pt:Nat->Nat)(p2 p3:AV)(hp2:p2.pu 3=true)(hp3:p3.pu 3=true)
  (hpt:bA Try.prog 23 [.fs 5 cs.length (cC cs)] [.v (.fs 1 pr.length (iC .i64 pr)),.v p2,.v p3])
  (hpb:∀i,i<cs.length->dN (bS cs i)->pr.getD i 0=(pt i:Int)/\pt i<cs.length)
  (hops:∀x ∈ cs,0<=x.1/\x.1<39) (hR:∀x ∈ cs,∀r ∈ aF x.1 x.2.2.1 x.2.2.2.1,0<=r/\r<(R:Int)) (hW:∀x ∈ cs,a6 x.1 x.2.1<(R:Int)):
  bA Try.prog 79 [ax la.length (aC la) R par cs] [.v (.fs 1 R (λi _=> .fs 1 R (bC (lZ cs (bO cs pt) i))))]:=by
 have hadd:∀j:Nat,j<100000->IntKind.wrap .i64 ((j:Int)+1)=((j+1:Nat):Int):=λj hj=>by rw[aJ (by omega)];omega
 have hR0:(0:Int)<=(R:Int):=by omega
 have hR1:(R:Int)<=16777216:=by omega
 have hR3:1*R<=140737488355328:=by omega
 have hR4:R<1099511627776:=by omega
 have hR5:R<=140737488355328:=by omega
 have hlv:=nw la par cs R hR2 hn pr hpr pt p2 p3 hp2 hp3 hpt hpb hops hR
 simp only[ax] at hlv
 generalize hnx:bO cs pt=nx at hlv
 refine sO (by rfl) (aB aW LM ⟨by simp,by decide⟩ ?_)
 simp only[bt,ax]
 repeat first|with_reducible refine aw ?_|simp only[go_sem,simprocAttr]
 refine ao [] (.cons (.rfl (by rfl)) .nil) hlv (by simp only[AH.mark_next,ae,au,av,am,ah,aj,af,ai,ag,List.length_cons,List.length_nil];decide) ?_
 repeat first|with_reducible refine aw ?_|simp only[go_sem,simprocAttr]
 refine ao [] (.cons (.rfl (by rfl)) .nil) hpt (by simp only[AH.mark_next,ae,au,av,am,ah,aj,af,ai,ag,List.length_cons,List.length_nil];decide) ?_
 repeat first|with_reducible refine aw ?_|simp only[go_sem,simprocAttr]
 refine GA.wk (Wk.nil 7 1 55 (by simp only[go_sem,simprocAttr]) (by decide) (by simp only[go_sem,simprocAttr])) ?_
 refine GA.loop (I:=λmm e H=>∃(i:Nat),mm=R-i/\i<=R/\e=az [(1,.p 100000 0),(3,.fs 1 (cs.length+1) (λi _=> .fs 1 R (bC (ib cs nx i)))),(4,.fs 1 pr.length (iC .i64 pr)),(7,.os 100001 i),(8,.n .i64 i)]/\H=mS la par cs R (cW (ib cs nx 0) i 0) i)
  (Wk.mkF id [1,0] [] (Nat.zero_le _) ?_ ?_ ?_ (λj hj=>absurd hj (Nat.not_lt_zero _)) BV (λj hj=>absurd hj (Nat.not_lt_zero _)) (λq x hq=>(by cases hq))) ⟨0,rfl,Nat.zero_le _,rfl,rfl⟩ ?_
 ·simp only[aX,aV,go_sem,simprocAttr]
  repeat' refine aa ?_ ?_
  all_goals first|exact ba|skip
 ·exact .cons rfl (.rows (x:=_) (by simp only[go_sem,simprocAttr];rfl) (by rfl) (by rfl) (by rfl) (by show 0*1<=0;decide) (by exact Nat.le_refl _) (by decide) (λi j hi=>absurd (show i<0 from hi) (Nat.not_lt_zero _)) (λi j hi=>absurd (show i<0 from hi) (Nat.not_lt_zero _))) (.cons rfl .ls .nil)
 ·simp
 rintro mm e H ⟨i,rfl,hi,rfl,rfl⟩
 repeat first|with_reducible refine aw ?_|simp only[go_sem,simprocAttr]
 refine⟨λh=>?_,λh=>?_⟩
 ·have hil:i<R:=by omega
  have ha:=hadd i (by omega)
  have hl1:i+1<1099511627776:=by omega
  have hl2:(i+1)*24<=140737488355328:=by omega
  have hl3:i<=9223372036854775806:=by omega
  repeat first|with_reducible refine aw ?_|simp only[hR0,hR1,hR3,hR4,hR5,hl1,hl2,hl3,Int.le_refl,decide_true,go_sem,simprocAttr]
  refine GA.loop (I:=λmm e H=>∃(s:Nat),mm=R-s/\s<=R/\e=az [(1,.p 100000 0),(3,.fs 1 (cs.length+1) (λi _=> .fs 1 R (bC (ib cs nx i)))),(4,.fs 1 pr.length (iC .i64 pr)),(7,.os 100001 (i+1)),(8,.n .i64 i),(9,.n .i64 s)]/\H=mS la par cs R (cW (ib cs nx 0) i s) (i+1))
   (Wk.mkF (λj=>if j=i then 100002 else j) [100004,100000] [] (k:=i+1) (by omega) ?_ ?_ ?_ (λj hj=>?_) (λj1 j2 h1 h2 he=>?_) (λj hj=>?_) (λq x hq=>(by cases hq))) ⟨0,rfl,Nat.zero_le _,rfl,rfl⟩ ?_
  ·simp only[aX,aV,go_sem,simprocAttr]
   repeat' refine aa ?_ ?_
   all_goals first|exact ba|skip
  ·exact .cons rfl (Q3 (v:=100002) (by simp only[go_sem,simprocAttr]<;>rfl) (by omega) (λj hj=>by rw[f9 (by omega) (by omega),if_neg (by omega)]) (by rw[f9 (by omega) (by omega),if_pos rfl])) (.cons rfl .ls .nil)
  ·simp
  ·by_cases e:j=i
   ·subst e
    rw[if_pos rfl]
    exact Rs (by simp only[go_sem,simprocAttr]<;>rfl) (λc=>by unfold cW;rw[if_neg (by omega)])
   ·rw[if_neg e]
    have hat:=ej (λ_=>none) (dH 4 R (cW (ib cs nx 0) i 0)) i j (by omega) (show j<i by omega) rfl
    obtain⟨f0,f1,f2,f3,f4,f5⟩:=kJ (show j<100000 by omega)
    exact .mat (m:=cW (ib cs nx 0) i 0) (j:=j) (by simp only[hat,f0,f1,f2,f3,f4,f5,go_sem,simprocAttr]) (λ_ _=>rfl)
  ·by_cases e1:j1=i<;>by_cases e2:j2=i<;>simp only[e1,e2,if_true,if_false] at he<;>omega
  ·by_cases e:j=i<;>simp[e]<;>omega
  rintro mm e H ⟨s,rfl,hs,rfl,rfl⟩
  repeat first|with_reducible refine aw ?_|simp only[go_sem,simprocAttr]
  refine⟨λh1=>?_,λh1=>?_⟩
  ·have hsl:s<R:=by omega
   have has:=hadd s (by omega)
   (try simp only[go_sem,simprocAttr])
   iterate 1 (with_reducible refine GA.go aW rfl ?_;try simp only[go_sem,simprocAttr])
   refine GA.seq ?_
   refine GA.block ?_
   refine GA.wk (cz (L:=[(40,.b true),(39,.n .i64 R),(38,.p 100000 1),(37,.n .i64 s),(1,.p 100000 0),(3,.fs 1 (cs.length+1) (λi _=> .fs 1 R (bC (ib cs nx i)))),(4,.fs 1 pr.length (iC .i64 pr)),(7,.os 100001 (i+1)),(8,.n .i64 i),(9,.n .i64 s)]) (by omega) ?_) ?_
   ·simp only[aX,aV,h1,decide_true,go_sem,simprocAttr]
    repeat' refine aa ?_ ?_
    all_goals first|exact ba|skip
   refine xK la par cs R hR2 pr (ib cs nx) (cs.length+1) (by omega) i s hil hsl _ (λe' H' hwk=>?_)
   simp only[go_sem,simprocAttr]
   refine GA.wk hwk ?_
   have hset:d8 (cW (ib cs nx 0) i s) i s (oZ (ib cs nx 0) i s)=cW (ib cs nx 0) i (s+1):=by
    funext a b;exact vO _ _ _ _ _
   rw[hset]
   repeat first|with_reducible refine aw ?_|simp only[has,go_sem,simprocAttr]
   refine⟨_,_,_,?_,cz (by omega) ?_,s+1,rfl,by omega,rfl,rfl⟩
   ·omega
   ·simp only[aX,aV,go_sem,simprocAttr]
    repeat' refine aa ?_ ?_
    all_goals first|exact ba|skip
  ·have hsR:s=R:=by omega
   subst hsR
   repeat first|with_reducible refine aw ?_|simp only[ha,go_sem,simprocAttr]
   refine⟨_,_,_,?_,Wk.mkF id [100001,100000] [] (k:=i+1) (by omega) ?_ ?_ ?_ (λj hj=>?_) BV (λj hj=>?_) (λq x hq=>(by cases hq)),i+1,rfl,by omega,rfl,rfl⟩
   ·omega
   ·simp only[aX,aV,go_sem,simprocAttr]
    repeat' refine aa ?_ ?_
    all_goals first|exact ba|skip
   ·exact .cons rfl (sd rfl (by simp only[go_sem,simprocAttr]) (λj hj=>f9 (by omega) hj)) (.cons rfl (.ls (hx:=by simp only[go_sem,simprocAttr])) .nil)
   ·simp
   ·exact .mat (m:=cW (ib cs nx 0) i s) (j:=j) (ej _ _ _ _ (by omega) hj rfl _ _) (λc hc=>vP _ _ _ _ _ _ (Nat.le_refl _) hc)
   ·simp only[id]
    obtain⟨f0,f1,_⟩:=kJ (show j<100000 by omega)
    simp[f0,f1]
 ·have hie:i=R:=by omega
  subst hie
  repeat first|with_reducible refine aw ?_|simp only[go_sem,simprocAttr]
  have hnl:∀j,(nx j).length<=2:=λj=>by rw[<-hnx];exact xV cs pt j
  have hnb:∀j,j<cs.length->∀k ∈ nx j,k<=cs.length:=λj hj=>by rw[<-hnx];exact tU hj (λhb=>(hpb j hj hb).2)
  refine GA.loop (I:=λmm e H=>∃(j:Nat) (m:Nat->Nat->Bool),mm=cs.length-j/\j<=cs.length/\(∀a b,a<i->b<i->(m a b=true↔k9 cs nx i j 0 0 a b))/\e=az (pU pr (ib cs nx) (cs.length+1) i j)/\H=mS la par cs i m i)
   (cz (by omega) ?_) ⟨0,cW (ib cs nx 0) i 0,rfl,Nat.zero_le _,λa b ha hb=>?_,rfl,rfl⟩ ?_
  ·simp only[aX,aV,pU,go_sem,simprocAttr]
   repeat' refine aa ?_ ?_
   all_goals first|exact ba|skip
   all_goals exact Wv.same rfl
  ·have e1:cW (ib cs nx 0) i 0 a b=(!decide (a=b)&&(ib cs nx 0 a&&ib cs nx 0 b)):=by unfold cW;rw[if_pos (.inl ha)];rfl
   rw[e1]
   simp only[Bool.and_eq_true,Bool.not_eq_true',decide_eq_false_iff_not,kY]
   unfold k9
   exact⟨λ⟨h1,h2,h3⟩=> .inl ⟨h1,h2,h3⟩,λh=>by
    rcases h with⟨h1,h2,h3⟩|⟨i',k,r,h1,_⟩|⟨q',r,h1,_⟩|⟨r,h1,_⟩
    ·exact⟨h1,h2,h3⟩
    ·omega
    ·omega
    ·omega⟩
  rintro mm e H ⟨j,m,rfl,hj,hm,rfl,rfl⟩
  repeat first|with_reducible refine aw ?_|simp only[go_sem,simprocAttr]
  refine⟨λh1=>?_,λh1=>?_⟩
  ·have hjl:j<cs.length:=by omega
   have hj0:(0:Int)<=(j:Int):=by omega
   have haj:=hadd j (by omega)
   have hcc0:=te cs j
   have hcc1:=zP cs j
   have hcc2:=zO cs j
   have hcc3:=zN cs j
   have hcc4:=zM cs j
   have hxm:cs.getD j (0,0,0,0,0) ∈ cs:=by rw[List.getD_eq_getElem?_getD,List.getElem?_eq_getElem hjl];exact List.getElem_mem hjl
   have hru:=de (jT (cs.getD j (0,0,0,0,0)).1 (cs.getD j (0,0,0,0,0)).2.1 (cs.getD j (0,0,0,0,0)).2.2.1 (cs.getD j (0,0,0,0,0)).2.2.2.1 (cs.getD j (0,0,0,0,0)).2.2.2.2 (hops _ hxm)) (by rfl)
   have hwR:jP cs j<(i:Int):=hW _ hxm
   have hwe:a6 (cs.getD j (0,0,0,0,0)).1 (cs.getD j (0,0,0,0,0)).2.1=jP cs j:=rfl
   rw[hwe] at hru
   have hsc:=nv cs hn pr hpr pt j hjl (hpb j hjl)
   rw[hnx] at hsc
   simp only[List.map_cons,List.map_nil,RT.fz] at hru
   repeat first|with_reducible refine aw ?_|simp only[hj0,h1,hcc0,hcc1,hcc2,hcc3,hcc4,decide_true,go_sem,simprocAttr]
   refine ao [] (.cons (.rfl (by rfl)) .nil) hru (by simp only[AH.mark_next,ae,au,av,am,ah,aj,af,ai,ag,List.length_cons,List.length_nil];decide) ?_
   repeat first|with_reducible refine aw ?_|simp only[go_sem,simprocAttr]
   refine ao [] (.cons (.rfl (by rfl)) (.cons (.rfl (by rfl)) (.cons (.rfl (by rfl)) .nil))) hsc (by simp only[AH.mark_next,ae,au,av,am,ah,aj,af,ai,ag,List.length_cons,List.length_nil];decide) ?_
   repeat first|with_reducible refine aw ?_|simp only[go_sem,simprocAttr]
   have hgC:gC nx j 0= .fs 1 (nx j).length (λq _=> .n .i64 (((nx j).getD q 0:Nat):Int)):=rfl
   refine GA.loop (I:=λmm e H=>∃(q:Nat) (m:Nat->Nat->Bool),mm=(nx j).length-q/\q<=(nx j).length/\(∀a b,a<i->b<i->(m a b=true↔k9 cs nx i j q 0 a b))/\e=az ((14,.n .i64 q)::(13,gC nx j 0)::(12,.n .i64 (jP cs j))::pU pr (ib cs nx) (cs.length+1) i j)/\H=mS la par cs i m i)
    (cz (by omega) ?_) ⟨0,m,rfl,Nat.zero_le _,hm,rfl,rfl⟩ ?_
   ·simp only[aX,aV,pU,go_sem,simprocAttr]
    repeat' refine aa ?_ ?_
    all_goals first|exact ba|skip
    all_goals exact Wv.same rfl
   rintro mm e H ⟨q,m2,rfl,hq,hm2,rfl,rfl⟩
   have fin:∀(hx:q=(nx j).length\/jP cs j<0),∀a b,a<i->b<i->(m2 a b=true↔k9 cs nx i (j+1) 0 0 a b):=λhx a b ha hb=>(hm2 a b ha hb).trans (k9.next hx hq)
   by_cases hql:q<(nx j).length
   ·have hnlj:=hnl j
    have hqi:(q:Int)<((nx j).length:Int):=by omega
    have haq:=hadd q (by omega)
    by_cases hw0:0<=jP cs j
    ·obtain⟨w,hw⟩:∃w:Nat,jP cs j=(w:Int):=⟨(jP cs j).toNat,by omega⟩
     have hwl:w<i:=by omega
     have hw0':(0:Int)<=(w:Int):=by omega
     have hk:(nx j).getD q 0<=cs.length:=hnb j hjl _ (by rw[List.getD_eq_getElem?_getD,List.getElem?_eq_getElem hql];exact List.getElem_mem _)
     rw[hw]
     repeat first|with_reducible refine aw ?_|simp only[hgC,hqi,hw0',decide_true,go_sem,simprocAttr]
     refine GA.loop (I:=λmm e H=>∃(c:Nat) (m:Nat->Nat->Bool),mm=i-c/\c<=i/\(∀a b,a<i->b<i->(m a b=true↔k9 cs nx i j q c a b))/\e=az ((15,.n .i64 c)::(14,.n .i64 q)::(13,gC nx j 0)::(12,.n .i64 w)::pU pr (ib cs nx) (cs.length+1) i j)/\H=mS la par cs i m i)
      (cz (by omega) ?_) ⟨0,m2,rfl,Nat.zero_le _,hm2,rfl,rfl⟩ ?_
     ·simp only[aX,aV,pU,go_sem,simprocAttr]
      repeat' refine aa ?_ ?_
      all_goals first|exact ba|skip
      all_goals exact Wv.same rfl
     rintro mm e H ⟨c,m3,rfl,hc,hm3,rfl,rfl⟩
     repeat first|with_reducible refine aw ?_|simp only[go_sem,simprocAttr]
     refine⟨λh2=>?_,λh2=>?_⟩
     ·have hcl:c<i:=by omega
      have hac:=hadd c (by omega)
      (try simp only[go_sem,simprocAttr])
      iterate 1 (with_reducible refine GA.go aW rfl ?_;try simp only[go_sem,simprocAttr])
      refine GA.seq ?_
      refine GA.block ?_
      refine GA.wk (cz (L:=(15,.n .i64 c)::(14,.n .i64 q)::(13,gC nx j 0)::(12,.n .i64 w)::pU pr (ib cs nx) (cs.length+1) i j) (by omega) ?_) ?_
      ·simp only[aX,aV,pU,go_sem,simprocAttr]
       repeat' refine aa ?_ ?_
       all_goals first|exact ba|skip
       all_goals exact Wv.same rfl
      refine uV la par cs i hR2 hn pr nx m3 w j q c hwl hcl hql hk _ (λe' H' hwk=>?_)
      simp only[go_sem,simprocAttr]
      refine GA.wk hwk ?_
      repeat first|with_reducible refine aw ?_|simp only[hac,go_sem,simprocAttr]
      refine⟨_,_,_,?_,cz (by omega) ?_,c+1,_,rfl,by omega,λa b ha hb=>?_,rfl,rfl⟩
      ·omega
      ·simp only[aX,aV,pU,go_sem,simprocAttr]
       repeat' refine aa ?_ ?_
       all_goals first|exact ba|skip
       all_goals exact Wv.same rfl
      ·rw[k9.more,<-hm3 a b ha hb]
       unfold Rx
       rw[hw]
       by_cases hcw:c≠w/\ib cs nx ((nx j).getD q 0) c=true
       ·rw[if_pos hcw]
        have hl:=kY.1 hcw.2
        unfold d8
        by_cases e1:a=c/\b=w
        ·rw[if_pos e1]
         exact⟨λ_=> .inr ⟨by omega,by omega,hl,.inr ⟨e1.1,by omega⟩⟩,λ_=>rfl⟩
        rw[if_neg e1]
        by_cases e2:a=w/\b=c
        ·rw[if_pos e2]
         exact⟨λ_=> .inr ⟨by omega,by omega,hl,.inl ⟨by omega,e2.2⟩⟩,λ_=>rfl⟩
        rw[if_neg e2]
        exact⟨.inl,λh=>h.elim id (λ⟨_,_,_,h4⟩=>by omega)⟩
       ·rw[if_neg hcw]
        exact⟨.inl,λh=>h.elim id (λ⟨_,h2,h3,_⟩=>absurd ⟨by omega,kY.2 h3⟩ hcw)⟩
     ·have hcR:c=i:=by omega
      subst hcR
      repeat first|with_reducible refine aw ?_|simp only[haq,go_sem,simprocAttr]
      refine⟨_,_,_,?_,cz (by omega) ?_,q+1,m3,rfl,by omega,λa b ha hb=>(hm3 a b ha hb).trans k9.row,rfl,rfl⟩
      ·omega
      ·simp only[aX,aV,pU,go_sem,simprocAttr]
       repeat' refine aa ?_ ?_
       all_goals first|exact ba|skip
       all_goals first|exact Wv.same rfl|(rw[hw];exact Wv.same rfl)
    ·have hfin:=fin (.inr (by omega))
     repeat first|with_reducible refine aw ?_|simp only[hgC,hqi,hw0,haj,decide_true,decide_false,go_sem,simprocAttr]
     refine⟨_,_,_,?_,cz (by omega) ?_,j+1,m2,rfl,by omega,hfin,rfl,rfl⟩
     ·omega
     ·simp only[aX,aV,pU,go_sem,simprocAttr]
      repeat' refine aa ?_ ?_
      all_goals first|exact ba|skip
      all_goals exact Wv.same rfl
   ·have hfin:=fin (.inl (by omega))
    have hqi:¬(q:Int)<((nx j).length:Int):=by omega
    repeat first|with_reducible refine aw ?_|simp only[hgC,hqi,haj,decide_true,decide_false,go_sem,simprocAttr]
    refine⟨_,_,_,?_,cz (by omega) ?_,j+1,m2,rfl,by omega,hfin,rfl,rfl⟩
    ·omega
    ·simp only[aX,aV,pU,go_sem,simprocAttr]
     repeat' refine aa ?_ ?_
     all_goals first|exact ba|skip
     all_goals exact Wv.same rfl
  ·have hje:j=cs.length:=by omega
   subst hje
   have hmeq:∀a b,a<i->b<i->m a b=lZ cs nx a b:=λa b ha hb=>by
    rw[Bool.eq_iff_iff,jA,hm a b ha hb]
    exact k9.all hR
   refine GA.wk (Wk.mkO (ob:=λ_=>none) (L:=[(7,.os 0 i)]) (bl:=[aD 55 1 i 0 (λq _=> .fs 1 i (bC (lZ cs nx q)))]) [100001] (List.range i) ?_ ?_ (by simp) (λq x hq=>(by cases hq))) ?_
   ·simp only[aX,aV,pU,go_sem,simprocAttr]
    repeat' refine aa ?_ ?_
    all_goals first|exact ba|skip
   ·refine .cons rfl ⟨aD 55 1 i 0 (lM i),by simp only[go_sem,simprocAttr],rfl,rfl,rfl,rfl,.inl rfl,by rw[if_neg (by simp;omega)];exact Nat.le_refl _,λq hq=>?_⟩ .nil
    have hq':q<i:=by rw[ew] at hq;omega
    have e2:∀(row:Nat->Nat->AV),(aD 55 1 i 0 row).get q=row q 0:=λrow=>by
     have:=aL (ty:=55) (n:=i) (z:=0) (row:=row) q 0 (by decide:0<1)
     rw[Nat.mul_one,Nat.add_zero] at this
     exact this
    rw[e2,e2]
    refine .cv (.os (x:=dH 4 i m q) (List.mem_range.2 hq') (ej _ _ _ _ (by omega) hq' rfl _ _) (by rw[dM];omega) (λc j hc hj=>?_) (λc j hc hj=>rfl))
    obtain rfl:j=0:=by omega
    rw[Nat.mul_one,Nat.add_zero,fv,hmeq q c hq' hc]
    rfl
   repeat first|with_reducible refine aw ?_|simp only[go_sem,simprocAttr]
   exact⟨[0],.os (x:=aD 55 1 i 0 (λq _=> .fs 1 i (bC (lZ cs nx q)))) (by simp) (by simp only[go_sem,simprocAttr]) (Nat.le_refl _) (λi j hi hj=>aL i j hj) (λi j hi hj=>rfl)⟩
def uO(f:Nat->Bool)(r:Nat):Nat->Bool:=λc=>if c=r then true else f c
theorem zU{f:Nat->Bool}{r:Nat}{R:Nat}:∀i j,i<R->j<1->(if i=r then[AV.b true][j]?.getD .u else bF f i j)=bF (uO f r) i j:=λi j _ hj=>by
 obtain rfl:j=0:=by omega
 unfold bF uO
 by_cases e:i=r
 ·subst e;simp
 ·simp[e]
theorem xJ(la:List (Bool×Int))(par:Int)(cs:List In)(R:Nat)(hR2:R<=2000)(hn:cs.length<=16384)
  (hops:∀x ∈ cs,0<=x.1/\x.1<39) (hR:∀x ∈ cs,∀r ∈ aF x.1 x.2.2.1 x.2.2.2.1,0<=r/\r<(R:Int)) (hW:∀x ∈ cs,a6 x.1 x.2.1<(R:Int)):
  bA Try.prog 53 [ax la.length (aC la) R par cs] [.v (.fs 1 R (bC (λr=>cP cs (r:Int))))]:=by
 have hadd:∀j:Nat,j<100000->IntKind.wrap .i64 ((j:Int)+1)=((j+1:Nat):Int):=λj hj=>by rw[aJ (by omega)];omega
 have hR0:(0:Int)<=(R:Int):=by omega
 have hR1:(R:Int)<=16777216:=by omega
 have hR3:1*R<=140737488355328:=by omega
 have hR4:R<1099511627776:=by omega
 have hR5:R<=140737488355328:=by omega
 refine de (rs:=[.o 4 1 R 0 (bC (λr=>cP cs (r:Int)))]) ?_ (by rfl)
 refine aB aW Ml ⟨by simp,by decide⟩ ?_
 simp only[bt,ax]
 repeat first|with_reducible refine aw ?_|simp only[hR0,hR1,hR3,hR4,hR5,Int.le_refl,decide_true,go_sem,simprocAttr]
 refine GA.loop (I:=λmm e H=>∃(k:Nat) (f:Nat->Bool),mm=cs.length-k/\k<=cs.length/\(∀r,r<R->(f r=true↔∃i,i<k/\(r:Int) ∈ bM (cs.getD i (0,0,0,0,0))))/\e=az [(1,.p 0 0),(3,.os 1 R),(4,.n .i64 k)]/\H=aP [aD 4 1 R 0 (bF f),aK 0 25 [.fs 2 la.length (aC la),.n .i64 R,.n .i64 par,.fs 5 cs.length (cC cs)]]) (Wk.mk [1,0] [] ?_ ?_ ?_) ⟨0,λ_=>false,rfl,Nat.zero_le _,λr _=>⟨λh=>(by cases h),λ⟨i,h,_⟩=>by omega⟩,rfl,rfl⟩ ?_
 ·simp only[aX,aV,go_sem,simprocAttr]
  repeat' refine aa ?_ ?_
  all_goals first|exact ba|skip
 ·refine .cons rfl (.same (by simp only[go_sem,simprocAttr]<;>rfl) rfl (by decide) (λi j h hj=>?_) (λi j h hj=>rfl)) (.cons rfl .ls .nil)
  obtain rfl:j=0:=by omega
  rfl
 ·simp
 rintro mm e H ⟨k,f,rfl,hk,hf,rfl,rfl⟩
 repeat first|with_reducible refine aw ?_|simp only[go_sem,simprocAttr]
 refine⟨λh=>?_,λh=>?_⟩
 ·have hkl:k<cs.length:=by omega
  have hk0:(0:Int)<=(k:Int):=by omega
  have ha:=hadd k (by omega)
  have hcc0:=te cs k
  have hcc1:=zP cs k
  have hcc2:=zO cs k
  have hcc3:=zN cs k
  have hcc4:=zM cs k
  have hxm:cs.getD k (0,0,0,0,0) ∈ cs:=by rw[List.getD_eq_getElem?_getD,List.getElem?_eq_getElem hkl];exact List.getElem_mem hkl
  have hus:∀r,(r ∈ bM (cs.getD k (0,0,0,0,0))↔r ∈ aF (cs.getD k (0,0,0,0,0)).1 (cs.getD k (0,0,0,0,0)).2.2.1 (cs.getD k (0,0,0,0,0)).2.2.2.1\/r=a6 (cs.getD k (0,0,0,0,0)).1 (cs.getD k (0,0,0,0,0)).2.1):=λr=>by unfold bM;simp only[List.mem_append,List.mem_singleton]
  have hsucc:∀r:Int,(∃i,i<k+1/\r ∈ bM (cs.getD i (0,0,0,0,0)))↔(∃i,i<k/\r ∈ bM (cs.getD i (0,0,0,0,0)))\/r ∈ bM (cs.getD k (0,0,0,0,0)):=λr=>by
   constructor
   ·rintro ⟨i,h1,h2⟩
    by_cases e:i=k
    ·subst e;exact .inr h2
    ·exact .inl ⟨i,by omega,h2⟩
   ·rintro (⟨i,h1,h2⟩|h)
    ·exact⟨i,by omega,h2⟩
    ·exact⟨k,by omega,h⟩
  have hrd:=hR _ hxm
  have hwr:=hW _ hxm
  have hop:=hops _ hxm
  generalize cs.getD k (0,0,0,0,0)=y at hcc0 hcc1 hcc2 hcc3 hcc4 hxm hus hsucc hrd hwr hop
  obtain⟨op,to,a,b,arg⟩:=y
  simp only at hcc0 hcc1 hcc2 hcc3 hcc4 hus hrd hwr hop
  have hru:=de (jT op to a b arg hop) (by rfl)
  simp only[List.map_cons,List.map_nil,RT.fz] at hru
  have hrl:(aF op a b).length<=1000:=by unfold aF;(repeat' split)<;>simp
  generalize aF op a b=rd at*
  generalize a6 op to=w at*
  repeat first|with_reducible refine aw ?_|simp only[hk0,h,hcc0,hcc1,hcc2,hcc3,hcc4,decide_true,go_sem,simprocAttr]
  refine ao [] (.cons (.rfl (by rfl)) .nil) hru (by simp only[AH.mark_next,ae,au,av,am,ah,aj,af,ai,ag,List.length_cons,List.length_nil];decide) ?_
  repeat first|with_reducible refine aw ?_|simp only[go_sem,simprocAttr]
  refine GA.loop (I:=λmm e H=>∃(q:Nat) (f:Nat->Bool),mm=rd.length-q/\q<=rd.length/\(∀r,r<R->(f r=true↔(∃i,i<k/\(r:Int) ∈ bM (cs.getD i (0,0,0,0,0)))\/∃j,j<q/\rd.getD j 0=(r:Int)))/\e=az [(1,.p 0 0),(3,.os 1 R),(4,.n .i64 k),(5,.fs 1 rd.length (iC .i64 rd)),(6,.n .i64 w),(7,.n .i64 q)]/\H=aP [aD 4 1 R 0 (bF f),aK 0 25 [.fs 2 la.length (aC la),.n .i64 R,.n .i64 par,.fs 5 cs.length (cC cs)]]) (Wk.mk [1,0] [] ?_ ?_ ?_) ⟨0,f,rfl,Nat.zero_le _,λr hr=>(hf r hr).trans ⟨.inl,λh=>h.elim id (λ⟨j,hj,_⟩=>by omega)⟩,rfl,rfl⟩ ?_
  ·simp only[aX,aV,go_sem,simprocAttr]
   repeat' refine aa ?_ ?_
   all_goals first|exact ba|skip
  ·exact .cons rfl .k1 (.cons rfl .ls .nil)
  ·simp
  rintro mm e H ⟨q,f,rfl,hq,hf,rfl,rfl⟩
  repeat first|with_reducible refine aw ?_|simp only[go_sem,simprocAttr]
  refine⟨λh2=>?_,λh2=>?_⟩
  ·have hql:q<rd.length:=by omega
   have hq0:(0:Int)<=(q:Int):=by omega
   have haq:=hadd q (by omega)
   have hqm:rd.getD q 0 ∈ rd:=by rw[List.getD_eq_getElem?_getD,List.getElem?_eq_getElem hql];exact List.getElem_mem hql
   obtain⟨hv0,hv1⟩:=hrd _ hqm
   obtain⟨v,hv⟩:∃v:Nat,rd.getD q 0=(v:Int):=⟨(rd.getD q 0).toNat,by omega⟩
   rw[hv] at hv0 hv1
   have hic:iC .i64 rd q 0= .n .i64 (v:Int):=by show AV.n .i64 (rd.getD q 0)=_;rw[hv]
   have hvR:v<R:=by omega
   have hv2:v+1<=R:=hvR
   repeat first|with_reducible refine aw ?_|simp only[hq0,h2,hic,hv0,hv1,hvR,hv2,haq,decide_true,go_sem,simprocAttr]
   refine⟨_,_,_,?_,Wk.mk [1,0] [] ?_ ?_ ?_,q+1,uO f v,rfl,by omega,λr hr=>?_,rfl,rfl⟩
   ·omega
   ·simp only[aX,aV,go_sem,simprocAttr]
    repeat' refine aa ?_ ?_
    all_goals first|exact ba|skip
   ·exact .cons rfl (.put (q:=v) (by simp only[go_sem,simprocAttr];rfl) (by simp) rfl hvR rfl (by decide) (by omega) zU (λi j hi hj=>rfl)) (.cons rfl .ls .nil)
   ·simp
   ·unfold uO
    by_cases e:r=v
    ·rw[if_pos e]
     exact⟨λ_=> .inr ⟨q,by omega,by rw[hv,e]⟩,λ_=>rfl⟩
    ·rw[if_neg e,hf r hr]
     constructor
     ·rintro (h|⟨j,h1,h2⟩)
      ·exact .inl h
      ·exact .inr ⟨j,by omega,h2⟩
     ·rintro (h|⟨j,g1,g2⟩)
      ·exact .inl h
      ·by_cases e2:j=q
       ·rw[e2,hv] at g2;omega
       ·exact .inr ⟨j,by omega,g2⟩
  ·have hqq:q=rd.length:=by omega
   subst hqq
   have hf2:∀r,r<R->(f r=true↔(∃i,i<k/\(r:Int) ∈ bM (cs.getD i (0,0,0,0,0)))\/(r:Int) ∈ rd):=λr hr=>by
    rw[hf r hr]
    have:(∃j,j<rd.length/\rd.getD j 0=(r:Int))↔(r:Int) ∈ rd:=by
     constructor
     ·rintro ⟨j,h1,h2⟩
      rw[<-h2,List.getD_eq_getElem?_getD,List.getElem?_eq_getElem h1];exact List.getElem_mem h1
     ·intro hm
      obtain⟨j,hj,e⟩:=List.getElem_of_mem hm
      exact⟨j,hj,by rw[List.getD_eq_getElem?_getD,List.getElem?_eq_getElem hj,e];rfl⟩
    rw[this]
   repeat first|with_reducible refine aw ?_|simp only[go_sem,simprocAttr]
   refine⟨λh3=>?_,λh3=>?_⟩
   ·obtain⟨v,hv⟩:∃v:Nat,w=(v:Int):=⟨w.toNat,by omega⟩
    subst hv
    have hv0:(0:Int)<=(v:Int):=by omega
    have hvR:v<R:=by omega
    have hv2:v+1<=R:=hvR
    repeat first|with_reducible refine aw ?_|simp only[hv0,hwr,hvR,hv2,ha,decide_true,go_sem,simprocAttr]
    refine⟨_,_,_,?_,Wk.mk [1,0] [] ?_ ?_ ?_,k+1,uO f v,rfl,by omega,λr hr=>?_,rfl,rfl⟩
    ·omega
    ·simp only[aX,aV,go_sem,simprocAttr]
     repeat' refine aa ?_ ?_
     all_goals first|exact ba|skip
    ·exact .cons rfl (.put (q:=v) (by simp only[go_sem,simprocAttr];rfl) (by simp) rfl hvR rfl (by decide) (by omega) zU (λi j hi hj=>rfl)) (.cons rfl .ls .nil)
    ·simp
    ·rw[hsucc,hus]
     unfold uO
     by_cases e:r=v
     ·rw[if_pos e]
      exact⟨λ_=> .inr (.inr (by rw[e])),λ_=>rfl⟩
     ·rw[if_neg e,hf2 r hr]
      have:¬(r:Int)=(v:Int):=by omega
      simp only[this,or_false]
   ·repeat first|with_reducible refine aw ?_|simp only[ha,go_sem,simprocAttr]
    refine⟨_,_,_,?_,Wk.mk [1,0] [] ?_ ?_ ?_,k+1,f,rfl,by omega,λr hr=>?_,rfl,rfl⟩
    ·omega
    ·simp only[aX,aV,go_sem,simprocAttr]
     repeat' refine aa ?_ ?_
     all_goals first|exact ba|skip
    ·exact .cons rfl .k1 (.cons rfl .ls .nil)
    ·simp
    ·rw[hsucc,hus,hf2 r hr]
     have:¬(r:Int)=w:=by omega
     simp only[this,or_false]
 ·have hkk:k=cs.length:=by omega
  subst hkk
  repeat first|with_reducible refine aw ?_|simp only[go_sem,simprocAttr]
  refine⟨[_],rfl,cn.o (x:=aD 4 1 R 0 (bF f)) (by simp only[go_sem,simprocAttr]) rfl rfl rfl (by decide) (Nat.le_refl _) (Nat.le_refl _) (λi j hi hj=>?_) (λi j hi hj=>rfl) rfl .nil⟩
  rw[aL i j hj]
  unfold bF bC
  congr 1
  rw[Bool.eq_iff_iff,hf i hi,gA]
def dl(nm:List Int)(x:In):In:=(x.1,cY nm x.2.1,cY nm x.2.2.1,cY nm x.2.2.2.1,x.2.2.2.2)
theorem je(nm:List Int)(x:In)(h1:x.2.1<(nm.length:Int))(h2:x.2.2.1<(nm.length:Int))(h3:x.2.2.2.1<(nm.length:Int)):bA Try.prog 50 [fy x,.fs 1 nm.length (iC .i64 nm)] [.v (fy (dl nm x))]:=by
 obtain⟨op,to,a,b,arg⟩:=x
 refine aB aW Mo ⟨by simp,by decide⟩ ?_
 simp only[bt,fy]
 (try simp only[go_sem,simprocAttr])
 iterate 3 (with_reducible refine GA.go aW rfl ?_;try simp only[go_sem,simprocAttr])
 refine GA.mixm aW 1 (by simp only[fI,go_sem,simprocAttr]) ?_
 simp only[go_sem,simprocAttr]
 refine ao [] (.cons (.rfl (by rfl)) (.cons (.rfl (by rfl)) .nil)) (gw nm to h1) (by simp only[AH.mark_next,ae,au,av,am,ah,aj,af,ai,ag,List.length_cons,List.length_nil];decide) ?_
 simp only[go_sem,simprocAttr]
 refine ao [] (.cons (.rfl (by rfl)) (.cons (.rfl (by rfl)) .nil)) (gw nm a h2) (by simp only[AH.mark_next,ae,au,av,am,ah,aj,af,ai,ag,List.length_cons,List.length_nil];decide) ?_
 simp only[go_sem,simprocAttr]
 refine ao [] (.cons (.rfl (by rfl)) (.cons (.rfl (by rfl)) .nil)) (gw nm b h3) (by simp only[AH.mark_next,ae,au,av,am,ah,aj,af,ai,ag,List.length_cons,List.length_nil];decide) ?_
 simp only[go_sem,simprocAttr]
 repeat first|with_reducible refine aw ?_|simp only[go_sem,simprocAttr]
 exact⟨[_],rfl,cn.v rfl rfl .nil⟩
def pC(f:In->In)(k:Nat)(cs:List In):List In:=(cs.take k).map f++cs.drop k
theorem sZ(f:In->In)(k:Nat)(cs:List In)(h:k<=cs.length):(pC f k cs).length=cs.length:=by unfold pC;simp;omega
theorem pB(f:In->In)(k:Nat)(cs:List In)(i:Nat)(hi:i<cs.length):(pC f k cs).getD i (0,0,0,0,0)=if i<k then f (cs.getD i (0,0,0,0,0)) else cs.getD i (0,0,0,0,0):=by
 unfold pC
 simp only[List.getD_eq_getElem?_getD]
 by_cases h:i<k
 ·rw[if_pos h,List.getElem?_append_left (by simp;omega),List.getElem?_map,List.getElem?_take_of_lt h,List.getElem?_eq_getElem hi]
  rfl
 ·rw[if_neg h,List.getElem?_append_right (by simp;omega),List.getElem?_drop]
  congr 2
  simp;omega
theorem Ch(f:In->In)(cs:List In):pC f cs.length cs=cs.map f:=by unfold pC;simp
theorem RJ(f:In->In)(cs:List In):pC f 0 cs=cs:=by unfold pC;simp
theorem oH(la:List (Bool×Int))(regs par regs2:Int)(cs:List In)(nm:List Int)(hla:la.length<1000000)(hcs:cs.length<100000)(hnm:∀x ∈ cs,x.2.1<(nm.length:Int)/\x.2.2.1<(nm.length:Int)/\x.2.2.2.1<(nm.length:Int)):
  bA Try.prog 48 [ax la.length (aC la) regs par cs,.fs 1 nm.length (iC .i64 nm),.n .i64 regs2] [.v (ax la.length (aC la) regs2 par (cs.map (dl nm)))]:=by
 have hadd:∀j:Nat,j<100000->IntKind.wrap .i64 ((j:Int)+1)=((j+1:Nat):Int):=λj hj=>by rw[aJ (by omega)];omega
 have hC:=ny (na:=la.length) (ra:=aC la) (regs:=regs) (par:=par) (cs:=cs) hla bI (by omega)
 refine aB aW Mw ⟨by simp,by decide⟩ ?_
 simp only[bt,ax] at hC ⊢
 repeat first|with_reducible refine aw ?_|simp only[go_sem,simprocAttr]
 refine ao [] (.cons (.rfl (by rfl)) .nil) hC (by simp only[AH.mark_next,ae,au,av,am,ah,aj,af,ai,ag,List.length_cons,List.length_nil];decide) ?_
 repeat first|with_reducible refine aw ?_|simp only[go_sem,simprocAttr]
 refine GA.loop (I:=λmm e H=>∃(k:Nat),mm=cs.length-k/\k<=cs.length/\e=az [(1,.fs 1 nm.length (iC .i64 nm)),(6,.p 0 0),(7,.p 2 0),(8,.n .i64 k)]/\
   H=aP [aK 0 25 [.fs 2 la.length (aC la),.n .i64 regs2,.n .i64 par,.os 1 cs.length],aD 60 5 cs.length 0 (cC (pC (dl nm) k cs)),aK 0 25 [.sl0,.n .i64 0,.n .i64 0,.sl0]]) (Wk.mk [4,3,1] [2] ?_ ?_ ?_) ⟨0,rfl,by omega,rfl,rfl⟩ ?_
 ·simp only[aX,aV,go_sem,simprocAttr]
  repeat' refine aa ?_ ?_
  all_goals first|exact ba|skip
 ·rw[RJ]
  exact .cons rfl (.lstw (x:=_) (by simp only[go_sem,simprocAttr]<;>rfl) (by rfl) (by rfl) (by rfl) (by rfl) (by rfl) (by rfl) (by simp) (λi hi=>(by rcases dA hi with rfl|rfl|rfl|rfl<;>(simp only[go_sem,simprocAttr];first|exact Wv.same rfl|exact Wv.os rfl|exact Wv.cv (Cv.own (ty:=102) (z:=0) (by simp) (by simp only[go_sem,simprocAttr]) bI)|exact Wv.cv (Cv.own (ty:=60) (z:=0) (by simp) (by simp only[go_sem,simprocAttr]) (λi j _ hj=>bm i hj)))))) (.cons rfl .k5 (.cons rfl .ls .nil))
 ·simp
 rintro mm e H ⟨k,rfl,hk,rfl,rfl⟩
 have hlen:=sZ (dl nm) k cs hk
 repeat first|with_reducible refine aw ?_|simp only[go_sem,simprocAttr]
 refine⟨λhlt=>?_,λhlt=>?_⟩
 ·have hk':k<cs.length:=by omega
  have hc0:(0:Int)<=k:=by omega
  have ha:=hadd k (by omega)
  have hck:(pC (dl nm) k cs).getD k (0,0,0,0,0)=cs.getD k (0,0,0,0,0):=by rw[pB _ k cs k hk',if_neg (by omega)]
  have hgr:∀j,j<5->(aD 60 5 cs.length 0 (cC (pC (dl nm) k cs))).get (k*5+j)=yK (cs.getD k (0,0,0,0,0)) j:=λj hj=>by
   rw[aL k j hj]
   unfold cC
   rw[hck]
  have hsuc:∀i,i<cs.length->(pC (dl nm) (k+1) cs).getD i (0,0,0,0,0)=if i=k then dl nm (cs.getD k (0,0,0,0,0)) else(pC (dl nm) k cs).getD i (0,0,0,0,0):=λi hi=>by
   rw[pB _ (k+1) cs i hi,pB _ k cs i hi]
   by_cases e:i=k
   ·subst e;rw[if_pos (by omega),if_pos rfl]
   ·rw[if_neg e]
    by_cases h2:i<k
    ·rw[if_pos (by omega),if_pos h2]
    ·rw[if_neg (by omega),if_neg h2]
  have hxm:cs.getD k (0,0,0,0,0) ∈ cs:=by rw[List.getD_eq_getElem?_getD,List.getElem?_eq_getElem hk'];exact List.getElem_mem hk'
  obtain⟨n1,n2,n3⟩:=hnm _ hxm
  have hrn:=je nm (cs.getD k (0,0,0,0,0)) n1 n2 n3
  generalize hx:cs.getD k (0,0,0,0,0)=x at hgr hsuc hrn
  obtain⟨op,to,a,b,arg⟩:=x
  simp only[fy,dl] at hrn
  have g0:(aD 60 5 cs.length 0 (cC (pC (dl nm) k cs))).get (k*5)= .n .i64 op:=hgr 0 (by decide)
  have g1:(aD 60 5 cs.length 0 (cC (pC (dl nm) k cs))).get (k*5+1)= .n .i64 to:=hgr 1 (by decide)
  have g2:(aD 60 5 cs.length 0 (cC (pC (dl nm) k cs))).get (k*5+1+1)= .n .i64 a:=hgr 2 (by decide)
  have g3:(aD 60 5 cs.length 0 (cC (pC (dl nm) k cs))).get (k*5+1+1+1)= .n .i64 b:=hgr 3 (by decide)
  have g4:(aD 60 5 cs.length 0 (cC (pC (dl nm) k cs))).get (k*5+1+1+1+1)= .n .u32 arg:=hgr 4 (by decide)
  have b0:k*5<cs.length*5:=by omega
  have b1:k*5+1<cs.length*5:=by omega
  have b2:k*5+1+1<cs.length*5:=by omega
  have b3:k*5+1+1+1<cs.length*5:=by omega
  have b4:k*5+1+1+1+1<cs.length*5:=by omega
  have b5:k*5+5<=cs.length*5:=by omega
  repeat first|with_reducible refine aw ?_|simp only[hc0,hlt,g0,g1,g2,g3,g4,b0,b1,b2,b3,b4,decide_true,go_sem,simprocAttr]
  refine ao [] (.cons (.rfl (by rfl)) (.cons (.rfl (by rfl)) .nil)) hrn (by simp only[AH.mark_next,ae,au,av,am,ah,aj,af,ai,ag,List.length_cons,List.length_nil];decide) ?_
  repeat first|with_reducible refine aw ?_|simp only[hc0,hlt,b0,b1,b2,b3,b4,b5,ha,decide_true,go_sem,simprocAttr]
  refine⟨_,_,_,?_,Wk.mk [2,1,0] [] ?_ ?_ ?_,k+1,rfl,by omega,rfl,rfl⟩
  ·omega
  ·simp only[aX,aV,go_sem,simprocAttr]
   repeat' refine aa ?_ ?_
   all_goals first|exact ba|skip
  ·refine .cons rfl (.lstw (x:=_) (by simp only[go_sem,simprocAttr]<;>rfl) (by rfl) (by rfl) (by rfl) (by rfl) (by rfl) (by rfl) (by simp) (λi hi=>(by rcases dA hi with rfl|rfl|rfl|rfl<;>(simp only[go_sem,simprocAttr];first|exact Wv.same rfl|exact Wv.os rfl|exact Wv.cv (Cv.own (ty:=102) (z:=0) (by simp) (by simp only[go_sem,simprocAttr]) bI)|exact Wv.cv (Cv.own (ty:=60) (z:=0) (by simp) (by simp only[go_sem,simprocAttr]) (λi j _ hj=>bm i hj)))))) (.cons rfl (.rows (x:=_) (by simp only[go_sem,simprocAttr];rfl) (by rfl) (by rfl) (by rfl) (Nat.le_refl _) (Nat.le_refl _) (by decide) (λi j hi hj=>?_) (λi j _ hj=>by rcases ez hj with rfl|rfl|rfl|rfl|rfl<;>rfl)) (.cons rfl .ls .nil))
   rw[fq (by simp;omega)]
   unfold cC
   rw[hsuc i hi]
   by_cases e:i=k
   ·subst e
    rw[if_pos (by simp;omega),if_pos rfl,show i*5+j-i*5=j by omega]
    rcases ez hj with rfl|rfl|rfl|rfl|rfl<;>rfl
   ·rw[if_neg (by simp;omega),if_neg e,aL i j hj]
  ·simp
 ·have hk2:k=cs.length:=by omega
  subst hk2
  refine GA.wk (Wk.mk (L:=[(6,.p 0 0),(7,.p 1 0)]) (bl:=[aK 0 25 [.fs 2 la.length (aC la),.n .i64 regs2,.n .i64 par,.fs 5 cs.length (cC (pC (dl nm) cs.length cs))],aK 0 25 [.sl0,.n .i64 0,.n .i64 0,.sl0]]) [2,0] [1] ?_ ?_ ?_) ?_
  ·simp only[aX,aV,go_sem,simprocAttr]
   repeat' refine aa ?_ ?_
   all_goals first|exact ba|skip
  ·exact .cons rfl (.lstw (x:=_) (by simp only[go_sem,simprocAttr]<;>rfl) (by rfl) (by rfl) (by rfl) (by rfl) (by rfl) (by rfl) (by simp) (λi hi=>(by rcases dA hi with rfl|rfl|rfl|rfl<;>(simp only[go_sem,simprocAttr];first|exact Wv.same rfl|exact Wv.os rfl|exact Wv.cv (Cv.own (ty:=102) (z:=0) (by simp) (by simp only[go_sem,simprocAttr]) bI)|exact Wv.cv (Cv.own (ty:=60) (z:=0) (by simp) (by simp only[go_sem,simprocAttr]) (λi j _ hj=>bm i hj)))))) (.cons rfl .ls .nil)
  ·simp
  repeat first|with_reducible refine aw ?_|simp only[go_sem,simprocAttr]
  rw[Ch,List.length_map]
  exact⟨[_],rfl,cn.v rfl rfl .nil⟩
theorem uZ(na:Nat)(ra:Nat->Nat->AV)(regs par er:Int)(cs:List In)(x:AV)(he:er≠0)(hc:bA Try.prog 39 [ax na ra regs par cs] [.v x,.v (.n .i64 er)])(nx:Nat->List Nat):
  bA Try.prog 12 [ax na ra regs par cs] [.v (.fs 1 0 (gC nx)),.v (.n .i64 er)]:=by
 refine de (rs:=[.o 39 1 0 0 (gC nx),.v (.n .i64 er)]) ?_ (by rfl)
 refine aB aW CO ⟨by simp,by decide⟩ ?_
 simp only[bt,ax] at hc ⊢
 repeat first|with_reducible refine aw ?_|simp only[go_sem,simprocAttr]
 refine ao [] (.cons (.rfl (by rfl)) .nil) hc (by simp only[AH.mark_next,ae,au,av,am,ah,aj,af,ai,ag,List.length_cons,List.length_nil];decide) ?_
 repeat first|with_reducible refine aw ?_|simp only[he,decide_true,decide_false,go_sem,simprocAttr]
 exact⟨[_,_],rfl,cn.o0 rfl (cn.v rfl rfl .nil)⟩
theorem xM(na:Nat)(ra:Nat->Nat->AV)(regs par:Int)(cs:List In)(x:AV)(hc:bA Try.prog 39 [ax na ra regs par cs] [.v x,.v (.n .i64 0)])(n R:Nat)(hn:n<=20000)(hR:R<=2000)(L:Nat->Nat->Bool)
  (hlv:bA Try.prog 40 [ax na ra regs par cs] [.v (.fs 1 n (λi _=> .fs 1 R (bC (L i))))]):
  bA Try.prog 12 [ax na ra regs par cs] [.v (.fs 1 n (gC (λi=>dG (L i) R))),.v (.n .i64 0)]:=by
 have hadd:∀j:Nat,j<100000->IntKind.wrap .i64 ((j:Int)+1)=((j+1:Nat):Int):=λj hj=>by rw[aJ (by omega)];omega
 refine de (rs:=[.o 39 1 n 0 (gC (λi=>dG (L i) R)),.v (.n .i64 0)]) ?_ (by rfl)
 refine aB aW CO ⟨by simp,by decide⟩ ?_
 simp only[bt,ax] at hc hlv ⊢
 repeat first|with_reducible refine aw ?_|simp only[go_sem,simprocAttr]
 refine ao [] (.cons (.rfl (by rfl)) .nil) hc (by simp only[AH.mark_next,ae,au,av,am,ah,aj,af,ai,ag,List.length_cons,List.length_nil];decide) ?_
 repeat first|with_reducible refine aw ?_|simp only[go_sem,simprocAttr]
 refine ao [] (.cons (.rfl (by rfl)) .nil) hlv (by simp only[AH.mark_next,ae,au,av,am,ah,aj,af,ai,ag,List.length_cons,List.length_nil];decide) ?_
 repeat first|with_reducible refine aw ?_|simp only[go_sem,simprocAttr]
 refine GA.wk (Wk.nil 7 1 39 (by simp only[go_sem,simprocAttr]) (by decide) (by simp only[go_sem,simprocAttr])) ?_
 refine GA.loop (I:=λmm e H=>∃(i:Nat),mm=n-i/\i<=n/\e=az [(6,.fs 1 n (λi _=> .fs 1 R (bC (L i)))),(7,.os 0 i),(8,.n .i64 i)]/\H=aP [aD 39 1 i 0 (gC (λi=>dG (L i) R))]) (Wk.mk [1] [] ?_ ?_ ?_) ⟨0,rfl,Nat.zero_le _,rfl,rfl⟩ ?_
 ·simp only[aX,aV,go_sem,simprocAttr]
  repeat' refine aa ?_ ?_
  all_goals first|exact ba|skip
 ·exact .cons rfl (.rows (x:=_) (by simp only[go_sem,simprocAttr];rfl) (by rfl) (by rfl) (by rfl) (by show 0*1<=0;decide) (by exact Nat.le_refl _) (by decide) (λi j hi=>absurd (show i<0 from hi) (Nat.not_lt_zero _)) (λi j hi=>absurd (show i<0 from hi) (Nat.not_lt_zero _))) .nil
 ·simp
 rintro mm e H ⟨i,rfl,hi,rfl,rfl⟩
 repeat first|with_reducible refine aw ?_|simp only[go_sem,simprocAttr]
 refine⟨λh=>?_,λh=>?_⟩
 ·have hil:i<n:=by omega
  have hi0:(0:Int)<=(i:Int):=by omega
  have ha:=hadd i (by omega)
  have hl1:i+1<1099511627776:=by omega
  have hl2:(i+1)*24<=140737488355328:=by omega
  have hl3:i<=9223372036854775806:=by omega
  have hmb:=de (rY (L i) R (by omega)) (by rfl)
  simp only[List.map_cons,List.map_nil,RT.fz] at hmb
  repeat first|with_reducible refine aw ?_|simp only[hi0,h,decide_true,go_sem,simprocAttr]
  refine ao [] (.cons (.rfl (by rfl)) .nil) hmb (by simp only[AH.mark_next,ae,au,av,am,ah,aj,af,ai,ag,List.length_cons,List.length_nil];decide) ?_
  repeat first|with_reducible refine aw ?_|simp only[ha,hl1,hl2,hl3,go_sem,simprocAttr]
  refine⟨_,_,_,?_,Wk.mk [2] [] ?_ ?_ ?_,i+1,rfl,by omega,rfl,rfl⟩
  ·omega
  ·simp only[aX,aV,go_sem,simprocAttr]
   repeat' refine aa ?_ ?_
   all_goals first|exact ba|skip
  ·exact .cons rfl (.rowW (by simp only[go_sem,simprocAttr];rfl) (by rfl) (by rfl) (by rfl) (by rw[app_size];show(i+1)*1<=_;simp only[cf.len,List.length_singleton];omega) (by rw[cy];exact Nat.le_refl _) rfl (by decide) (λq j hq hj=>dS (by omega) hq hj (.rfl (by rfl)))) .nil
  ·simp
 ·have hk:i=n:=by omega
  subst hk
  repeat first|with_reducible refine aw ?_|simp only[go_sem,simprocAttr]
  exact⟨[_,_],rfl,cn.o (x:=aD 39 1 i 0 (gC (λi=>dG (L i) R))) (by simp only[go_sem,simprocAttr]) rfl rfl rfl (by decide) (Nat.le_refl _) (Nat.le_refl _) (λi j hi hj=>aL i j hj) (λi j hi hj=>rfl) rfl (cn.v rfl rfl .nil)⟩
theorem mW(na:Nat)(ra:Nat->Nat->AV)(regs par er:Int)(cs:List In)(v:AV)(he:er≠0)(hlive:bA Try.prog 12 [ax na ra regs par cs] [.v v,.v (.n .i64 er)]):
  bA Try.prog 14 [ax na ra regs par cs] [.v (.n .i64 0),.v (.n .i64 er)]:=by
 refine aB aW CN ⟨by simp,by decide⟩ ?_
 simp only[bt,ax] at hlive ⊢
 repeat first|with_reducible refine aw ?_|simp only[go_sem,simprocAttr]
 refine ao [] (.cons (.rfl (by rfl)) .nil) hlive (by simp only[AH.mark_next,ae,au,av,am,ah,aj,af,ai,ag,List.length_cons,List.length_nil];decide) ?_
 repeat first|with_reducible refine aw ?_|simp only[he,decide_true,decide_false,go_sem,simprocAttr]
 exact⟨[_,_],rfl,cn.v rfl rfl (cn.v rfl rfl .nil)⟩
theorem oL(na:Nat)(ra:Nat->Nat->AV)(regs par:Int)(cs:List In)(L:Nat->List Nat)(n:Nat)(hn:n<=20000)(hL:∀i,(L i).length<=100000)(hlive:bA Try.prog 12 [ax na ra regs par cs] [.v (.fs 1 n (gC L)),.v (.n .i64 0)]):
  bA Try.prog 14 [ax na ra regs par cs] [.v (.n .i64 (r8 L n)),.v (.n .i64 0)]:=by
 have hadd:∀j:Nat,j<100000->IntKind.wrap .i64 ((j:Int)+1)=((j+1:Nat):Int):=λj hj=>by rw[aJ (by omega)];omega
 refine aB aW CN ⟨by simp,by decide⟩ ?_
 simp only[bt,ax] at hlive ⊢
 repeat first|with_reducible refine aw ?_|simp only[go_sem,simprocAttr]
 refine ao [] (.cons (.rfl (by rfl)) .nil) hlive (by simp only[AH.mark_next,ae,au,av,am,ah,aj,af,ai,ag,List.length_cons,List.length_nil];decide) ?_
 repeat first|with_reducible refine aw ?_|simp only[go_sem,simprocAttr]
 refine GA.loop (I:=λmm e' H=>∃(i:Nat),mm=n-i/\i<=n/\e'=az [(4,.fs 1 n (gC L)),(6,.n .i64 (r8 L i)),(7,.n .i64 i)]/\H=aP []) (Wk.mk [] [] ?_ ?_ ?_) ⟨0,rfl,Nat.zero_le _,rfl,rfl⟩ ?_
 ·simp only[aX,aV,go_sem,simprocAttr]
  repeat' refine aa ?_ ?_
  all_goals first|exact ba|skip
 ·exact .nil
 ·simp
 rintro mm e' H ⟨i,rfl,hi,rfl,rfl⟩
 repeat first|with_reducible refine aw ?_|simp only[go_sem,simprocAttr]
 refine⟨λh=>?_,λh=>?_⟩
 ·have hil:i<n:=by omega
  have hi0:(0:Int)<=(i:Int):=by omega
  have ha:=hadd i (by omega)
  have hgC:gC L i 0= .fs 1 (L i).length (λj _=> .n .i64 (((L i).getD j 0:Nat):Int)):=rfl
  have hmx:(if(r8 L i:Int)<((L i).length:Int) then((L i).length:Int) else(r8 L i:Int))=((r8 L (i+1):Nat):Int):=by
   show _=((max (r8 L i) (L i).length:Nat):Int)
   split<;>omega
  repeat first|with_reducible refine aw ?_|simp only[hi0,h,hgC,decide_true,ha,hmx,go_sem,simprocAttr]
  refine⟨_,_,_,?_,Wk.mk [] [] ?_ ?_ ?_,i+1,rfl,by omega,rfl,rfl⟩
  ·omega
  ·simp only[aX,aV,go_sem,simprocAttr]
   repeat' refine aa ?_ ?_
   all_goals first|exact ba|skip
  ·exact .nil
  ·simp
 ·have hk:i=n:=by omega
  subst hk
  repeat first|with_reducible refine aw ?_|simp only[go_sem,simprocAttr]
  exact⟨[_,_],rfl,⟨rfl,rfl⟩,⟨rfl,rfl⟩,True.intro⟩
def wh(f:Nat->Bool):Nat->Nat
 |0=>0
 |r+1=>wh f r+(if f r then 1 else 0)
def Cj(f:Nat->Bool)(R:Nat):List Int:=(List.range R).map λr=>((wh f r:Nat):Int)
theorem sr{P:Nat->Prop}:∀B:Nat,¬P B->∃c,ef P c:=by
 intro B
 induction B using Nat.strongRecOn with
 |_ B ih=>
  intro hB
  by_cases h:∃c,c<B/\¬P c
  ·obtain⟨c,h1,h2⟩:=h
   exact ih c h1 h2
  ·exact⟨B,hB,λc' hc'=>Classical.byContradiction λh2=>h ⟨c',hc',h2⟩⟩
def gh(K:Nat->Nat)(r c:Nat):Nat->Nat:=λx=>if x=r then c else K x
theorem rL.add{occ:Nat->Bool}{nb:Nat->Nat->Prop}{n:Nat}{K:Nat->Nat}(h:rL occ nb n K)(ho:occ n=true){c:Nat}(hc:ef (λc=>∃s,s<n/\occ s=true/\nb n s/\K s=c) c):rL occ nb (n+1) (gh K n c):=by
 have hK:∀s,s<n->gh K n c s=K s:=λs hs=>if_neg (by omega)
 refine⟨λr hr hor=>?_,λr hr hor=>?_⟩
 ·by_cases e:r=n
  ·subst e
   have:gh K r c r=c:=if_pos rfl
   rw[this]
   refine hc.congr (λc=>⟨λ⟨s,h1,h2,h3,h4⟩=>⟨s,h1,h2,h3,by rw[hK s h1];exact h4⟩,λ⟨s,h1,h2,h3,h4⟩=>⟨s,h1,h2,h3,by rw[<-hK s h1];exact h4⟩⟩)
  ·rw[hK r (by omega)]
   refine(h.yes r (by omega) hor).congr (λc=>⟨λ⟨s,h1,h2,h3,h4⟩=>⟨s,h1,h2,h3,by rw[hK s (by omega)];exact h4⟩,λ⟨s,h1,h2,h3,h4⟩=>⟨s,h1,h2,h3,by rw[<-hK s (by omega)];exact h4⟩⟩)
 ·by_cases e:r=n
  ·subst e;rw[ho] at hor;cases hor
  ·rw[hK r (by omega)];exact h.no r (by omega) hor
theorem rL.pass{occ:Nat->Bool}{nb:Nat->Nat->Prop}{n:Nat}{K:Nat->Nat}(h:rL occ nb n K)(ho:occ n=false)(hk:K n=0):rL occ nb (n+1) K:=
 ⟨λr hr hor=>h.yes r (by
  by_cases e:r=n
  ·subst e;rw[ho] at hor;cases hor
  ·omega) hor,λr hr hor=>by
  by_cases e:r=n
  ·subst e;exact hk
  ·exact h.no r (by omega) hor⟩
theorem iU(occ:Nat->Bool)(nb:Nat->Nat->Prop):∀n,∃K:Nat->Nat,rL occ nb n K/\(∀r,n<=r->K r=0)/\∃B,∀r,K r<B
 |0=>⟨λ_=>0,⟨λr h=>by omega,λr h=>by omega⟩,λ_ _=>rfl,1,λ_=>Nat.one_pos⟩
 |n+1=>by
  obtain⟨K,h1,h2,B,h3⟩:=iU occ nb n
  cases ho:occ n with
  |false=>exact⟨K,h1.pass ho (h2 n (Nat.le_refl _)),λr hr=>h2 r (by omega),B,h3⟩
  |true=>
   obtain⟨c,hc⟩:=sr (P:=λc=>∃s,s<n/\occ s=true/\nb n s/\K s=c) B (λ⟨s,_,_,_,h⟩=>by have:=h3 s;omega)
   refine⟨gh K n c,h1.add ho hc,λr hr=>?_,max B (c+1),λr=>?_⟩
   ·show(if r=n then c else K r)=0
    rw[if_neg (by omega)];exact h2 r (by omega)
   ·show(if r=n then c else K r)<_
    have:=h3 r
    split<;>omega
noncomputable def wg(occ:Nat->Bool)(nb:Nat->Nat->Prop)(n:Nat):Nat->Nat:=Classical.choose (iU occ nb n)
theorem rj(occ:Nat->Bool)(nb:Nat->Nat->Prop)(n:Nat):rL occ nb n (wg occ nb n):=(Classical.choose_spec (iU occ nb n)).1
def eh(K:Nat->Nat)(occ:Nat->Bool):Nat->Nat
 |0=>0
 |r+1=>if occ r=true then max (eh K occ r) (K r+1) else eh K occ r
theorem fX{K K':Nat->Nat}{occ:Nat->Bool}:∀{n:Nat},(∀r,r<n->K r=K' r)->eh K occ n=eh K' occ n
 |0,_=>rfl
 |n+1,h=>by unfold eh;rw[fX (λr hr=>h r (by omega)),h n (by omega)]
theorem uq{K:Nat->Nat}{occ:Nat->Bool}:∀{n:Nat},(∀r,r<n->K r<=r)->eh K occ n<=n
 |0,_=>Nat.le_refl _
 |n+1,h=>by
  have:=uq (K:=K) (occ:=occ) (n:=n) (λr hr=>h r (by omega))
  have:=h n (by omega)
  unfold eh;split<;>omega
def kL(K:Nat->Nat)(R:Nat):List Int:=(List.range R).map λr=>((K r:Nat):Int)
theorem JD(K:Nat->Nat)(R:Nat):(kL K R).length=R:=by unfold kL;simp
theorem sK(K:Nat->Nat)(R r:Nat)(h:r<R):(kL K R).getD r 0=((K r:Nat):Int):=by
 unfold kL
 rw[List.getD_eq_getElem?_getD,List.getElem?_map,List.getElem?_range h]
 rfl
def kC(K:Nat->Nat)(f:Nat->Bool)(M:Nat->Bool):Nat->List Int
 |0=>[]
 |s+1=>if f s=true/\M s=true then kC K f M s++[((K s:Nat):Int)] else kC K f M s
theorem kT{K:Nat->Nat}{f M:Nat->Bool}:∀{q:Nat} {v:Int},v ∈ kC K f M q↔∃s,s<q/\f s=true/\M s=true/\((K s:Nat):Int)=v
 |0,v=>⟨λh=>(by cases h),λ⟨s,h,_⟩=>by omega⟩
 |q+1,v=>by
  unfold kC
  by_cases e:f q=true/\M q=true
  ·rw[if_pos e,List.mem_append,List.mem_singleton,kT]
   constructor
   ·rintro (⟨s,h1,h2⟩|h)
    ·exact⟨s,by omega,h2⟩
    ·exact⟨q,by omega,e.1,e.2,h.symm⟩
   ·rintro ⟨s,h1,h2,h3,h4⟩
    by_cases e2:s=q
    ·subst e2;exact .inr h4.symm
    ·exact .inl ⟨s,by omega,h2,h3,h4⟩
  ·rw[if_neg e,kT]
   constructor
   ·rintro ⟨s,h1,h2⟩;exact⟨s,by omega,h2⟩
   ·rintro ⟨s,h1,h2,h3,h4⟩
    by_cases e2:s=q
    ·subst e2;exact absurd ⟨h2,h3⟩ e
    ·exact⟨s,by omega,h2,h3,h4⟩
theorem oz(K:Nat->Nat)(f M:Nat->Bool):∀q,(kC K f M q).length<=q
 |0=>Nat.le_refl _
 |q+1=>by
  have:=oz K f M q
  unfold kC;split
  ·rw[List.length_append,List.length_singleton];omega
  ·omega
abbrev kF(K:Nat->Nat):Nat->Nat->AV:=nF λc=>((K c:Nat):Int)
theorem yE{ty R:Nat}{K:Nat->Nat}(c:Nat):(aD ty 1 R 0 (kF K)).get c= .n .i64 ((K c:Nat):Int):=by
 have:=aL (ty:=ty) (n:=R) (z:=0) (row:=kF K) c 0 (by decide:0<1)
 rw[Nat.mul_one,Nat.add_zero] at this
 exact this
theorem JE{K:Nat->Nat}{r c R:Nat}{v:Int}(hv:v=(c:Int)):∀i j,i<R->j<1->(if i=r then[AV.n .i64 v][j]?.getD .u else kF K i j)=kF (gh K r c) i j:=λi j _ hj=>by
 obtain rfl:j=0:=by omega
 show _=AV.n .i64 (((if i=r then c else K i):Nat):Int)
 by_cases e:i=r
 ·rw[if_pos e,if_pos e,hv];rfl
 ·rw[if_neg e,if_neg e];rfl
abbrev mV(R:Nat)(f:Nat->Bool)(M:Nat->Nat->Bool)(n r:Nat):List (Nat×AV):=[(1,.p 0 0),(4,.fs 1 R (bC f)),(5,.fs 1 R (λi _=> .fs 1 R (bC (M i)))),(6,.os 1 R),(7,.n .i64 n),(8,.n .i64 r)]
theorem Ba(la:List (Bool×Int))(par:Int)(cs:List In)(R:Nat)(hR2:R<=2000)(f:Nat->Bool)(M:Nat->Nat->Bool)(n r:Nat)(hr:r<R)(K:Nat->Nat)(Q:AE->Tr AV->AH->Prop)
  (hQ:GA Try.prog 75 (aE Try.prog 47) (.seq (.block 4 ox) (.reg ow)) (az ((9,.fs 1 (kC K f (M r) r).length (iC .i64 (kC K f (M r) r)))::mV R f M n r)) (aP [aD 3 1 R 0 (kF K),aK 0 25 [.fs 2 la.length (aC la),.n .i64 R,.n .i64 par,.fs 5 cs.length (cC cs)]]) Q):
  GA Try.prog 75 (aE Try.prog 47) (.seq (.reg CM) (.seq (.seq (.reg CL) (.block 2 wS)) (.seq (.block 4 ox) (.reg ow)))) (az (mV R f M n r)) (aP [aD 3 1 R 0 (kF K),aK 0 25 [.fs 2 la.length (aC la),.n .i64 R,.n .i64 par,.fs 5 cs.length (cC cs)]]) Q:=by
 have hadd:∀j:Nat,j<100000->IntKind.wrap .i64 ((j:Int)+1)=((j+1:Nat):Int):=λj hj=>by rw[aJ (by omega)];omega
 repeat first|with_reducible refine aw ?_|simp only[go_sem,simprocAttr]
 refine GA.wk (Wk.nil 9 1 3 (by simp only[go_sem,simprocAttr]) (by decide) (by simp only[go_sem,simprocAttr])) ?_
 refine GA.loop (I:=λmm e H=>∃(q:Nat),mm=r-q/\q<=r/\e=az ((10,.n .i64 q)::(9,.os 2 (kC K f (M r) q).length)::mV R f M n r)/\H=aP [aD 3 1 (kC K f (M r) q).length 0 (iC .i64 (kC K f (M r) q)),aD 3 1 R 0 (kF K),aK 0 25 [.fs 2 la.length (aC la),.n .i64 R,.n .i64 par,.fs 5 cs.length (cC cs)]]) (Wk.mk [2,1,0] [] ?_ ?_ ?_) ⟨0,rfl,Nat.zero_le _,rfl,rfl⟩ ?_
 ·simp only[aX,aV,mV,go_sem,simprocAttr]
  repeat' refine aa ?_ ?_
  all_goals first|exact ba|skip
  all_goals first|exact Wv.same rfl|exact Wv.os rfl
 ·exact .cons rfl (.rows (x:=_) (by simp only[go_sem,simprocAttr];rfl) (by rfl) (by rfl) (by rfl) (by show 0*1<=0;decide) (by exact Nat.le_refl _) (by decide) (λi j hi=>absurd (show i<0 from hi) (Nat.not_lt_zero _)) (λi j hi=>absurd (show i<0 from hi) (Nat.not_lt_zero _))) (.cons rfl (.k1 (hx:=by simp only[go_sem,simprocAttr]<;>rfl)) (.cons rfl .ls .nil))
 ·simp
 rintro mm e H ⟨q,rfl,hq,rfl,rfl⟩
 repeat first|with_reducible refine aw ?_|simp only[go_sem,simprocAttr]
 refine⟨λh=>?_,λh=>?_⟩
 ·have hql:q<r:=by omega
  have hq0:(0:Int)<=(q:Int):=by omega
  have hq1:(q:Int)<(R:Int):=by omega
  have hqR:q<R:=by omega
  have hr0:(0:Int)<=(r:Int):=by omega
  have hr1:(r:Int)<(R:Int):=by omega
  have haq:=hadd q (by omega)
  have hbq:bC f q 0= .b (f q):=rfl
  have hbm:bC (M r) q 0= .b (M r q):=rfl
  have htl:=oz K f (M r) q
  have hkg:=yE (ty:=3) (R:=R) (K:=K) q
  have hl1:(kC K f (M r) q).length+1<1099511627776:=by omega
  have hl2:((kC K f (M r) q).length+1)*8<=140737488355328:=by omega
  have hl3:(kC K f (M r) q).length<=9223372036854775806:=by omega
  have hts:kC K f (M r) (q+1)=if f q=true/\M r q=true then kC K f (M r) q++[((K q:Nat):Int)] else kC K f (M r) q:=rfl
  cases hf:f q with
  |false=>
   rw[hf] at hbq
   rw[hf,if_neg (λh=>by cases h.1)] at hts
   repeat first|with_reducible refine aw ?_|simp only[hq0,hq1,hbq,haq,decide_true,go_sem,simprocAttr]
   refine⟨_,_,_,?_,Wk.mk [2,1,0] [] ?_ ?_ ?_,q+1,rfl,by omega,rfl,rfl⟩
   ·omega
   ·rw[hts]
    simp only[aX,aV,mV,go_sem,simprocAttr]
    repeat' refine aa ?_ ?_
    all_goals first|exact ba|skip
    all_goals first|exact Wv.same rfl|exact Wv.os rfl
   ·rw[hts]
    exact .cons rfl .k1 (.cons rfl .k1 (.cons rfl .ls .nil))
   ·simp
  |true=>
   rw[hf] at hbq
   cases hm:M r q with
   |false=>
    rw[hm] at hbm
    rw[hm,if_neg (λh=>by cases h.2)] at hts
    repeat first|with_reducible refine aw ?_|simp only[hq0,hq1,hr0,hr1,hbq,hbm,haq,decide_true,go_sem,simprocAttr]
    refine⟨_,_,_,?_,Wk.mk [2,1,0] [] ?_ ?_ ?_,q+1,rfl,by omega,rfl,rfl⟩
    ·omega
    ·rw[hts]
     simp only[aX,aV,mV,go_sem,simprocAttr]
     repeat' refine aa ?_ ?_
     all_goals first|exact ba|skip
     all_goals first|exact Wv.same rfl|exact Wv.os rfl
    ·rw[hts]
     exact .cons rfl .k1 (.cons rfl .k1 (.cons rfl .ls .nil))
    ·simp
   |true=>
    rw[hm] at hbm
    rw[hf,hm,if_pos ⟨rfl,rfl⟩] at hts
    have htl2:(kC K f (M r) (q+1)).length=(kC K f (M r) q).length+1:=by rw[hts,List.length_append,List.length_singleton]
    repeat first|with_reducible refine aw ?_|simp only[hq0,hq1,hqR,hr0,hr1,hbq,hbm,hkg,haq,hl1,hl2,hl3,decide_true,go_sem,simprocAttr]
    refine⟨_,az ((10,.n .i64 (q+1:Nat))::(9,.os 2 (kC K f (M r) (q+1)).length)::mV R f M n r),aP [aD 3 1 (kC K f (M r) (q+1)).length 0 (iC .i64 (kC K f (M r) (q+1))),aD 3 1 R 0 (kF K),aK 0 25 [.fs 2 la.length (aC la),.n .i64 R,.n .i64 par,.fs 5 cs.length (cC cs)]],?_,Wk.mk [4,1,0] [] ?_ ?_ ?_,q+1,rfl,by omega,rfl,rfl⟩
    ·omega
    ·rw[htl2]
     simp only[aX,aV,mV,go_sem,simprocAttr]
     repeat' refine aa ?_ ?_
     all_goals first|exact ba|skip
     all_goals first|exact Wv.same rfl|exact Wv.os rfl
    ·rw[htl2]
     refine .cons rfl (.snoc (by simp only[go_sem,simprocAttr]<;>rfl) (by simp) rfl rfl (by decide) (by omega) (λi j hi hj=>?_) (λj hj=>?_) (λi j _ _=>rfl)) (.cons rfl .k1 (.cons rfl .ls .nil))
     ·unfold iC
      rw[hts,List.getD_eq_getElem?_getD,List.getElem?_append_left hi,<-List.getD_eq_getElem?_getD]
     ·obtain rfl:j=0:=by omega
      unfold iC
      rw[hts,List.getD_eq_getElem?_getD,List.getElem?_append_right (Nat.le_refl _),Nat.sub_self]
      rfl
    ·simp
 ·have hqr:q=r:=by omega
  subst hqr
  (try simp only[go_sem,simprocAttr])
  iterate 1 (with_reducible refine GA.go aW rfl ?_;try simp only[go_sem,simprocAttr])
  refine GA.wk (Wk.mk (L:=(9,.fs 1 (kC K f (M q) q).length (iC .i64 (kC K f (M q) q)))::mV R f M n q) (bl:=[aD 3 1 R 0 (kF K),aK 0 25 [.fs 2 la.length (aC la),.n .i64 R,.n .i64 par,.fs 5 cs.length (cC cs)]]) [1,0] [2] ?_ ?_ ?_) hQ
  ·simp only[aX,aV,mV,go_sem,simprocAttr]
   repeat' refine aa ?_ ?_
   all_goals first|exact ba|skip
   all_goals first|exact Wv.same rfl|exact Wv.os rfl|exact Wv.cv (Cv.own (ty:=3) (z:=0) (by simp) (by simp only[go_sem,simprocAttr]) (λ_ _ _ _=>rfl))
  ·exact .cons rfl .k1 (.cons rfl .ls .nil)
  ·simp
theorem Q0(la:List (Bool×Int))(par:Int)(cs:List In)(R:Nat)(hR2:R<=2000)(f:Nat->Bool)(M:Nat->Nat->Bool)(n r:Nat)(hr:r<R)(K:Nat->Nat)(hK:K r=0)(tk:List Int)(htl:tk.length<=2000)(Q:AE->Tr AV->AH->Prop)
  (hQ:∀(c:Nat) e' H',(¬(c:Int) ∈ tk)->(∀c':Nat,c'<c->(c':Int) ∈ tk)->Wk 75 e' H' (az (mV R f M (max n (c+1)) r)) (aP [aD 3 1 R 0 (kF (gh K r c)),aK 0 25 [.fs 2 la.length (aC la),.n .i64 R,.n .i64 par,.fs 5 cs.length (cC cs)]])->Q .normal e' H'):
  GA Try.prog 75 (aE Try.prog 47) (.seq (.block 4 ox) (.reg ow)) (az ((9,.fs 1 tk.length (iC .i64 tk))::mV R f M n r)) (aP [aD 3 1 R 0 (kF K),aK 0 25 [.fs 2 la.length (aC la),.n .i64 R,.n .i64 par,.fs 5 cs.length (cC cs)]]) Q:=by
 have hadd:∀j:Nat,j<100000->IntKind.wrap .i64 ((j:Int)+1)=((j+1:Nat):Int):=λj hj=>by rw[aJ (by omega)];omega
 have hr0:(0:Int)<=(r:Int):=by omega
 have hr1:(r:Int)<(R:Int):=by omega
 have hr2:r+1<=R:=hr
 have hk0:gh K r 0=K:=by
  funext x
  unfold gh
  by_cases e:x=r
  ·subst e;rw[if_pos rfl,hK]
  ·rw[if_neg e]
 refine GA.seq ?_
 refine GA.block ?_
 refine GA.loop (I:=λmm e H=>∃(c:Nat),mm=tk.length+1-c/\c<=tk.length/\(∀c':Nat,c'<c->(c':Int) ∈ tk)/\e=az ((9,.fs 1 tk.length (iC .i64 tk))::mV R f M n r)/\H=aP [aD 3 1 R 0 (kF (gh K r c)),aK 0 25 [.fs 2 la.length (aC la),.n .i64 R,.n .i64 par,.fs 5 cs.length (cC cs)]]) Wk.refl ⟨0,rfl,Nat.zero_le _,λc' h=>by omega,rfl,by rw[hk0]⟩ ?_
 rintro mm e H ⟨c,rfl,hc,hlt,rfl,rfl⟩
 have hkg:(aD 3 1 R 0 (kF (gh K r c))).get r= .n .i64 (c:Int):=by
  rw[yE]
  show AV.n .i64 (((if r=r then c else K r:Nat)):Int)=_
  rw[if_pos rfl]
 have hac:=hadd c (by omega)
 repeat first|with_reducible refine aw ?_|simp only[hr0,hr1,hr,hkg,decide_true,go_sem,simprocAttr]
 refine ao [] (.cons (.rfl (by rfl)) (.cons (.rfl (by rfl)) .nil)) (qk tk (by omega) (c:Int)) (by simp only[AH.mark_next,ae,au,av,am,ah,aj,af,ai,ag,List.length_cons,List.length_nil];decide) ?_
 cases hin:tk.contains (c:Int) with
 |true=>
  have hin':=List.contains_iff_mem.1 hin
  have hlt2:∀c':Nat,c'<c+1->(c':Int) ∈ tk:=λc' h=>by
   by_cases e:c'=c
   ·subst e;exact hin'
   ·exact hlt c' (by omega)
  have hsub:=eW (l:=(List.range (c+1)).map (λn:Nat=>(n:Int))) (l':=tk) (List.pairwise_map.2 (List.nodup_range.imp λh e=>h (by omega))) (λv hv=>by
   obtain⟨n,hn,rfl⟩:=List.mem_map.1 hv
   exact hlt2 n (List.mem_range.1 hn))
  rw[List.length_map,List.length_range] at hsub
  repeat first|with_reducible refine aw ?_|simp only[hr0,hr1,hr,hr2,hkg,hac,decide_true,go_sem,simprocAttr]
  refine⟨_,_,_,?_,Wk.mk [1,0] [] ?_ ?_ ?_,c+1,rfl,hsub,hlt2,rfl,rfl⟩
  ·omega
  ·simp only[aX,aV,mV,go_sem,simprocAttr]
   repeat' refine aa ?_ ?_
   all_goals first|exact ba|skip
   all_goals first|exact Wv.same rfl|exact Wv.os rfl
  ·have hkk:∀i j,i<R->j<1->(if i=r then[AV.n .i64 (((c+1:Nat)):Int)][j]?.getD .u else kF (gh K r c) i j)=kF (gh K r (c+1)) i j:=λi j hi hj=>by
    rw[JE (c:=c+1) rfl i j hi hj]
    show AV.n .i64 (((if i=r then c+1 else(if i=r then c else K i):Nat)):Int)=AV.n .i64 (((if i=r then c+1 else K i:Nat)):Int)
    by_cases e:i=r
    ·rw[if_pos e,if_pos e]
    ·rw[if_neg e,if_neg e,if_neg e]
   exact .cons rfl (.put (q:=r) (by simp only[go_sem,simprocAttr];rfl) (by simp) rfl hr rfl (by decide) (by omega) hkk (λi j hi hj=>rfl)) (.cons rfl .ls .nil)
  ·simp
 |false=>
  have hno:¬(c:Int) ∈ tk:=λh=>by rw[List.contains_iff_mem.2 h] at hin;cases hin
  have hmx:(if(n:Int)<((c+1:Nat):Int) then((c+1:Nat):Int) else(n:Int))=((max n (c+1):Nat):Int):=by split<;>omega
  repeat first|with_reducible refine aw ?_|simp only[hr0,hr1,hr,hkg,hac,hmx,decide_true,go_sem,simprocAttr]
  refine hQ c _ _ hno hlt (Wk.mk [1,0] [] ?_ ?_ ?_)
  ·simp only[aX,aV,mV,go_sem,simprocAttr]
   repeat' refine aa ?_ ?_
   all_goals first|exact ba|skip
   all_goals first|exact Wv.same rfl|exact Wv.os rfl
  ·exact .cons rfl .k1 (.cons rfl .ls .nil)
  ·simp
theorem qr(la:List (Bool×Int))(par:Int)(cs:List In)(R:Nat)(hR2:R<=2000)(f:Nat->Bool)(M:Nat->Nat->Bool)
  (ho:bA Try.prog 53 [ax la.length (aC la) R par cs] [.v (.fs 1 R (bC f))])
  (hi:bA Try.prog 79 [ax la.length (aC la) R par cs] [.v (.fs 1 R (λi _=> .fs 1 R (bC (M i))))]):
  bA Try.prog 47 [ax la.length (aC la) R par cs] [.v (.fs 1 R (iC .i64 (kL (wg f (λr s=>M r s=true) R) R))),.v (.n .i64 (eh (wg f (λr s=>M r s=true) R) f R))]:=by
 have hadd:∀j:Nat,j<100000->IntKind.wrap .i64 ((j:Int)+1)=((j+1:Nat):Int):=λj hj=>by rw[aJ (by omega)];omega
 have hR0:(0:Int)<=(R:Int):=by omega
 have hR1:(R:Int)<=16777216:=by omega
 have hR3:8*R<=140737488355328:=by omega
 have hR4:R<1099511627776:=by omega
 have hR5:R<=140737488355328:=by omega
 refine de (rs:=[.o 3 1 R 0 (iC .i64 (kL (wg f (λr s=>M r s=true) R) R)),.v (.n .i64 (eh (wg f (λr s=>M r s=true) R) f R))]) ?_ (by rfl)
 refine aB aW MI ⟨by simp,by decide⟩ ?_
 simp only[bt,ax] at ho hi ⊢
 repeat first|with_reducible refine aw ?_|simp only[go_sem,simprocAttr]
 refine ao [] (.cons (.rfl (by rfl)) .nil) ho (by simp only[AH.mark_next,ae,au,av,am,ah,aj,af,ai,ag,List.length_cons,List.length_nil];decide) ?_
 repeat first|with_reducible refine aw ?_|simp only[go_sem,simprocAttr]
 refine ao [] (.cons (.rfl (by rfl)) .nil) hi (by simp only[AH.mark_next,ae,au,av,am,ah,aj,af,ai,ag,List.length_cons,List.length_nil];decide) ?_
 repeat first|with_reducible refine aw ?_|simp only[hR0,hR1,hR3,hR4,hR5,Int.le_refl,decide_true,go_sem,simprocAttr]
 refine GA.loop (I:=λmm e H=>∃(r:Nat) (K:Nat->Nat),mm=R-r/\r<=R/\rL f (λr s=>M r s=true) r K/\(∀c,r<=c->K c=0)/\e=az (mV R f M (eh K f r) r)/\H=aP [aD 3 1 R 0 (kF K),aK 0 25 [.fs 2 la.length (aC la),.n .i64 R,.n .i64 par,.fs 5 cs.length (cC cs)]]) (Wk.mk [1,0] [] ?_ ?_ ?_) ⟨0,λ_=>0,rfl,Nat.zero_le _,⟨λr h=>by omega,λr h=>by omega⟩,λ_ _=>rfl,rfl,rfl⟩ ?_
 ·simp only[aX,aV,mV,go_sem,simprocAttr]
  repeat' refine aa ?_ ?_
  all_goals first|exact ba|skip
  all_goals first|exact Wv.same rfl|exact Wv.os rfl
 ·refine .cons rfl (.same (by simp only[go_sem,simprocAttr]<;>rfl) rfl (by decide) (λi j h hj=>?_) (λi j h hj=>rfl)) (.cons rfl .ls .nil)
  obtain rfl:j=0:=by omega
  rfl
 ·simp
 rintro mm e H ⟨r,K,rfl,hr,hcol,hz,rfl,rfl⟩
 repeat first|with_reducible refine aw ?_|simp only[go_sem,simprocAttr]
 refine⟨λh=>?_,λh=>?_⟩
 ·have hrl:r<R:=by omega
  have hr0:(0:Int)<=(r:Int):=by omega
  have har:=hadd r (by omega)
  have hbr:bC f r 0= .b (f r):=rfl
  have hcr:eh K f (r+1)=if f r=true then max (eh K f r) (K r+1) else eh K f r:=rfl
  cases hf:f r with
  |false=>
   rw[hf] at hbr hcr
   have hcr:eh K f (r+1)=eh K f r:=hcr
   repeat first|with_reducible refine aw ?_|simp only[hr0,h,hbr,har,decide_true,go_sem,simprocAttr]
   refine⟨_,_,_,?_,Wk.mk [1,0] [] ?_ ?_ ?_,r+1,K,rfl,by omega,hcol.pass hf (hz r (Nat.le_refl _)),λc hc=>hz c (by omega),rfl,rfl⟩
   ·omega
   ·rw[hcr]
    simp only[aX,aV,mV,go_sem,simprocAttr]
    repeat' refine aa ?_ ?_
    all_goals first|exact ba|skip
    all_goals first|exact Wv.same rfl|exact Wv.os rfl
   ·exact .cons rfl .k1 (.cons rfl .ls .nil)
   ·simp
  |true=>
   rw[hf] at hbr
   (try simp only[hr0,h,hbr,decide_true,go_sem,simprocAttr])
   iterate 8 (with_reducible refine GA.go aW rfl ?_;try simp only[hr0,h,hbr,decide_true,go_sem,simprocAttr])
   refine GA.wk (Wk.mk (L:=mV R f M (eh K f r) r) (bl:=[aD 3 1 R 0 (kF K),aK 0 25 [.fs 2 la.length (aC la),.n .i64 R,.n .i64 par,.fs 5 cs.length (cC cs)]]) [1,0] [] ?_ ?_ ?_) ?_
   ·simp only[aX,aV,mV,go_sem,simprocAttr]
    repeat' refine aa ?_ ?_
    all_goals first|exact ba|skip
    all_goals first|exact Wv.same rfl|exact Wv.os rfl
   ·exact .cons rfl .k1 (.cons rfl .ls .nil)
   ·simp
   refine Ba la par cs R hR2 f M (eh K f r) r hrl K _ ?_
   have htl:=oz K f (M r) r
   refine Q0 la par cs R hR2 f M (eh K f r) r hrl K (hz r (Nat.le_refl _)) (kC K f (M r) r) (by omega) _ (λc e' H' hno hlt hwk=>?_)
   simp only[go_sem,simprocAttr]
   refine GA.wk hwk ?_
   have hmex:ef (λc=>∃s,s<r/\f s=true/\M r s=true/\K s=c) c:=⟨λ⟨s,h1,h2,h3,h4⟩=>hno (kT.2 ⟨s,h1,h2,h3,by omega⟩),λc' hc'=>by
    obtain⟨s,h1,h2,h3,h4⟩:=kT.1 (hlt c' hc')
    exact⟨s,h1,h2,h3,by omega⟩⟩
   have hcr2:eh (gh K r c) f (r+1)=max (eh K f r) (c+1):=by
    show(if f r=true then max (eh (gh K r c) f r) (gh K r c r+1) else _)=_
    rw[if_pos hf,fX (K:=gh K r c) (K':=K) (λq hq=>if_neg (by omega))]
    have:gh K r c r=c:=if_pos rfl
    rw[this]
   repeat first|with_reducible refine aw ?_|simp only[har,go_sem,simprocAttr]
   refine⟨_,_,_,?_,Wk.mk [1,0] [] ?_ ?_ ?_,r+1,gh K r c,rfl,by omega,hcol.add hf hmex,λq hq=>?_,rfl,rfl⟩
   ·omega
   ·rw[hcr2]
    simp only[aX,aV,mV,go_sem,simprocAttr]
    repeat' refine aa ?_ ?_
    all_goals first|exact ba|skip
    all_goals first|exact Wv.same rfl|exact Wv.os rfl
   ·exact .cons rfl .k1 (.cons rfl .ls .nil)
   ·simp
   ·show(if q=r then c else K q)=0
    rw[if_neg (by omega)];exact hz q (by omega)
 ·have hrR:r=R:=by omega
  subst hrR
  have hu:=hcol.uniq (rj f (λq s=>M q s=true) r) (λ_ _=>Iff.rfl)
  rw[fX hu]
  repeat first|with_reducible refine aw ?_|simp only[go_sem,simprocAttr]
  refine⟨[_,_],rfl,cn.o (x:=aD 3 1 r 0 (kF K)) (by simp only[go_sem,simprocAttr]) rfl rfl rfl (by decide) (Nat.le_refl _) (Nat.le_refl _) (λi j hi hj=>?_) (λi j hi hj=>rfl) rfl (cn.v rfl rfl .nil)⟩
  rw[aL i j hj]
  show AV.n .i64 ((K i:Nat):Int)=AV.n .i64 ((kL _ r).getD i 0)
  rw[sK _ r i hi,hu i hi]
end Go.Proofs.Yteopfmnnhlhbmaa