/- A part of the proof of AllocateFits: RlA RlB RiA RiB RjA RjB RkA RkB RkC. No condition. -/
import Derived.Test.YteopfmnnhlhbmaaHf33
import Derived.Test.YteopfmnnhlhbmaaHf34
import Derived.Test.YteopfmnnhlhbmaaHf17
set_option linter.unusedSimpArgs false
set_option linter.unusedVariables false
set_option linter.constructorNameAsVariable false
set_option maxRecDepth 100000
set_option maxHeartbeats 4000000
namespace Go.Proofs.Yteopfmnnhlhbmaa
open Go.RowKit
def kT(f:Nat->Bool):Nat->Nat
 |0=>0
 |R+1=>kT f R+(if f R then 1 else 0)
def i0(m:Nat->Nat->Bool)(R:Nat):Nat->Nat
 |0=>0
 |n+1=>i0 m R n+kT (m n) R
theorem uw(f:Nat->Bool):∀R,kT f R<=R
 |0=>Nat.le_refl _
 |R+1=>by have:=uw f R;unfold kT;split<;>omega
theorem ux(m:Nat->Nat->Bool)(R:Nat):∀n,i0 m R n<=n*R
 |0=>by simp[i0]
 |n+1=>by have:=ux m R n;have:=uw (m n) R;unfold i0;rw[Nat.succ_mul];omega
theorem eM{f g:Nat->Bool}:∀{R:Nat},(∀c,c<R->f c=g c)->kT f R=kT g R
 |0,_=>rfl
 |R+1,h=>by unfold kT;rw[eM (λc hc=>h c (by omega)),h R (by omega)]
theorem mD{m m2:Nat->Nat->Bool}{R:Nat}:∀{n:Nat},(∀i,i<n->∀c,c<R->m i c=m2 i c)->i0 m R n=i0 m2 R n
 |0,_=>rfl
 |n+1,h=>by unfold i0;rw[mD (λi hi=>h i (by omega)),eM (h n (by omega))]
theorem rB{f:Nat->Bool}{c:Nat}(hf:f c=false):∀{R:Nat},c<R->kT (λd=>if d=c then true else f d) R=kT f R+1
 |0,h=>by omega
 |R+1,h=>by
  unfold kT
  by_cases e:c=R
  ·subst e
   rw[eM (g:=f) (λd hd=>if_neg (by omega)),if_pos (by simp),if_neg (by simp[hf])]
  ·rw[rB hf (show c<R by omega),if_neg (show ¬R=c by omega)]
   omega
theorem rC{m:Nat->Nat->Bool}{i c R:Nat}(hc:c<R)(hf:m i c=false):∀{n:Nat},i<n->i0 (kP m i c true) R n=i0 m R n+1
 |0,h=>by omega
 |n+1,h=>by
  unfold i0
  by_cases e:i=n
  ·subst e
   rw[mD (m2:=m) (λj hj c' _=>by unfold kP;rw[if_neg (by omega)])]
   have:kT (kP m i c true i) R=kT (m i) R+1:=by
    rw[<-rB hf hc]
    refine eM (λd _=>?_)
    unfold kP
    by_cases e2:d=c<;>simp[e2]
   omega
  ·rw[rC hc hf (show i<n by omega),eM (f:=kP m i c true n) (g:=m n) (λd _=>by unfold kP;rw[if_neg (by omega)])]
   omega
noncomputable def Ig(cs:List In)(nx:Nat->List Nat)(i r:Nat):Bool:= @decide (bm cs nx i (r:Int)) (Classical.propDecidable _)
theorem BJ{cs:List In}{nx:Nat->List Nat}{i r:Nat}:Ig cs nx i r=true↔bm cs nx i (r:Int):=by
 unfold Ig
 exact @decide_eq_true_iff _ (Classical.propDecidable _)
abbrev sf(cs:List In)(i:Nat):List Int:=aD (cs.getD i (0,0,0,0,0)).1 (cs.getD i (0,0,0,0,0)).2.2.1 (cs.getD i (0,0,0,0,0)).2.2.2.1
abbrev GQ(cs:List In)(i:Nat):Int:=a8 (cs.getD i (0,0,0,0,0)).1 (cs.getD i (0,0,0,0,0)).2.1
def pW(cs:List In)(nx:Nat->List Nat)(m:Nat->Nat->Bool)(i r:Nat):Nat->Bool
 |0=>(sf cs i).contains (r:Int)
 |q+1=>pW cs nx m i r q||(m ((nx i).getD q 0) r&& !decide ((r:Int)=GQ cs i))
theorem qT{cs:List In}{nx:Nat->List Nat}{m:Nat->Nat->Bool}(hm:∀i r,m i r=true->bm cs nx i (r:Int)){i r:Nat}(hi:i<cs.length):∀{q:Nat},q<=(nx i).length->pW cs nx m i r q=true->bm cs nx i (r:Int)
 |0,_,h=> .read hi (by unfold pW at h;exact List.contains_iff_mem.1 h)
 |q+1,hq,h=>by
  unfold pW at h
  simp only[Bool.or_eq_true,Bool.and_eq_true,Bool.not_eq_true',decide_eq_false_iff_not] at h
  rcases h with h|⟨h1,h2⟩
  ·exact qT hm hi (by omega) h
  ·have hk:(nx i).getD q 0 ∈ nx i:=by rw[List.getD_eq_getElem?_getD,List.getElem?_eq_getElem (by omega)];exact List.getElem_mem _
   exact .flow hi hk (hm _ _ h1) h2
theorem mc{cs:List In}{nx:Nat->List Nat}{m:Nat->Nat->Bool}{i r:Nat}:∀{q q2:Nat},q<=q2->pW cs nx m i r q=true->pW cs nx m i r q2=true
 |q,0,h,h1=>by obtain rfl:q=0:=(by omega);exact h1
 |q,q2+1,h,h1=>by
  by_cases e:q=q2+1
  ·subst e;exact h1
  ·unfold pW;rw[mc (show q<=q2 by omega) h1];rfl
def lx(cs:List In)(nx:Nat->List Nat)(R:Nat)(m:Nat->Nat->Bool)(i:Nat):Prop:=∀r,r<R->pW cs nx m i r (nx i).length=true->m i r=true
theorem kQ{cs:List In}{nx:Nat->List Nat}{R:Nat}{m:Nat->Nat->Bool}(hc:∀i,i<cs.length->lx cs nx R m i){i:Nat}{r:Int}(h:bm cs nx i r):∀n:Nat,n<R->r=(n:Int)->m i n=true:=by
 induction h with
 |read hi h=>
  rintro n hn rfl
  refine hc _ hi n hn (mc (Nat.zero_le _) ?_)
  unfold pW
  exact List.contains_iff_mem.2 h
 |@flow i k r hi hk h hw ih=>
  rintro n hn rfl
  obtain⟨q,hq,e⟩:=List.getElem_of_mem hk
  refine hc _ hi n hn (mc (q:=q+1) (by omega) ?_)
  unfold pW
  have:(nx i).getD q 0=k:=by rw[List.getD_eq_getElem?_getD,List.getElem?_eq_getElem hq,e];rfl
  rw[this,ih n hn rfl,decide_eq_false hw]
  simp
structure uJ(cs:List In)(nx:Nat->List Nat)(R:Nat)(m0 m:Nat->Nat->Bool)(fl:Bool)(q:Nat):Prop where
 live:∀i r,m i r=true->bm cs nx i (r:Int)
 no:fl=false->m=m0/\∀i,q<=i->i<cs.length->lx cs nx R m0 i
 yes:fl=true->i0 m0 R (cs.length+1)<i0 m R (cs.length+1)
structure kX(cs:List In)(nx:Nat->List Nat)(R:Nat)(m0 m:Nat->Nat->Bool)(fl:Bool)(p c:Nat):Prop where
 live:∀i r,m i r=true->bm cs nx i (r:Int)
 no:fl=false->m=m0/\(∀i,p+1<=i->i<cs.length->lx cs nx R m0 i)/\∀r,r<c->pW cs nx m0 p r (nx p).length=true->m0 p r=true
 yes:fl=true->i0 m0 R (cs.length+1)<i0 m R (cs.length+1)
theorem uJ.row{cs:List In}{nx:Nat->List Nat}{R:Nat}{m0 m:Nat->Nat->Bool}{fl:Bool}{p:Nat}(h:uJ cs nx R m0 m fl (p+1)):kX cs nx R m0 m fl p 0:=
 ⟨h.live,λhf=>⟨(h.no hf).1,(h.no hf).2,λr hr=>by omega⟩,h.yes⟩
theorem kX.pass{cs:List In}{nx:Nat->List Nat}{R:Nat}{m0 m:Nat->Nat->Bool}{fl:Bool}{p:Nat}(h:kX cs nx R m0 m fl p R):uJ cs nx R m0 m fl p:=
 ⟨h.live,λhf=>⟨(h.no hf).1,λi hi hl=>by
  by_cases e:i=p
  ·subst e;exact(h.no hf).2.2
  ·exact(h.no hf).2.1 i (by omega) hl⟩,h.yes⟩
theorem kX.skip{cs:List In}{nx:Nat->List Nat}{R:Nat}{m0 m:Nat->Nat->Bool}{fl:Bool}{p c:Nat}(h:kX cs nx R m0 m fl p c)(hs:pW cs nx m p c (nx p).length=true->m p c=true):kX cs nx R m0 m fl p (c+1):=
 ⟨h.live,λhf=>by
  obtain⟨rfl,h2,h3⟩:=h.no hf
  refine⟨rfl,h2,λr hr=>?_⟩
  by_cases e:r=c
  ·subst e;exact hs
  ·exact h3 r (by omega),h.yes⟩
theorem kX.put{cs:List In}{nx:Nat->List Nat}{R:Nat}{m0 m:Nat->Nat->Bool}{fl:Bool}{p c:Nat}(h:kX cs nx R m0 m fl p c)(hp:p<cs.length)(hc:c<R)(hs:pW cs nx m p c (nx p).length=true)(hn:m p c=false):kX cs nx R m0 (kP m p c true) true p (c+1):=by
 refine⟨λi r hm=>?_,λhf=>(by cases hf),λ_=>?_⟩
 ·unfold kP at hm
  split at hm
  ·rename_i e
   obtain⟨rfl,rfl⟩:=e
   exact qT h.live hp (Nat.le_refl _) hs
  ·exact h.live i r hm
 ·rw[rC hc hn (by omega)]
  cases hfl:fl with
  |true=>have:=h.yes hfl;omega
  |false=>obtain⟨rfl,_⟩:=h.no hfl;omega
def qD(R i _j:Nat):AV:= .os i R
theorem far{j c:Nat}(h:j<100000)(hc:100000<=c):(j=c)=False:=by simp;omega
theorem Ci{j:Nat}(h:j<100000):(j=100000)=False/\(j=100001)=False/\(j=100002)=False/\(j=100003)=False/\(j=100004)=False/\(j=100005)=False:=⟨far h (by decide),far h (by decide),far h (by decide),far h (by decide),far h (by decide),far h (by decide)⟩
theorem ov(ob:Nat->Option OB)(fam:Nat->AB)(k j:Nat)(hk:k<=100000)(hj:j<k)(hl:(fam j).live=true)(a b:AB):(fc ob k fam [a,b]).at j=some (fam j):=Ab hk hj hl _ (by simp)
theorem Sn{k:Nat}:∀i j,i<k->j<k->id i=id j->i=j:=λ_ _ _ _ h=>h
theorem O6{r:Nat->Option Nat}{M:List Nat}{H:AH}{b ty R n:Nat}(hM:M.contains b=false)(hx:H.at b=some (aG ty 1 n 0 (qD R)))(hr:∀j,j<n->r j=some j):db r M H b (aG ty 1 n 0 (qD R)):=
 ⟨_,hx,rfl,rfl,rfl,rfl,.inl rfl,by rw[if_neg (by simpa using hM)];exact Nat.le_refl _,λi hi=>by
  have hi':i<n:=by rw[fu] at hi;omega
  have:=aI (ty:=ty) (n:=n) (z:=0) (row:=qD R) i 0 (by decide:0<1)
  rw[Nat.mul_one,Nat.add_zero] at this
  rw[this]
  exact .os (hr i hi')⟩
theorem Sc{r:Nat->Option Nat}{H:AH}{b ty R n v:Nat}(hx:H.at b=some ((aG ty 1 n 0 (qD R)).app n (.li [.os v R])))(hn:n<900000)(hr:∀j,j<n->r j=some j)(hv:r n=some v):db r [] H b (aG ty 1 (n+1) 0 (qD R)):=
 ⟨_,hx,(Ae (aG ty 1 n 0 (qD R)) _ _).symm,(uE (aG ty 1 n 0 (qD R)) _ _).symm,(uD (aG ty 1 n 0 (qD R)) _ _).symm,rfl,.inl (by rw[app_size,fu,Nat.mul_one];rfl),by rw[cA];exact Nat.le_refl _,λi hi=>by
  have hi':i<n+1:=by rw[fu] at hi;omega
  have e2:∀n,(aG ty 1 n 0 (qD R)).get i= .os i R:=λn=>by
   have:=aI (ty:=ty) (n:=n) (z:=0) (row:=qD R) i 0 (by decide:0<1)
   rw[Nat.mul_one,Nat.add_zero] at this
   exact this
  rw[dl _ _ _ (by omega) _ hi',e2 (n+1)]
  by_cases e:i<n
  ·rw[if_pos e,e2 n];exact .os (hr i e)
  ·obtain rfl:i=n:=by omega
   rw[if_neg e];exact .os hv⟩
theorem Sj{r:Nat->Option Nat}{H:AH}{b ty R:Nat}{m:Nat->Nat->Bool}{j:Nat}(hx:H.at b=some (aG ty 1 R 0 (λ_ j=>[AV.b false][j]?.getD .u)))(hm:∀c,m j c=false:=by intros;rfl):db r [] H b (iw ty R m j):=
 .rows hx rfl rfl rfl (Nat.le_refl _) (Nat.le_refl _) (by decide) (λc q hc hq=>by obtain rfl:q=0:=(by omega);rw[aI _ _ hq,hm c];rfl) (λc q hc hq=>rfl)
abbrev mW(pr:List Int)(n:Nat):List (Nat×AV):=[(1,.p 100000 0),(3,.fs 1 pr.length (iC .i64 pr)),(6,.n .i64 n),(7,.os 100001 (n+1))]
abbrev wJ(la:List (Bool×Int))(par:Int)(cs:List In)(R:Nat)(m:Nat->Nat->Bool):AH:=fc (λ_=>none) (cs.length+1) (iw 4 R m) [aG 55 1 (cs.length+1) 0 (qD R),bj 0 25 [.fs 2 la.length (aC la),.n .i64 R,.n .i64 par,.fs 5 cs.length (cC cs)]]
theorem cR{la:List (Bool×Int)}{par:Int}{cs:List In}{R:Nat}{m:Nat->Nat->Bool}{n:Nat}{e:Tr AV}{L:List (Nat×AV)}(hn:cs.length<=16384)(he:bg (rF (cs.length+1) id [100001,100000]) [] (wJ la par cs R m) e L):Wk n e (wJ la par cs R m) (aF L) (wJ la par cs R m):=by
 refine Wk.mkF id [100001,100000] [] (by omega) he ?_ (by simp) (λj hj=>?_) Sn (λj hj=>?_) (λq x hq=>(by cases hq))
 ·exact .cons rfl (O6 rfl (by simp only[go_sem,simprocAttr]) (λj hj=>qw (by omega) hj)) (.cons rfl (.ls (hx:=by simp only[go_sem,simprocAttr])) .nil)
 ·exact .mat (m:=m) (j:=j) (ov _ _ _ _ (by omega) hj rfl _ _) (λ_ _=>rfl)
 ·simp only[id]
  obtain⟨f0,f1,_⟩:=Ci (show j<100000 by omega)
  simp[f0,f1]
theorem GR{la:List (Bool×Int)}{par:Int}{cs:List In}{R:Nat}{m:Nat->Nat->Bool}{n p c:Nat}{e:Tr AV}{L:List (Nat×AV)}(hn:cs.length<=16384)(hR:R<=2000)(hp:p<cs.length+1)(hc:c<R)(he:bg (rF (cs.length+1) id [100001,100000]) [] ((wJ la par cs R m).upd p ((iw 4 R m p).putN c [.b true])) e L):Wk n e ((wJ la par cs R m).upd p ((iw 4 R m p).putN c [.b true])) (aF L) (wJ la par cs R (kP m p c true)):=by
 obtain⟨f0,f1,_⟩:=Ci (show p<100000 by omega)
 have g0:(100000=p)=False:=by simp;omega
 have g1:(100001=p)=False:=by simp;omega
 have hp6:p<1000000:=by omega
 refine Wk.mkF id [100001,100000] [] (by omega) he ?_ (by simp) (λj hj=>?_) Sn (λj hj=>?_) (λq x hq=>(by cases hq))
 ·exact .cons rfl (O6 rfl (by simp only[hp6,g0,g1,go_sem,simprocAttr]) (λj hj=>qw (by omega) hj)) (.cons rfl (.ls (hx:=by simp only[hp6,g0,g1,go_sem,simprocAttr])) .nil)
 ·by_cases e:j=p
  ·subst e
   refine .matp (m:=m) (j:=j) (c0:=c) (v:=true) ?_ (by omega) hc (λd hd=>?_)
   ·show AH.at _ j=_
    rw[km hp6,if_pos rfl];rfl
   ·unfold kP
    by_cases e2:d=c<;>simp[e2]
  ·refine .mat (m:=m) (j:=j) ?_ (λd hd=>?_)
   ·show AH.at _ j=_
    rw[km hp6,if_neg e]
    exact ov _ _ _ _ (by omega) hj rfl _ _
   ·unfold kP
    rw[if_neg (λh=>e h.1)]
 ·simp only[id]
  obtain⟨f0,f1,_⟩:=Ci (show j<100000 by omega)
  simp[f0,f1]
theorem Hf(la:List (Bool×Int))(par:Int)(cs:List In)(R:Nat)(hR2:R<=2000)(hn:cs.length<=16384)(pr:List Int)(nx:Nat->List Nat)(m0 m:Nat->Nat->Bool)(fl:Bool)(p c:Nat)(hp:p<cs.length)(hc:c<R)(hnx:∀k ∈ nx p,k<=cs.length)(hnl:(nx p).length<=2)(hrl:(sf cs p).length<=1000)(h:kX cs nx R m0 m fl p c)
  (Q:AE->Tr AV->AH->Prop) (hQ:∀(m':Nat->Nat->Bool) (fl':Bool) e' H',kX cs nx R m0 m' fl' p (c+1)->Wk 110 e' H' (aF ((14,.n .i64 c)::(13,gC nx p 0)::(12,.n .i64 (GQ cs p))::(11,.fs 1 (sf cs p).length (iC .i64 (sf cs p)))::(10,.n .i64 p)::(9,.b fl')::mW pr cs.length)) (wJ la par cs R m')->Q .normal e' H'):
  GA Try.prog 110 (aE Try.prog 40) wX (aF ((14,.n .i64 c)::(13,gC nx p 0)::(12,.n .i64 (GQ cs p))::(11,.fs 1 (sf cs p).length (iC .i64 (sf cs p)))::(10,.n .i64 p)::(9,.b fl)::mW pr cs.length)) (wJ la par cs R m) Q:=by
 have hadd:∀j:Nat,j<100000->IntKind.wrap .i64 ((j:Int)+1)=((j+1:Nat):Int):=λj hj=>by rw[aU (by omega)];omega
 have hgC:gC nx p 0= .fs 1 (nx p).length (λj _=> .n .i64 (((nx p).getD j 0:Nat):Int)):=rfl
 repeat first|with_reducible refine au ?_|simp only[go_sem,simprocAttr]
 refine aq [] (.cons (.rfl (by rfl)) (.cons (.rfl (by rfl)) .nil)) (xA (sf cs p) (by omega) (c:Int)) (by simp only[AH.mark_next,ag,aA,aB,ao,ai,aw,af,av,ah,List.length_cons,List.length_nil];decide) ?_
 repeat first|with_reducible refine au ?_|simp only[go_sem,simprocAttr]
 refine GA.loop (I:=λmm e H=>∃(q:Nat),mm=(nx p).length-q/\q<=(nx p).length/\e=aF ((16,.n .i64 q)::(15,.b (pW cs nx m p c q))::(14,.n .i64 c)::(13,gC nx p 0)::(12,.n .i64 (GQ cs p))::(11,.fs 1 (sf cs p).length (iC .i64 (sf cs p)))::(10,.n .i64 p)::(9,.b fl)::mW pr cs.length)/\H=wJ la par cs R m)
  (cR hn ?_) ⟨0,rfl,Nat.zero_le _,rfl,rfl⟩ ?_
 ·simp only[bg,bf,mW,go_sem,simprocAttr]
  repeat' refine ab ?_ ?_
  all_goals first|exact bo|skip
  all_goals exact Wv.same rfl
 rintro mm e H ⟨q,rfl,hq,rfl,rfl⟩
 repeat first|with_reducible refine au ?_|simp only[hgC,go_sem,simprocAttr]
 refine⟨λhlt=>?_,λhlt=>?_⟩
 ·have hql:q<(nx p).length:=by omega
  have hq0:(0:Int)<=(q:Int):=by omega
  have ha:=hadd q (by omega)
  have hk:(nx p).getD q 0<=cs.length:=hnx _ (by rw[List.getD_eq_getElem?_getD,List.getElem?_eq_getElem hql];exact List.getElem_mem _)
  have his:pW cs nx m p c (q+1)=(pW cs nx m p c q||(m ((nx p).getD q 0) c&& !decide ((c:Int)=GQ cs p))):=rfl
  obtain⟨k,hkq⟩:∃k,(nx p).getD q 0=k:=⟨_,rfl⟩
  rw[hkq] at hk his
  have hk0:(0:Int)<=(k:Int):=by omega
  have hk1:(k:Int)<((cs.length+1:Nat):Int):=by omega
  have hk2:k<cs.length+1:=by omega
  have hc0:(0:Int)<=(c:Int):=by omega
  have hc1:(c:Int)<(R:Int):=by omega
  have hat:=ov (λ_=>none) (iw 4 R m) (cs.length+1) k (by omega) hk2 rfl
  have hos:(aG 55 1 (cs.length+1) 0 (qD R)).get k= .os k R:=by
   have:=aI (ty:=55) (n:=cs.length+1) (z:=0) (row:=qD R) k 0 (by decide:0<1)
   rw[Nat.mul_one,Nat.add_zero] at this
   exact this
  have hge:=gL 4 R m k c
  have hsz:=kd 4 R m k
  cases hA:pW cs nx m p c q with
  |true=>
   rw[hA] at his
   repeat first|with_reducible refine au ?_|simp only[hA,ha,go_sem,simprocAttr]
   refine⟨_,_,_,?_,cR hn ?_,q+1,rfl,by omega,rfl,rfl⟩
   ·omega
   ·rw[his]
    simp only[bg,bf,mW,hgC,Bool.true_or,go_sem,simprocAttr]
    repeat' refine ab ?_ ?_
    all_goals first|exact bo|skip
    all_goals exact Wv.same rfl
  |false=>
   rw[hA] at his
   cases hm:m k c with
   |true=>
    rw[hm] at hge his
    repeat first|with_reducible refine au ?_|simp only[hA,ha,hq0,hlt,hkq,hk0,hk1,hk2,hc0,hc1,hc,hat,hos,hge,hsz,decide_true,go_sem,simprocAttr]
    refine⟨_,_,_,?_,cR hn ?_,q+1,rfl,by omega,rfl,rfl⟩
    ·omega
    ·rw[his]
     simp only[bg,bf,mW,hgC,Bool.false_or,Bool.true_and,go_sem,simprocAttr]
     repeat' refine ab ?_ ?_
     all_goals first|exact bo|skip
     all_goals exact Wv.same rfl
   |false=>
    rw[hm] at hge his
    repeat first|with_reducible refine au ?_|simp only[hA,ha,hq0,hlt,hkq,hk0,hk1,hk2,hc0,hc1,hc,hat,hos,hge,hsz,decide_true,go_sem,simprocAttr]
    refine⟨_,_,_,?_,cR hn ?_,q+1,rfl,by omega,rfl,rfl⟩
    ·omega
    ·rw[his]
     simp only[bg,bf,mW,hgC,Bool.false_or,Bool.false_and,go_sem,simprocAttr]
     repeat' refine ab ?_ ?_
     all_goals first|exact bo|skip
     all_goals exact Wv.same rfl
 ·have hqq:q=(nx p).length:=by omega
  subst hqq
  have hp0:(0:Int)<=(p:Int):=by omega
  have hp1:(p:Int)<((cs.length+1:Nat):Int):=by omega
  have hp2:p<cs.length+1:=by omega
  have hp6:p<1000000:=by omega
  have hc0:(0:Int)<=(c:Int):=by omega
  have hc1:(c:Int)<(R:Int):=by omega
  have hc2:c+1<=R:=hc
  have hat:=ov (λ_=>none) (iw 4 R m) (cs.length+1) p (by omega) hp2 rfl
  have hos:(aG 55 1 (cs.length+1) 0 (qD R)).get p= .os p R:=by
   have:=aI (ty:=55) (n:=cs.length+1) (z:=0) (row:=qD R) p 0 (by decide:0<1)
   rw[Nat.mul_one,Nat.add_zero] at this
   exact this
  have hge:=gL 4 R m p c
  have hsz:=kd 4 R m p
  have hfz:=yc 4 R m p
  cases hA:pW cs nx m p c (nx p).length with
  |false=>
   repeat first|with_reducible refine au ?_|simp only[hA,go_sem,simprocAttr]
   refine hQ m fl _ _ (h.skip (λh2=>(by rw[hA] at h2;cases h2))) (cR hn ?_)
   simp only[bg,bf,mW,go_sem,simprocAttr]
   repeat' refine ab ?_ ?_
   all_goals first|exact bo|skip
   all_goals exact Wv.same rfl
  |true=>
   cases hm:m p c with
   |true=>
    rw[hm] at hge
    repeat first|with_reducible refine au ?_|simp only[hA,hp0,hp1,hp2,hc0,hc1,hc,hat,hos,hge,hsz,decide_true,go_sem,simprocAttr]
    refine hQ m fl _ _ (h.skip (λ_=>hm)) (cR hn ?_)
    simp only[bg,bf,mW,go_sem,simprocAttr]
    repeat' refine ab ?_ ?_
    all_goals first|exact bo|skip
    all_goals exact Wv.same rfl
   |false=>
    rw[hm] at hge
    repeat first|with_reducible refine au ?_|simp only[hA,hp0,hp1,hp2,hp6,hc0,hc1,hc2,hc,hat,hos,hge,hsz,hfz,decide_true,go_sem,simprocAttr]
    refine hQ (kP m p c true) true _ _ (h.put hp hc hA hm) (GR hn hR2 hp2 hc ?_)
    simp only[bg,bf,mW,go_sem,simprocAttr]
    repeat' refine ab ?_ ?_
    all_goals first|exact bo|skip
    all_goals exact Wv.same rfl
theorem uX(la:List (Bool×Int))(par:Int)(cs:List In)(R:Nat)(hR2:R<=2000)(hn:cs.length<=16384)(pr:List Int)(hpr:pr.length=cs.length)(pt:Nat->Nat)(p2 p3:AV)(hp2:p2.pu 3=true)(hp3:p3.pu 3=true)
  (hpt:bR Try.prog 23 [.fs 5 cs.length (cC cs)] [.v (.fs 1 pr.length (iC .i64 pr)),.v p2,.v p3])
  (hpb:∀i,i<cs.length->dY (bT cs i)->pr.getD i 0=(pt i:Int)/\pt i<cs.length)
  (hops:∀x ∈ cs,0<=x.1/\x.1<39) (hR:∀x ∈ cs,∀r ∈ aD x.1 x.2.2.1 x.2.2.2.1,0<=r/\r<(R:Int)):
  bR Try.prog 40 [aL la.length (aC la) R par cs] [.v (.fs 1 (cs.length+1) (λi _=> .fs 1 R (bC (Ig cs (bG cs pt) i))))]:=by
 have hadd:∀j:Nat,j<100000->IntKind.wrap .i64 ((j:Int)+1)=((j+1:Nat):Int):=λj hj=>by rw[aU (by omega)];omega
 have hsub:∀j:Int,0<=j->j<100000->IntKind.wrap .i64 (j-1)=j-1:=λj h0 hj=>aU (by omega)
 have hR0:(0:Int)<=(R:Int):=by omega
 have hR1:(R:Int)<=16777216:=by omega
 have hR3:1*R<=140737488355328:=by omega
 have hR4:R<1099511627776:=by omega
 have hR5:R<=140737488355328:=by omega
 refine yG (by rfl) (aO ba LH ⟨by simp,by decide⟩ ?_)
 simp only[bM,aL]
 repeat first|with_reducible refine au ?_|simp only[go_sem,simprocAttr]
 refine aq [] (.cons (.rfl (by rfl)) .nil) hpt (by simp only[AH.mark_next,ag,aA,aB,ao,ai,aw,af,av,ah,List.length_cons,List.length_nil];decide) ?_
 repeat first|with_reducible refine au ?_|simp only[go_sem,simprocAttr]
 refine GA.wk (Wk.nil 7 1 55 (by simp only[go_sem,simprocAttr]) (by decide) (by simp only[go_sem,simprocAttr])) ?_
 refine GA.loop (I:=λmm e H=>∃(i:Nat),mm=cs.length+1-i/\i<=cs.length+1/\e=aF [(1,.p 100000 0),(3,.fs 1 pr.length (iC .i64 pr)),(6,.n .i64 cs.length),(7,.os 100001 i),(8,.n .i64 i)]/\H=fc (λ_=>none) i (iw 4 R (λ_ _=>false)) [aG 55 1 i 0 (qD R),bj 0 25 [.fs 2 la.length (aC la),.n .i64 R,.n .i64 par,.fs 5 cs.length (cC cs)]])
  (Wk.mkF id [1,0] [] (Nat.zero_le _) ?_ ?_ ?_ (λj hj=>absurd hj (Nat.not_lt_zero _)) Sn (λj hj=>absurd hj (Nat.not_lt_zero _)) (λq x hq=>(by cases hq))) ⟨0,rfl,Nat.zero_le _,rfl,rfl⟩ ?_
 ·simp only[bg,bf,go_sem,simprocAttr]
  repeat' refine ab ?_ ?_
  all_goals first|exact bo|skip
 ·exact .cons rfl (.rows (x:=_) (by simp only[go_sem,simprocAttr];rfl) (by rfl) (by rfl) (by rfl) (by show 0*1<=0;decide) (by exact Nat.le_refl _) (by decide) (λi j hi=>absurd (show i<0 from hi) (Nat.not_lt_zero _)) (λi j hi=>absurd (show i<0 from hi) (Nat.not_lt_zero _))) (.cons rfl .ls .nil)
 ·simp
 rintro mm e H ⟨i,rfl,hi,rfl,rfl⟩
 repeat first|with_reducible refine au ?_|simp only[go_sem,simprocAttr]
 refine⟨λh=>?_,λh=>?_⟩
 ·have hil:i<=cs.length:=by omega
  have ha:=hadd i (by omega)
  have hl1:i+1<1099511627776:=by omega
  have hl2:(i+1)*24<=140737488355328:=by omega
  have hl3:i<=9223372036854775806:=by omega
  repeat first|with_reducible refine au ?_|simp only[hR0,hR1,hR3,hR4,hR5,ha,hl1,hl2,hl3,Int.le_refl,decide_true,go_sem,simprocAttr]
  refine⟨_,_,_,?_,Wk.mkF (λj=>if j=i then 100002 else j) [100004,100000] [] (k:=i+1) (by omega) ?_ ?_ ?_ (λj hj=>?_) (λj1 j2 h1 h2 he=>?_) (λj hj=>?_) (λq x hq=>(by cases hq)),i+1,rfl,by omega,rfl,rfl⟩
  ·omega
  ·simp only[bg,bf,go_sem,simprocAttr]
   repeat' refine ab ?_ ?_
   all_goals first|exact bo|skip
  ·exact .cons rfl (Sc (v:=100002) (by simp only[go_sem,simprocAttr]<;>rfl) (by omega) (λj hj=>by rw[qw (by omega) (by omega),if_neg (by omega)]) (by rw[qw (by omega) (by omega),if_pos rfl])) (.cons rfl .ls .nil)
  ·simp
  ·by_cases e:j=i
   ·subst e
    rw[if_pos rfl]
    exact Sj (by simp only[go_sem,simprocAttr]<;>rfl)
   ·rw[if_neg e]
    have hat:=ov (λ_=>none) (iw 4 R (λ_ _=>false)) i j (by omega) (show j<i by omega) rfl
    obtain⟨f0,f1,f2,f3,f4,f5⟩:=Ci (show j<100000 by omega)
    exact .mat (m:=λ_ _=>false) (j:=j) (by simp only[hat,f0,f1,f2,f3,f4,f5,go_sem,simprocAttr]) (λ_ _=>rfl)
  ·by_cases e1:j1=i<;>by_cases e2:j2=i<;>simp only[e1,e2,if_true,if_false] at he<;>omega
  ·by_cases e:j=i<;>simp[e]<;>omega
 ·have hie:i=cs.length+1:=by omega
  subst hie
  repeat first|with_reducible refine au ?_|simp only[go_sem,simprocAttr]
  have hrdl:∀i,(sf cs i).length<=1000:=λi=>by unfold sf aD;(repeat' split)<;>simp
  have hnxl:∀i,(bG cs pt i).length<=2:=λi=>by unfold bG;(repeat' split)<;>simp
  have hnxb:∀i,i<cs.length->∀k ∈ bG cs pt i,k<=cs.length:=λi hi k hk=>by
   have hb:=hpb i hi
   unfold bG at hk
   unfold dY at hb
   split at hk
   ·have:=(hb (by omega)).2;simp at hk;omega
   split at hk
   ·have:=(hb (by omega)).2;simp at hk;omega
   split at hk
   ·have:=(hb (by omega)).2
    split at hk<;>simp at hk<;>omega
   ·simp at hk;omega
  refine GA.loop (I:=λmm e H=>∃(m:Nat->Nat->Bool) (fl:Bool),mm=2*((cs.length+1)*R-i0 m R (cs.length+1))+(if fl then 1 else 0)/\(∀i r,m i r=true->bm cs (bG cs pt) i (r:Int))/\(fl=false->∀i,i<cs.length->lx cs (bG cs pt) R m i)/\e=aF ((9,.b fl)::mW pr cs.length)/\H=wJ la par cs R m)
   (cR hn ?_) ⟨λ_ _=>false,true,rfl,λi r h=>(by cases h),λh=>(by cases h),rfl,rfl⟩ ?_
  ·simp only[bg,bf,mW,go_sem,simprocAttr]
   repeat' refine ab ?_ ?_
   all_goals first|exact bo|skip
   all_goals exact Wv.same rfl
  rintro mm e H ⟨m,fl,rfl,hlive,hcl,rfl,rfl⟩
  repeat first|with_reducible refine au ?_|simp only[go_sem,simprocAttr]
  refine⟨λhf=>?_,λhf=>?_⟩
  ·subst hf
   have hs0:IntKind.wrap .i64 ((cs.length:Int)-1)=(cs.length:Int)-1:=aU (by omega)
   repeat first|with_reducible refine au ?_|simp only[hs0,go_sem,simprocAttr]
   refine GA.loop (I:=λmm e H=>∃(p:Nat) (m':Nat->Nat->Bool) (fl:Bool),mm=0+p/\p<=cs.length/\uJ cs (bG cs pt) R m m' fl p/\e=aF ((10,.n .i64 ((p:Int)-1))::(9,.b fl)::mW pr cs.length)/\H=wJ la par cs R m')
    (cR hn ?_) ⟨cs.length,m,false,rfl,Nat.le_refl _,⟨hlive,λ_=>⟨rfl,λi h1 h2=>by omega⟩,λh=>(by cases h)⟩,rfl,rfl⟩ ?_
   ·simp only[bg,bf,mW,go_sem,simprocAttr]
    repeat' refine ab ?_ ?_
    all_goals first|exact bo|skip
    all_goals exact Wv.same rfl
   rintro mm e H ⟨p,m',fl,rfl,hp,hP,rfl,rfl⟩
   repeat first|with_reducible refine au ?_|simp only[go_sem,simprocAttr]
   refine⟨λh0=>?_,λh0=>?_⟩
   ·obtain⟨p,rfl⟩:∃p',p=p'+1:=⟨p-1,by omega⟩
    have hpn:p<cs.length:=by omega
    have hpe:((p+1:Nat):Int)-1=(p:Int):=by omega
    have hp0:(0:Int)<=(p:Int):=by omega
    have hp1:(p:Int)<(cs.length:Int):=by omega
    have hs:=hsub (p:Int) (by omega) (by omega)
    have hcc0:=tg cs p
    have hcc1:=zR cs p
    have hcc2:=zQ cs p
    have hcc3:=zP cs p
    have hcc4:=zO cs p
    have hxm:cs.getD p (0,0,0,0,0) ∈ cs:=by rw[List.getD_eq_getElem?_getD,List.getElem?_eq_getElem hpn];exact List.getElem_mem hpn
    have hru:=il (uR (cs.getD p (0,0,0,0,0)).1 (cs.getD p (0,0,0,0,0)).2.1 (cs.getD p (0,0,0,0,0)).2.2.1 (cs.getD p (0,0,0,0,0)).2.2.2.1 (cs.getD p (0,0,0,0,0)).2.2.2.2 (hops _ hxm)) (by rfl)
    simp only[List.map_cons,List.map_nil,RT.fz] at hru
    repeat first|with_reducible refine au ?_|simp only[hpe,hp0,hp1,hcc0,hcc1,hcc2,hcc3,hcc4,decide_true,go_sem,simprocAttr]
    refine aq [] (.cons (.rfl (by rfl)) .nil) hru (by simp only[AH.mark_next,ag,aA,aB,ao,ai,aw,af,av,ah,List.length_cons,List.length_nil];decide) ?_
    repeat first|with_reducible refine au ?_|simp only[go_sem,simprocAttr]
    refine aq [] (.cons (.rfl (by rfl)) (.cons (.rfl (by rfl)) (.cons (.rfl (by rfl)) .nil))) (uS cs hn pr hpr pt p hpn (hpb p hpn)) (by simp only[AH.mark_next,ag,aA,aB,ao,ai,aw,af,av,ah,List.length_cons,List.length_nil];decide) ?_
    repeat first|with_reducible refine au ?_|simp only[go_sem,simprocAttr]
    refine GA.loop (I:=λmm e H=>∃(c:Nat) (m2:Nat->Nat->Bool) (fl:Bool),mm=R-c/\c<=R/\kX cs (bG cs pt) R m m2 fl p c/\e=aF ((14,.n .i64 c)::(13,gC (bG cs pt) p 0)::(12,.n .i64 (GQ cs p))::(11,.fs 1 (sf cs p).length (iC .i64 (sf cs p)))::(10,.n .i64 p)::(9,.b fl)::mW pr cs.length)/\H=wJ la par cs R m2)
     (cR hn ?_) ⟨0,m',fl,rfl,Nat.zero_le _,hP.row,rfl,rfl⟩ ?_
    ·simp only[bg,bf,mW,go_sem,simprocAttr]
     repeat' refine ab ?_ ?_
     all_goals first|exact bo|skip
     all_goals exact Wv.same rfl
    rintro mm e H ⟨c,m2,fl2,rfl,hc,hrow,rfl,rfl⟩
    repeat first|with_reducible refine au ?_|simp only[go_sem,simprocAttr]
    refine⟨λh1=>?_,λh1=>?_⟩
    ·have hcl:c<R:=by omega
     have ha:=hadd c (by omega)
     (try simp only[go_sem,simprocAttr])
     iterate 1 (with_reducible refine GA.go ba rfl ?_;try simp only[go_sem,simprocAttr])
     refine GA.seq ?_
     refine GA.block ?_
     refine GA.wk (cR (L:=(14,.n .i64 c)::(13,gC (bG cs pt) p 0)::(12,.n .i64 (GQ cs p))::(11,.fs 1 (sf cs p).length (iC .i64 (sf cs p)))::(10,.n .i64 p)::(9,.b fl2)::mW pr cs.length) hn ?_) ?_
     ·simp only[bg,bf,mW,go_sem,simprocAttr]
      repeat' refine ab ?_ ?_
      all_goals first|exact bo|skip
      all_goals exact Wv.same rfl
     refine Hf la par cs R hR2 hn pr (bG cs pt) m m2 fl2 p c hpn hcl (hnxb p hpn) (hnxl p) (hrdl p) hrow _ (λm3 fl3 e' H' hrow' hwk=>?_)
     simp only[go_sem,simprocAttr]
     refine GA.wk hwk ?_
     repeat first|with_reducible refine au ?_|simp only[ha,go_sem,simprocAttr]
     refine⟨_,_,_,?_,cR hn ?_,c+1,m3,fl3,rfl,by omega,hrow',rfl,rfl⟩
     ·omega
     ·simp only[bg,bf,mW,go_sem,simprocAttr]
      repeat' refine ab ?_ ?_
      all_goals first|exact bo|skip
      all_goals exact Wv.same rfl
    ·have hcR:c=R:=by omega
     subst hcR
     repeat first|with_reducible refine au ?_|simp only[hs,go_sem,simprocAttr]
     refine⟨_,_,_,?_,cR hn ?_,p,m2,fl2,rfl,by omega,hrow.pass,rfl,rfl⟩
     ·omega
     ·simp only[bg,bf,mW,go_sem,simprocAttr]
      repeat' refine ab ?_ ?_
      all_goals first|exact bo|skip
      all_goals exact Wv.same rfl
   ·have hp0:p=0:=by omega
    subst hp0
    repeat first|with_reducible refine au ?_|simp only[go_sem,simprocAttr]
    refine⟨_,_,_,?_,cR hn ?_,m',fl,rfl,hP.live,λhf=>?_,rfl,rfl⟩
    ·have h1:=ux m' R (cs.length+1)
     cases fl with
     |true=>have:=hP.yes rfl;simp only[if_true];omega
     |false=>obtain⟨rfl,_⟩:=hP.no rfl;simp
    ·simp only[bg,bf,mW,go_sem,simprocAttr]
     repeat' refine ab ?_ ?_
     all_goals first|exact bo|skip
     all_goals exact Wv.same rfl
    ·obtain⟨rfl,h2⟩:=hP.no hf
     exact λi hi=>h2 i (Nat.zero_le _) hi
  ·subst hf
   have hcl:=hcl rfl
   have hmeq:∀i c,c<R->m i c=Ig cs (bG cs pt) i c:=λi c hc=>by
    rw[Bool.eq_iff_iff,BJ]
    exact⟨hlive i c,λh=>kQ hcl h c hc rfl⟩
   refine GA.wk (Wk.mkO (ob:=λ_=>none) (L:=[(7,.os 0 (cs.length+1))]) (bl:=[aG 55 1 (cs.length+1) 0 (λi _=> .fs 1 R (bC (Ig cs (bG cs pt) i)))]) [100001] (List.range (cs.length+1)) ?_ ?_ (by simp) (λq x hq=>(by cases hq))) ?_
   ·simp only[bg,bf,mW,go_sem,simprocAttr]
    repeat' refine ab ?_ ?_
    all_goals first|exact bo|skip
   ·refine .cons rfl ⟨aG 55 1 (cs.length+1) 0 (qD R),by simp only[go_sem,simprocAttr],rfl,rfl,rfl,rfl,.inl rfl,by rw[if_neg (by simp;omega)];exact Nat.le_refl _,λi hi=>?_⟩ .nil
    have hi':i<cs.length+1:=by rw[fu] at hi;omega
    have e2:∀(row:Nat->Nat->AV),(aG 55 1 (cs.length+1) 0 row).get i=row i 0:=λrow=>by
     have:=aI (ty:=55) (n:=cs.length+1) (z:=0) (row:=row) i 0 (by decide:0<1)
     rw[Nat.mul_one,Nat.add_zero] at this
     exact this
    rw[e2,e2]
    refine .cv (.os (x:=iw 4 R m i) (List.mem_range.2 hi') (ov _ _ _ _ (by omega) hi' rfl _ _) (by rw[kd];omega) (λc j hc hj=>?_) (λc j hc hj=>rfl))
    obtain rfl:j=0:=by omega
    rw[Nat.mul_one,Nat.add_zero,gL,hmeq i c hc]
    rfl
   repeat first|with_reducible refine au ?_|simp only[go_sem,simprocAttr]
   exact⟨[0],.os (x:=aG 55 1 (cs.length+1) 0 (λi _=> .fs 1 R (bC (Ig cs (bG cs pt) i)))) (by simp) (by simp only[go_sem,simprocAttr]) (Nat.le_refl _) (λi j hi hj=>aI i j hj) (λi j hi hj=>rfl)⟩
section
variable {cs:List In} {nx:Nat->List Nat} {R i q c a b:Nat}
end
end Go.Proofs.Yteopfmnnhlhbmaa
namespace Go.Proofs.Yteopfmnnhlhbmaa
open Go.RowKit
noncomputable def vP(cs:List In)(nx:Nat->List Nat)(a b:Nat):Bool:= @decide (fJ cs nx (a:Int) (b:Int)) (Classical.propDecidable _)
theorem jD{cs:List In}{nx:Nat->List Nat}{a b:Nat}:vP cs nx a b=true↔fJ cs nx (a:Int) (b:Int):=by
 unfold vP
 exact @decide_eq_true_iff _ (Classical.propDecidable _)
theorem Bs{cs:List In}{pt:Nat->Nat}{i:Nat}(hi:i<cs.length)(hb:dY (bT cs i)->pt i<cs.length):∀k ∈ bG cs pt i,k<=cs.length:=λk hk=>by
 unfold bG at hk
 unfold dY at hb
 split at hk
 ·have:=hb (by omega);simp at hk;omega
 split at hk
 ·have:=hb (by omega);simp at hk;omega
 split at hk
 ·have:=hb (by omega)
  split at hk<;>simp at hk<;>omega
 ·simp at hk;omega
def dM(nm:List Int)(x:In):In:=(x.1,dp nm x.2.1,dp nm x.2.2.1,dp nm x.2.2.2.1,x.2.2.2.2)
theorem xC(na:Nat)(ra:Nat->Nat->AV)(regs par:Int)(cs:List In)(x:AV)(hc:bR Try.prog 39 [aL na ra regs par cs] [.v x,.v (.n .i64 0)])(n R:Nat)(hn:n<=20000)(hR:R<=2000)(L:Nat->Nat->Bool)
  (hlv:bR Try.prog 40 [aL na ra regs par cs] [.v (.fs 1 n (λi _=> .fs 1 R (bC (L i))))]):
  bR Try.prog 12 [aL na ra regs par cs] [.v (.fs 1 n (gC (λi=>dN (L i) R))),.v (.n .i64 0)]:=by
 have hadd:∀j:Nat,j<100000->IntKind.wrap .i64 ((j:Int)+1)=((j+1:Nat):Int):=λj hj=>by rw[aU (by omega)];omega
 refine il (rs:=[.o 39 1 n 0 (gC (λi=>dN (L i) R)),.v (.n .i64 0)]) ?_ (by rfl)
 refine aO ba LU ⟨by simp,by decide⟩ ?_
 simp only[bM,aL] at hc hlv ⊢
 repeat first|with_reducible refine au ?_|simp only[go_sem,simprocAttr]
 refine aq [] (.cons (.rfl (by rfl)) .nil) hc (by simp only[AH.mark_next,ag,aA,aB,ao,ai,aw,af,av,ah,List.length_cons,List.length_nil];decide) ?_
 repeat first|with_reducible refine au ?_|simp only[go_sem,simprocAttr]
 refine aq [] (.cons (.rfl (by rfl)) .nil) hlv (by simp only[AH.mark_next,ag,aA,aB,ao,ai,aw,af,av,ah,List.length_cons,List.length_nil];decide) ?_
 repeat first|with_reducible refine au ?_|simp only[go_sem,simprocAttr]
 refine GA.wk (Wk.nil 7 1 39 (by simp only[go_sem,simprocAttr]) (by decide) (by simp only[go_sem,simprocAttr])) ?_
 refine GA.loop (I:=λmm e H=>∃(i:Nat),mm=n-i/\i<=n/\e=aF [(6,.fs 1 n (λi _=> .fs 1 R (bC (L i)))),(7,.os 0 i),(8,.n .i64 i)]/\H=aX [aG 39 1 i 0 (gC (λi=>dN (L i) R))]) (Wk.mk [1] [] ?_ ?_ ?_) ⟨0,rfl,Nat.zero_le _,rfl,rfl⟩ ?_
 ·simp only[bg,bf,go_sem,simprocAttr]
  repeat' refine ab ?_ ?_
  all_goals first|exact bo|skip
 ·exact .cons rfl (.rows (x:=_) (by simp only[go_sem,simprocAttr];rfl) (by rfl) (by rfl) (by rfl) (by show 0*1<=0;decide) (by exact Nat.le_refl _) (by decide) (λi j hi=>absurd (show i<0 from hi) (Nat.not_lt_zero _)) (λi j hi=>absurd (show i<0 from hi) (Nat.not_lt_zero _))) .nil
 ·simp
 rintro mm e H ⟨i,rfl,hi,rfl,rfl⟩
 repeat first|with_reducible refine au ?_|simp only[go_sem,simprocAttr]
 refine⟨λh=>?_,λh=>?_⟩
 ·have hil:i<n:=by omega
  have hi0:(0:Int)<=(i:Int):=by omega
  have ha:=hadd i (by omega)
  have hl1:i+1<1099511627776:=by omega
  have hl2:(i+1)*24<=140737488355328:=by omega
  have hl3:i<=9223372036854775806:=by omega
  have hmb:=il (sb (L i) R (by omega)) (by rfl)
  simp only[List.map_cons,List.map_nil,RT.fz] at hmb
  repeat first|with_reducible refine au ?_|simp only[hi0,h,decide_true,go_sem,simprocAttr]
  refine aq [] (.cons (.rfl (by rfl)) .nil) hmb (by simp only[AH.mark_next,ag,aA,aB,ao,ai,aw,af,av,ah,List.length_cons,List.length_nil];decide) ?_
  repeat first|with_reducible refine au ?_|simp only[ha,hl1,hl2,hl3,go_sem,simprocAttr]
  refine⟨_,_,_,?_,Wk.mk [2] [] ?_ ?_ ?_,i+1,rfl,by omega,rfl,rfl⟩
  ·omega
  ·simp only[bg,bf,go_sem,simprocAttr]
   repeat' refine ab ?_ ?_
   all_goals first|exact bo|skip
  ·exact .cons rfl (.rowW (by simp only[go_sem,simprocAttr];rfl) (by rfl) (by rfl) (by rfl) (by rw[app_size];show(i+1)*1<=_;simp only[ch.len,List.length_singleton];omega) (by rw[cA];exact Nat.le_refl _) rfl (by decide) (λq j hq hj=>dZ (by omega) hq hj (.rfl (by rfl)))) .nil
  ·simp
 ·have hk:i=n:=by omega
  subst hk
  repeat first|with_reducible refine au ?_|simp only[go_sem,simprocAttr]
  exact⟨[_,_],rfl,dR.o (x:=aG 39 1 i 0 (gC (λi=>dN (L i) R))) (by simp only[go_sem,simprocAttr]) rfl rfl rfl (by decide) (Nat.le_refl _) (Nat.le_refl _) (λi j hi hj=>aI i j hj) (λi j hi hj=>rfl) rfl (dR.v rfl rfl .nil)⟩
def mF(f:Nat->Bool):Nat->Nat
 |0=>0
 |r+1=>mF f r+(if f r then 1 else 0)
def wo(f:Nat->Bool)(R:Nat):List Int:=(List.range R).map λr=>((mF f r:Nat):Int)
theorem sB{P:Nat->Prop}:∀B:Nat,¬P B->∃c,ek P c:=by
 intro B
 induction B using Nat.strongRecOn with
 |_ B ih=>
  intro hB
  by_cases h:∃c,c<B/\¬P c
  ·obtain⟨c,h1,h2⟩:=h
   exact ih c h1 h2
  ·exact⟨B,hB,λc' hc'=>Classical.byContradiction λh2=>h ⟨c',hc',h2⟩⟩
def B3(K:Nat->Nat)(r c:Nat):Nat->Nat:=λx=>if x=r then c else K x
theorem rT.add{occ:Nat->Bool}{nb:Nat->Nat->Prop}{n:Nat}{K:Nat->Nat}(h:rT occ nb n K)(ho:occ n=true){c:Nat}(hc:ek (λc=>∃s,s<n/\occ s=true/\nb n s/\K s=c) c):rT occ nb (n+1) (B3 K n c):=by
 have hK:∀s,s<n->B3 K n c s=K s:=λs hs=>if_neg (by omega)
 refine⟨λr hr hor=>?_,λr hr hor=>?_⟩
 ·by_cases e:r=n
  ·subst e
   have:B3 K r c r=c:=if_pos rfl
   rw[this]
   refine hc.congr (λc=>⟨λ⟨s,h1,h2,h3,h4⟩=>⟨s,h1,h2,h3,by rw[hK s h1];exact h4⟩,λ⟨s,h1,h2,h3,h4⟩=>⟨s,h1,h2,h3,by rw[<-hK s h1];exact h4⟩⟩)
  ·rw[hK r (by omega)]
   refine(h.yes r (by omega) hor).congr (λc=>⟨λ⟨s,h1,h2,h3,h4⟩=>⟨s,h1,h2,h3,by rw[hK s (by omega)];exact h4⟩,λ⟨s,h1,h2,h3,h4⟩=>⟨s,h1,h2,h3,by rw[<-hK s (by omega)];exact h4⟩⟩)
 ·by_cases e:r=n
  ·subst e;rw[ho] at hor;cases hor
  ·rw[hK r (by omega)];exact h.no r (by omega) hor
theorem rT.pass{occ:Nat->Bool}{nb:Nat->Nat->Prop}{n:Nat}{K:Nat->Nat}(h:rT occ nb n K)(ho:occ n=false)(hk:K n=0):rT occ nb (n+1) K:=
 ⟨λr hr hor=>h.yes r (by
  by_cases e:r=n
  ·subst e;rw[ho] at hor;cases hor
  ·omega) hor,λr hr hor=>by
  by_cases e:r=n
  ·subst e;exact hk
  ·exact h.no r (by omega) hor⟩
theorem iY(occ:Nat->Bool)(nb:Nat->Nat->Prop):∀n,∃K:Nat->Nat,rT occ nb n K/\(∀r,n<=r->K r=0)/\∃B,∀r,K r<B
 |0=>⟨λ_=>0,⟨λr h=>by omega,λr h=>by omega⟩,λ_ _=>rfl,1,λ_=>Nat.one_pos⟩
 |n+1=>by
  obtain⟨K,h1,h2,B,h3⟩:=iY occ nb n
  cases ho:occ n with
  |false=>exact⟨K,h1.pass ho (h2 n (Nat.le_refl _)),λr hr=>h2 r (by omega),B,h3⟩
  |true=>
   obtain⟨c,hc⟩:=sB (P:=λc=>∃s,s<n/\occ s=true/\nb n s/\K s=c) B (λ⟨s,_,_,_,h⟩=>by have:=h3 s;omega)
   refine⟨B3 K n c,h1.add ho hc,λr hr=>?_,max B (c+1),λr=>?_⟩
   ·show(if r=n then c else K r)=0
    rw[if_neg (by omega)];exact h2 r (by omega)
   ·show(if r=n then c else K r)<_
    have:=h3 r
    split<;>omega
noncomputable def PN(occ:Nat->Bool)(nb:Nat->Nat->Prop)(n:Nat):Nat->Nat:=Classical.choose (iY occ nb n)
theorem zv(occ:Nat->Bool)(nb:Nat->Nat->Prop)(n:Nat):rT occ nb n (PN occ nb n):=(Classical.choose_spec (iY occ nb n)).1
def kj(K:Nat->Nat)(occ:Nat->Bool):Nat->Nat
 |0=>0
 |r+1=>if occ r=true then max (kj K occ r) (K r+1) else kj K occ r
theorem mC{K K':Nat->Nat}{occ:Nat->Bool}:∀{n:Nat},(∀r,r<n->K r=K' r)->kj K occ n=kj K' occ n
 |0,_=>rfl
 |n+1,h=>by unfold kj;rw[mC (λr hr=>h r (by omega)),h n (by omega)]
theorem uu{K:Nat->Nat}{occ:Nat->Bool}:∀{n:Nat},(∀r,r<n->K r<=r)->kj K occ n<=n
 |0,_=>Nat.le_refl _
 |n+1,h=>by
  have:=uu (K:=K) (occ:=occ) (n:=n) (λr hr=>h r (by omega))
  have:=h n (by omega)
  unfold kj;split<;>omega
def kL(K:Nat->Nat)(R:Nat):List Int:=(List.range R).map λr=>((K r:Nat):Int)
theorem o9(K:Nat->Nat)(R r:Nat)(h:r<R):(kL K R).getD r 0=((K r:Nat):Int):=by
 unfold kL
 rw[List.getD_eq_getElem?_getD,List.getElem?_map,List.getElem?_range h]
 rfl
def gk(nm:List Int)(kept first:Int)(cs:List In):List In:=(cs.map λx=>rV kept first (dM nm x)).flatten
theorem qr(nm:List Int)(kept first:Int)(cs:List In):(gk nm kept first cs).length<=4*cs.length:=by
 unfold gk
 induction cs with
 |nil=>simp
 |cons x cs ih=>
  have:=oJ kept first (dM nm x)
  simp only[List.map_cons,List.flatten_cons,List.length_append,List.length_cons]
  omega
section
variable (la:List (Bool×Int)) (regs par:Int) (cs:List In) (x:AV) (hla:la.length<1000000) (hcs:cs.length<=16384) (r n:Nat) (hr:4<=r/\r<=1024) (nm:List Int) (hnm:∀x ∈ cs,x.2.1<(nm.length:Int)/\x.2.2.1<(nm.length:Int)/\x.2.2.2.1<(nm.length:Int))
 (hc:bR Try.prog 39 [aL la.length (aC la) regs par cs] [.v x,.v (.n .i64 0)])
 (hcol:bR Try.prog 47 [aL la.length (aC la) regs par cs] [.v (.fs 1 nm.length (iC .i64 nm)),.v (.n .i64 n)])
include hla hcs hr hc hcol hnm
end
end Go.Proofs.Yteopfmnnhlhbmaa