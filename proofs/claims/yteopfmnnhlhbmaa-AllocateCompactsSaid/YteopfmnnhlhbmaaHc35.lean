/- A part of the proof of AllocateCompacts: RlA RlB RiA RiB RjA RjB RkA RkB RkC. No condition. -/
import Derived.Test.YteopfmnnhlhbmaaHc33
import Derived.Test.YteopfmnnhlhbmaaHc34
import Derived.Test.YteopfmnnhlhbmaaHc17
set_option linter.unusedSimpArgs false
set_option linter.unusedVariables false
set_option linter.constructorNameAsVariable false
set_option maxRecDepth 100000
set_option maxHeartbeats 4000000
namespace Go.Proofs.Yteopfmnnhlhbmaa
open Go.RowKit
def kC(f:Nat->Bool):Nat->Nat
 |0=>0
 |R+1=>kC f R+(if f R then 1 else 0)
def iP(m:Nat->Nat->Bool)(R:Nat):Nat->Nat
 |0=>0
 |n+1=>iP m R n+kC (m n) R
theorem tY(f:Nat->Bool):∀R,kC f R<=R
 |0=>Nat.le_refl _
 |R+1=>by have:=tY f R;unfold kC;split<;>omega
theorem tZ(m:Nat->Nat->Bool)(R:Nat):∀n,iP m R n<=n*R
 |0=>by simp[iP]
 |n+1=>by have:=tZ m R n;have:=tY (m n) R;unfold iP;rw[Nat.succ_mul];omega
theorem eD{f g:Nat->Bool}:∀{R:Nat},(∀c,c<R->f c=g c)->kC f R=kC g R
 |0,_=>rfl
 |R+1,h=>by unfold kC;rw[eD (λc hc=>h c (by omega)),h R (by omega)]
theorem l7{m m2:Nat->Nat->Bool}{R:Nat}:∀{n:Nat},(∀i,i<n->∀c,c<R->m i c=m2 i c)->iP m R n=iP m2 R n
 |0,_=>rfl
 |n+1,h=>by unfold iP;rw[l7 (λi hi=>h i (by omega)),eD (h n (by omega))]
theorem qQ{f:Nat->Bool}{c:Nat}(hf:f c=false):∀{R:Nat},c<R->kC (λd=>if d=c then true else f d) R=kC f R+1
 |0,h=>by omega
 |R+1,h=>by
  unfold kC
  by_cases e:c=R
  ·subst e
   rw[eD (g:=f) (λd hd=>if_neg (by omega)),if_pos (by simp),if_neg (by simp[hf])]
  ·rw[qQ hf (show c<R by omega),if_neg (show ¬R=c by omega)]
   omega
theorem qR{m:Nat->Nat->Bool}{i c R:Nat}(hc:c<R)(hf:m i c=false):∀{n:Nat},i<n->iP (kx m i c true) R n=iP m R n+1
 |0,h=>by omega
 |n+1,h=>by
  unfold iP
  by_cases e:i=n
  ·subst e
   rw[l7 (m2:=m) (λj hj c' _=>by unfold kx;rw[if_neg (by omega)])]
   have:kC (kx m i c true i) R=kC (m i) R+1:=by
    rw[<-qQ hf hc]
    refine eD (λd _=>?_)
    unfold kx
    by_cases e2:d=c<;>simp[e2]
   omega
  ·rw[qR hc hf (show i<n by omega),eD (f:=kx m i c true n) (g:=m n) (λd _=>by unfold kx;rw[if_neg (by omega)])]
   omega
noncomputable def H5(cs:List In)(nx:Nat->List Nat)(i r:Nat):Bool:= @decide (br cs nx i (r:Int)) (Classical.propDecidable _)
theorem A2{cs:List In}{nx:Nat->List Nat}{i r:Nat}:H5 cs nx i r=true↔br cs nx i (r:Int):=by
 unfold H5
 exact @decide_eq_true_iff _ (Classical.propDecidable _)
abbrev rE(cs:List In)(i:Nat):List Int:=aB (cs.getD i (0,0,0,0,0)).1 (cs.getD i (0,0,0,0,0)).2.2.1 (cs.getD i (0,0,0,0,0)).2.2.2.1
abbrev GH(cs:List In)(i:Nat):Int:=aW (cs.getD i (0,0,0,0,0)).1 (cs.getD i (0,0,0,0,0)).2.1
def pw(cs:List In)(nx:Nat->List Nat)(m:Nat->Nat->Bool)(i r:Nat):Nat->Bool
 |0=>(rE cs i).contains (r:Int)
 |q+1=>pw cs nx m i r q||(m ((nx i).getD q 0) r&& !decide ((r:Int)=GH cs i))
theorem qr{cs:List In}{nx:Nat->List Nat}{m:Nat->Nat->Bool}(hm:∀i r,m i r=true->br cs nx i (r:Int)){i r:Nat}(hi:i<cs.length):∀{q:Nat},q<=(nx i).length->pw cs nx m i r q=true->br cs nx i (r:Int)
 |0,_,h=> .read hi (by unfold pw at h;exact List.contains_iff_mem.1 h)
 |q+1,hq,h=>by
  unfold pw at h
  simp only[Bool.or_eq_true,Bool.and_eq_true,Bool.not_eq_true',decide_eq_false_iff_not] at h
  rcases h with h|⟨h1,h2⟩
  ·exact qr hm hi (by omega) h
  ·have hk:(nx i).getD q 0 ∈ nx i:=by rw[List.getD_eq_getElem?_getD,List.getElem?_eq_getElem (by omega)];exact List.getElem_mem _
   exact .flow hi hk (hm _ _ h1) h2
theorem lO{cs:List In}{nx:Nat->List Nat}{m:Nat->Nat->Bool}{i r:Nat}:∀{q q2:Nat},q<=q2->pw cs nx m i r q=true->pw cs nx m i r q2=true
 |q,0,h,h1=>by obtain rfl:q=0:=(by omega);exact h1
 |q,q2+1,h,h1=>by
  by_cases e:q=q2+1
  ·subst e;exact h1
  ·unfold pw;rw[lO (show q<=q2 by omega) h1];rfl
def kV(cs:List In)(nx:Nat->List Nat)(R:Nat)(m:Nat->Nat->Bool)(i:Nat):Prop:=∀r,r<R->pw cs nx m i r (nx i).length=true->m i r=true
theorem ky{cs:List In}{nx:Nat->List Nat}{R:Nat}{m:Nat->Nat->Bool}(hc:∀i,i<cs.length->kV cs nx R m i){i:Nat}{r:Int}(h:br cs nx i r):∀n:Nat,n<R->r=(n:Int)->m i n=true:=by
 induction h with
 |read hi h=>
  rintro n hn rfl
  refine hc _ hi n hn (lO (Nat.zero_le _) ?_)
  unfold pw
  exact List.contains_iff_mem.2 h
 |@flow i k r hi hk h hw ih=>
  rintro n hn rfl
  obtain⟨q,hq,e⟩:=List.getElem_of_mem hk
  refine hc _ hi n hn (lO (q:=q+1) (by omega) ?_)
  unfold pw
  have:(nx i).getD q 0=k:=by rw[List.getD_eq_getElem?_getD,List.getElem?_eq_getElem hq,e];rfl
  rw[this,ih n hn rfl,decide_eq_false hw]
  simp
structure uj(cs:List In)(nx:Nat->List Nat)(R:Nat)(m0 m:Nat->Nat->Bool)(fl:Bool)(q:Nat):Prop where
 live:∀i r,m i r=true->br cs nx i (r:Int)
 no:fl=false->m=m0/\∀i,q<=i->i<cs.length->kV cs nx R m0 i
 yes:fl=true->iP m0 R (cs.length+1)<iP m R (cs.length+1)
structure kH(cs:List In)(nx:Nat->List Nat)(R:Nat)(m0 m:Nat->Nat->Bool)(fl:Bool)(p c:Nat):Prop where
 live:∀i r,m i r=true->br cs nx i (r:Int)
 no:fl=false->m=m0/\(∀i,p+1<=i->i<cs.length->kV cs nx R m0 i)/\∀r,r<c->pw cs nx m0 p r (nx p).length=true->m0 p r=true
 yes:fl=true->iP m0 R (cs.length+1)<iP m R (cs.length+1)
theorem uj.row{cs:List In}{nx:Nat->List Nat}{R:Nat}{m0 m:Nat->Nat->Bool}{fl:Bool}{p:Nat}(h:uj cs nx R m0 m fl (p+1)):kH cs nx R m0 m fl p 0:=
 ⟨h.live,λhf=>⟨(h.no hf).1,(h.no hf).2,λr hr=>by omega⟩,h.yes⟩
theorem kH.pass{cs:List In}{nx:Nat->List Nat}{R:Nat}{m0 m:Nat->Nat->Bool}{fl:Bool}{p:Nat}(h:kH cs nx R m0 m fl p R):uj cs nx R m0 m fl p:=
 ⟨h.live,λhf=>⟨(h.no hf).1,λi hi hl=>by
  by_cases e:i=p
  ·subst e;exact(h.no hf).2.2
  ·exact(h.no hf).2.1 i (by omega) hl⟩,h.yes⟩
theorem kH.skip{cs:List In}{nx:Nat->List Nat}{R:Nat}{m0 m:Nat->Nat->Bool}{fl:Bool}{p c:Nat}(h:kH cs nx R m0 m fl p c)(hs:pw cs nx m p c (nx p).length=true->m p c=true):kH cs nx R m0 m fl p (c+1):=
 ⟨h.live,λhf=>by
  obtain⟨rfl,h2,h3⟩:=h.no hf
  refine⟨rfl,h2,λr hr=>?_⟩
  by_cases e:r=c
  ·subst e;exact hs
  ·exact h3 r (by omega),h.yes⟩
theorem kH.put{cs:List In}{nx:Nat->List Nat}{R:Nat}{m0 m:Nat->Nat->Bool}{fl:Bool}{p c:Nat}(h:kH cs nx R m0 m fl p c)(hp:p<cs.length)(hc:c<R)(hs:pw cs nx m p c (nx p).length=true)(hn:m p c=false):kH cs nx R m0 (kx m p c true) true p (c+1):=by
 refine⟨λi r hm=>?_,λhf=>(by cases hf),λ_=>?_⟩
 ·unfold kx at hm
  split at hm
  ·rename_i e
   obtain⟨rfl,rfl⟩:=e
   exact qr h.live hp (Nat.le_refl _) hs
  ·exact h.live i r hm
 ·rw[qR hc hn (by omega)]
  cases hfl:fl with
  |true=>have:=h.yes hfl;omega
  |false=>obtain⟨rfl,_⟩:=h.no hfl;omega
def pX(R i _j:Nat):AV:= .os i R
theorem far{j c:Nat}(h:j<100000)(hc:100000<=c):(j=c)=False:=by simp;omega
theorem Bq{j:Nat}(h:j<100000):(j=100000)=False/\(j=100001)=False/\(j=100002)=False/\(j=100003)=False/\(j=100004)=False/\(j=100005)=False:=⟨far h (by decide),far h (by decide),far h (by decide),far h (by decide),far h (by decide),far h (by decide)⟩
theorem nN(ob:Nat->Option OB)(fam:Nat->AB)(k j:Nat)(hk:k<=100000)(hj:j<k)(hl:(fam j).live=true)(a b:AB):(eT ob k fam [a,b]).at j=some (fam j):=zo hk hj hl _ (by simp)
theorem Sn{k:Nat}:∀i j,i<k->j<k->id i=id j->i=j:=λ_ _ _ _ h=>h
theorem O9{r:Nat->Option Nat}{M:List Nat}{H:AH}{b ty R n:Nat}(hM:M.contains b=false)(hx:H.at b=some (aG ty 1 n 0 (pX R)))(hr:∀j,j<n->r j=some j):cW r M H b (aG ty 1 n 0 (pX R)):=
 ⟨_,hx,rfl,rfl,rfl,rfl,.inl rfl,by rw[if_neg (by simpa using hM)];exact Nat.le_refl _,λi hi=>by
  have hi':i<n:=by rw[fe] at hi;omega
  have:=aN (ty:=ty) (n:=n) (z:=0) (row:=pX R) i 0 (by decide:0<1)
  rw[Nat.mul_one,Nat.add_zero] at this
  rw[this]
  exact .os (hr i hi')⟩
theorem Sc{r:Nat->Option Nat}{H:AH}{b ty R n v:Nat}(hx:H.at b=some ((aG ty 1 n 0 (pX R)).app n (.li [.os v R])))(hn:n<900000)(hr:∀j,j<n->r j=some j)(hv:r n=some v):cW r [] H b (aG ty 1 (n+1) 0 (pX R)):=
 ⟨_,hx,(zq (aG ty 1 n 0 (pX R)) _ _).symm,(ud (aG ty 1 n 0 (pX R)) _ _).symm,(uc (aG ty 1 n 0 (pX R)) _ _).symm,rfl,.inl (by rw[app_size,fe,Nat.mul_one];rfl),by rw[cw];exact Nat.le_refl _,λi hi=>by
  have hi':i<n+1:=by rw[fe] at hi;omega
  have e2:∀n,(aG ty 1 n 0 (pX R)).get i= .os i R:=λn=>by
   have:=aN (ty:=ty) (n:=n) (z:=0) (row:=pX R) i 0 (by decide:0<1)
   rw[Nat.mul_one,Nat.add_zero] at this
   exact this
  rw[da _ _ _ (by omega) _ hi',e2 (n+1)]
  by_cases e:i<n
  ·rw[if_pos e,e2 n];exact .os (hr i e)
  ·obtain rfl:i=n:=by omega
   rw[if_neg e];exact .os hv⟩
theorem Sj{r:Nat->Option Nat}{H:AH}{b ty R:Nat}{m:Nat->Nat->Bool}{j:Nat}(hx:H.at b=some (aG ty 1 R 0 (λ_ j=>[AV.b false][j]?.getD .u)))(hm:∀c,m j c=false:=by intros;rfl):cW r [] H b (ig ty R m j):=
 .rows hx rfl rfl rfl (Nat.le_refl _) (Nat.le_refl _) (by decide) (λc q hc hq=>by obtain rfl:q=0:=(by omega);rw[aN _ _ hq,hm c];rfl) (λc q hc hq=>rfl)
abbrev mD(pr:List Int)(n:Nat):List (Nat×AV):=[(1,.p 100000 0),(3,.fs 1 pr.length (iC .i64 pr)),(6,.n .i64 n),(7,.os 100001 (n+1))]
abbrev v8(la:List (Bool×Int))(par:Int)(cs:List In)(R:Nat)(m:Nat->Nat->Bool):AH:=eT (λ_=>none) (cs.length+1) (ig 4 R m) [aG 55 1 (cs.length+1) 0 (pX R),ba 0 25 [.fs 2 la.length (aC la),.n .i64 R,.n .i64 par,.fs 5 cs.length (cC cs)]]
theorem cM{la:List (Bool×Int)}{par:Int}{cs:List In}{R:Nat}{m:Nat->Nat->Bool}{n:Nat}{e:Tr AV}{L:List (Nat×AV)}(hn:cs.length<=16384)(he:bh (rF (cs.length+1) id [100001,100000]) [] (v8 la par cs R m) e L):Wk n e (v8 la par cs R m) (aF L) (v8 la par cs R m):=by
 refine Wk.mkF id [100001,100000] [] (by omega) he ?_ (by simp) (λj hj=>?_) Sn (λj hj=>?_) (λq x hq=>(by cases hq))
 ·exact .cons rfl (O9 rfl (by simp only[go_sem,simprocAttr]) (λj hj=>pS (by omega) hj)) (.cons rfl (.ls (hx:=by simp only[go_sem,simprocAttr])) .nil)
 ·exact .mat (m:=m) (j:=j) (nN _ _ _ _ (by omega) hj rfl _ _) (λ_ _=>rfl)
 ·simp only[id]
  obtain⟨f0,f1,_⟩:=Bq (show j<100000 by omega)
  simp[f0,f1]
theorem GI{la:List (Bool×Int)}{par:Int}{cs:List In}{R:Nat}{m:Nat->Nat->Bool}{n p c:Nat}{e:Tr AV}{L:List (Nat×AV)}(hn:cs.length<=16384)(hR:R<=2000)(hp:p<cs.length+1)(hc:c<R)(he:bh (rF (cs.length+1) id [100001,100000]) [] ((v8 la par cs R m).upd p ((ig 4 R m p).putN c [.b true])) e L):Wk n e ((v8 la par cs R m).upd p ((ig 4 R m p).putN c [.b true])) (aF L) (v8 la par cs R (kx m p c true)):=by
 obtain⟨f0,f1,_⟩:=Bq (show p<100000 by omega)
 have g0:(100000=p)=False:=by simp;omega
 have g1:(100001=p)=False:=by simp;omega
 have hp6:p<1000000:=by omega
 refine Wk.mkF id [100001,100000] [] (by omega) he ?_ (by simp) (λj hj=>?_) Sn (λj hj=>?_) (λq x hq=>(by cases hq))
 ·exact .cons rfl (O9 rfl (by simp only[hp6,g0,g1,go_sem,simprocAttr]) (λj hj=>pS (by omega) hj)) (.cons rfl (.ls (hx:=by simp only[hp6,g0,g1,go_sem,simprocAttr])) .nil)
 ·by_cases e:j=p
  ·subst e
   refine .matp (m:=m) (j:=j) (c0:=c) (v:=true) ?_ (by omega) hc (λd hd=>?_)
   ·show AH.at _ j=_
    rw[j5 hp6,if_pos rfl];rfl
   ·unfold kx
    by_cases e2:d=c<;>simp[e2]
  ·refine .mat (m:=m) (j:=j) ?_ (λd hd=>?_)
   ·show AH.at _ j=_
    rw[j5 hp6,if_neg e]
    exact nN _ _ _ _ (by omega) hj rfl _ _
   ·unfold kx
    rw[if_neg (λh=>e h.1)]
 ·simp only[id]
  obtain⟨f0,f1,_⟩:=Bq (show j<100000 by omega)
  simp[f0,f1]
theorem G4(la:List (Bool×Int))(par:Int)(cs:List In)(R:Nat)(hR2:R<=2000)(hn:cs.length<=16384)(pr:List Int)(nx:Nat->List Nat)(m0 m:Nat->Nat->Bool)(fl:Bool)(p c:Nat)(hp:p<cs.length)(hc:c<R)(hnx:∀k ∈ nx p,k<=cs.length)(hnl:(nx p).length<=2)(hrl:(rE cs p).length<=1000)(h:kH cs nx R m0 m fl p c)
  (Q:AE->Tr AV->AH->Prop) (hQ:∀(m':Nat->Nat->Bool) (fl':Bool) e' H',kH cs nx R m0 m' fl' p (c+1)->Wk 110 e' H' (aF ((14,.n .i64 c)::(13,gC nx p 0)::(12,.n .i64 (GH cs p))::(11,.fs 1 (rE cs p).length (iC .i64 (rE cs p)))::(10,.n .i64 p)::(9,.b fl')::mD pr cs.length)) (v8 la par cs R m')->Q .normal e' H'):
  GA Try.prog 110 (aE Try.prog 40) ws (aF ((14,.n .i64 c)::(13,gC nx p 0)::(12,.n .i64 (GH cs p))::(11,.fs 1 (rE cs p).length (iC .i64 (rE cs p)))::(10,.n .i64 p)::(9,.b fl)::mD pr cs.length)) (v8 la par cs R m) Q:=by
 have hadd:∀j:Nat,j<100000->IntKind.wrap .i64 ((j:Int)+1)=((j+1:Nat):Int):=λj hj=>by rw[aV (by omega)];omega
 have hgC:gC nx p 0= .fs 1 (nx p).length (λj _=> .n .i64 (((nx p).getD j 0:Nat):Int)):=rfl
 repeat first|with_reducible refine au ?_|simp only[go_sem,simprocAttr]
 refine am [] (.cons (.rfl (by rfl)) (.cons (.rfl (by rfl)) .nil)) (wX (rE cs p) (by omega) (c:Int)) (by simp only[AH.mark_next,ae,av,aw,aj,ai,aq,af,ao,ah,List.length_cons,List.length_nil];decide) ?_
 repeat first|with_reducible refine au ?_|simp only[go_sem,simprocAttr]
 refine GA.loop (I:=λmm e H=>∃(q:Nat),mm=(nx p).length-q/\q<=(nx p).length/\e=aF ((16,.n .i64 q)::(15,.b (pw cs nx m p c q))::(14,.n .i64 c)::(13,gC nx p 0)::(12,.n .i64 (GH cs p))::(11,.fs 1 (rE cs p).length (iC .i64 (rE cs p)))::(10,.n .i64 p)::(9,.b fl)::mD pr cs.length)/\H=v8 la par cs R m)
  (cM hn ?_) ⟨0,rfl,Nat.zero_le _,rfl,rfl⟩ ?_
 ·simp only[bh,bf,mD,go_sem,simprocAttr]
  repeat' refine ab ?_ ?_
  all_goals first|exact bm|skip
  all_goals exact Wv.same rfl
 rintro mm e H ⟨q,rfl,hq,rfl,rfl⟩
 repeat first|with_reducible refine au ?_|simp only[hgC,go_sem,simprocAttr]
 refine⟨λhlt=>?_,λhlt=>?_⟩
 ·have hql:q<(nx p).length:=by omega
  have hq0:(0:Int)<=(q:Int):=by omega
  have ha:=hadd q (by omega)
  have hk:(nx p).getD q 0<=cs.length:=hnx _ (by rw[List.getD_eq_getElem?_getD,List.getElem?_eq_getElem hql];exact List.getElem_mem _)
  have his:pw cs nx m p c (q+1)=(pw cs nx m p c q||(m ((nx p).getD q 0) c&& !decide ((c:Int)=GH cs p))):=rfl
  obtain⟨k,hkq⟩:∃k,(nx p).getD q 0=k:=⟨_,rfl⟩
  rw[hkq] at hk his
  have hk0:(0:Int)<=(k:Int):=by omega
  have hk1:(k:Int)<((cs.length+1:Nat):Int):=by omega
  have hk2:k<cs.length+1:=by omega
  have hc0:(0:Int)<=(c:Int):=by omega
  have hc1:(c:Int)<(R:Int):=by omega
  have hat:=nN (λ_=>none) (ig 4 R m) (cs.length+1) k (by omega) hk2 rfl
  have hos:(aG 55 1 (cs.length+1) 0 (pX R)).get k= .os k R:=by
   have:=aN (ty:=55) (n:=cs.length+1) (z:=0) (row:=pX R) k 0 (by decide:0<1)
   rw[Nat.mul_one,Nat.add_zero] at this
   exact this
  have hge:=gx 4 R m k c
  have hsz:=jV 4 R m k
  cases hA:pw cs nx m p c q with
  |true=>
   rw[hA] at his
   repeat first|with_reducible refine au ?_|simp only[hA,ha,go_sem,simprocAttr]
   refine⟨_,_,_,?_,cM hn ?_,q+1,rfl,by omega,rfl,rfl⟩
   ·omega
   ·rw[his]
    simp only[bh,bf,mD,hgC,Bool.true_or,go_sem,simprocAttr]
    repeat' refine ab ?_ ?_
    all_goals first|exact bm|skip
    all_goals exact Wv.same rfl
  |false=>
   rw[hA] at his
   cases hm:m k c with
   |true=>
    rw[hm] at hge his
    repeat first|with_reducible refine au ?_|simp only[hA,ha,hq0,hlt,hkq,hk0,hk1,hk2,hc0,hc1,hc,hat,hos,hge,hsz,decide_true,go_sem,simprocAttr]
    refine⟨_,_,_,?_,cM hn ?_,q+1,rfl,by omega,rfl,rfl⟩
    ·omega
    ·rw[his]
     simp only[bh,bf,mD,hgC,Bool.false_or,Bool.true_and,go_sem,simprocAttr]
     repeat' refine ab ?_ ?_
     all_goals first|exact bm|skip
     all_goals exact Wv.same rfl
   |false=>
    rw[hm] at hge his
    repeat first|with_reducible refine au ?_|simp only[hA,ha,hq0,hlt,hkq,hk0,hk1,hk2,hc0,hc1,hc,hat,hos,hge,hsz,decide_true,go_sem,simprocAttr]
    refine⟨_,_,_,?_,cM hn ?_,q+1,rfl,by omega,rfl,rfl⟩
    ·omega
    ·rw[his]
     simp only[bh,bf,mD,hgC,Bool.false_or,Bool.false_and,go_sem,simprocAttr]
     repeat' refine ab ?_ ?_
     all_goals first|exact bm|skip
     all_goals exact Wv.same rfl
 ·have hqq:q=(nx p).length:=by omega
  subst hqq
  have hp0:(0:Int)<=(p:Int):=by omega
  have hp1:(p:Int)<((cs.length+1:Nat):Int):=by omega
  have hp2:p<cs.length+1:=by omega
  have hp6:p<1000000:=by omega
  have hc0:(0:Int)<=(c:Int):=by omega
  have hc1:(c:Int)<(R:Int):=by omega
  have hc2:c+1<=R:=hc
  have hat:=nN (λ_=>none) (ig 4 R m) (cs.length+1) p (by omega) hp2 rfl
  have hos:(aG 55 1 (cs.length+1) 0 (pX R)).get p= .os p R:=by
   have:=aN (ty:=55) (n:=cs.length+1) (z:=0) (row:=pX R) p 0 (by decide:0<1)
   rw[Nat.mul_one,Nat.add_zero] at this
   exact this
  have hge:=gx 4 R m p c
  have hsz:=jV 4 R m p
  have hfz:=xB 4 R m p
  cases hA:pw cs nx m p c (nx p).length with
  |false=>
   repeat first|with_reducible refine au ?_|simp only[hA,go_sem,simprocAttr]
   refine hQ m fl _ _ (h.skip (λh2=>(by rw[hA] at h2;cases h2))) (cM hn ?_)
   simp only[bh,bf,mD,go_sem,simprocAttr]
   repeat' refine ab ?_ ?_
   all_goals first|exact bm|skip
   all_goals exact Wv.same rfl
  |true=>
   cases hm:m p c with
   |true=>
    rw[hm] at hge
    repeat first|with_reducible refine au ?_|simp only[hA,hp0,hp1,hp2,hc0,hc1,hc,hat,hos,hge,hsz,decide_true,go_sem,simprocAttr]
    refine hQ m fl _ _ (h.skip (λ_=>hm)) (cM hn ?_)
    simp only[bh,bf,mD,go_sem,simprocAttr]
    repeat' refine ab ?_ ?_
    all_goals first|exact bm|skip
    all_goals exact Wv.same rfl
   |false=>
    rw[hm] at hge
    repeat first|with_reducible refine au ?_|simp only[hA,hp0,hp1,hp2,hp6,hc0,hc1,hc2,hc,hat,hos,hge,hsz,hfz,decide_true,go_sem,simprocAttr]
    refine hQ (kx m p c true) true _ _ (h.put hp hc hA hm) (GI hn hR2 hp2 hc ?_)
    simp only[bh,bf,mD,go_sem,simprocAttr]
    repeat' refine ab ?_ ?_
    all_goals first|exact bm|skip
    all_goals exact Wv.same rfl
theorem uB(la:List (Bool×Int))(par:Int)(cs:List In)(R:Nat)(hR2:R<=2000)(hn:cs.length<=16384)(pr:List Int)(hpr:pr.length=cs.length)(pt:Nat->Nat)(p2 p3:AV)(hp2:p2.pu 3=true)(hp3:p3.pu 3=true)
  (hpt:bH Try.prog 23 [.fs 5 cs.length (cC cs)] [.v (.fs 1 pr.length (iC .i64 pr)),.v p2,.v p3])
  (hpb:∀i,i<cs.length->dL (bV cs i)->pr.getD i 0=(pt i:Int)/\pt i<cs.length)
  (hops:∀x ∈ cs,0<=x.1/\x.1<39) (hR:∀x ∈ cs,∀r ∈ aB x.1 x.2.2.1 x.2.2.2.1,0<=r/\r<(R:Int)):
  bH Try.prog 40 [ay la.length (aC la) R par cs] [.v (.fs 1 (cs.length+1) (λi _=> .fs 1 R (bC (H5 cs (bR cs pt) i))))]:=by
 have hadd:∀j:Nat,j<100000->IntKind.wrap .i64 ((j:Int)+1)=((j+1:Nat):Int):=λj hj=>by rw[aV (by omega)];omega
 have hsub:∀j:Int,0<=j->j<100000->IntKind.wrap .i64 (j-1)=j-1:=λj h0 hj=>aV (by omega)
 have hR0:(0:Int)<=(R:Int):=by omega
 have hR1:(R:Int)<=16777216:=by omega
 have hR3:1*R<=140737488355328:=by omega
 have hR4:R<1099511627776:=by omega
 have hR5:R<=140737488355328:=by omega
 refine x7 (by rfl) (aD aZ Lh ⟨by simp,by decide⟩ ?_)
 simp only[bz,ay]
 repeat first|with_reducible refine au ?_|simp only[go_sem,simprocAttr]
 refine am [] (.cons (.rfl (by rfl)) .nil) hpt (by simp only[AH.mark_next,ae,av,aw,aj,ai,aq,af,ao,ah,List.length_cons,List.length_nil];decide) ?_
 repeat first|with_reducible refine au ?_|simp only[go_sem,simprocAttr]
 refine GA.wk (Wk.nil 7 1 55 (by simp only[go_sem,simprocAttr]) (by decide) (by simp only[go_sem,simprocAttr])) ?_
 refine GA.loop (I:=λmm e H=>∃(i:Nat),mm=cs.length+1-i/\i<=cs.length+1/\e=aF [(1,.p 100000 0),(3,.fs 1 pr.length (iC .i64 pr)),(6,.n .i64 cs.length),(7,.os 100001 i),(8,.n .i64 i)]/\H=eT (λ_=>none) i (ig 4 R (λ_ _=>false)) [aG 55 1 i 0 (pX R),ba 0 25 [.fs 2 la.length (aC la),.n .i64 R,.n .i64 par,.fs 5 cs.length (cC cs)]])
  (Wk.mkF id [1,0] [] (Nat.zero_le _) ?_ ?_ ?_ (λj hj=>absurd hj (Nat.not_lt_zero _)) Sn (λj hj=>absurd hj (Nat.not_lt_zero _)) (λq x hq=>(by cases hq))) ⟨0,rfl,Nat.zero_le _,rfl,rfl⟩ ?_
 ·simp only[bh,bf,go_sem,simprocAttr]
  repeat' refine ab ?_ ?_
  all_goals first|exact bm|skip
 ·exact .cons rfl (.rows (x:=_) (by simp only[go_sem,simprocAttr];rfl) (by rfl) (by rfl) (by rfl) (by show 0*1<=0;decide) (by exact Nat.le_refl _) (by decide) (λi j hi=>absurd (show i<0 from hi) (Nat.not_lt_zero _)) (λi j hi=>absurd (show i<0 from hi) (Nat.not_lt_zero _))) (.cons rfl .ls .nil)
 ·simp
 rintro mm e H ⟨i,rfl,hi,rfl,rfl⟩
 repeat first|with_reducible refine au ?_|simp only[go_sem,simprocAttr]
 refine⟨λh=>?_,λh=>?_⟩
 ·have hil:i<=cs.length:=by omega
  have ha:=hadd i (by omega)
  have hl1:i+1<1099511627776:=by omega
  have hl2:(i+1)*24<=140737488355328:=by omega
  have hl3:i<=9223372036854775806:=by omega
  repeat first|with_reducible refine au ?_|simp only[hR0,hR1,hR3,hR4,hR5,ha,hl1,hl2,hl3,Int.le_refl,decide_true,go_sem,simprocAttr]
  refine⟨_,_,_,?_,Wk.mkF (λj=>if j=i then 100002 else j) [100004,100000] [] (k:=i+1) (by omega) ?_ ?_ ?_ (λj hj=>?_) (λj1 j2 h1 h2 he=>?_) (λj hj=>?_) (λq x hq=>(by cases hq)),i+1,rfl,by omega,rfl,rfl⟩
  ·omega
  ·simp only[bh,bf,go_sem,simprocAttr]
   repeat' refine ab ?_ ?_
   all_goals first|exact bm|skip
  ·exact .cons rfl (Sc (v:=100002) (by simp only[go_sem,simprocAttr]<;>rfl) (by omega) (λj hj=>by rw[pS (by omega) (by omega),if_neg (by omega)]) (by rw[pS (by omega) (by omega),if_pos rfl])) (.cons rfl .ls .nil)
  ·simp
  ·by_cases e:j=i
   ·subst e
    rw[if_pos rfl]
    exact Sj (by simp only[go_sem,simprocAttr]<;>rfl)
   ·rw[if_neg e]
    have hat:=nN (λ_=>none) (ig 4 R (λ_ _=>false)) i j (by omega) (show j<i by omega) rfl
    obtain⟨f0,f1,f2,f3,f4,f5⟩:=Bq (show j<100000 by omega)
    exact .mat (m:=λ_ _=>false) (j:=j) (by simp only[hat,f0,f1,f2,f3,f4,f5,go_sem,simprocAttr]) (λ_ _=>rfl)
  ·by_cases e1:j1=i<;>by_cases e2:j2=i<;>simp only[e1,e2,if_true,if_false] at he<;>omega
  ·by_cases e:j=i<;>simp[e]<;>omega
 ·have hie:i=cs.length+1:=by omega
  subst hie
  repeat first|with_reducible refine au ?_|simp only[go_sem,simprocAttr]
  have hrdl:∀i,(rE cs i).length<=1000:=λi=>by unfold rE aB;(repeat' split)<;>simp
  have hnxl:∀i,(bR cs pt i).length<=2:=λi=>by unfold bR;(repeat' split)<;>simp
  have hnxb:∀i,i<cs.length->∀k ∈ bR cs pt i,k<=cs.length:=λi hi k hk=>by
   have hb:=hpb i hi
   unfold bR at hk
   unfold dL at hb
   split at hk
   ·have:=(hb (by omega)).2;simp at hk;omega
   split at hk
   ·have:=(hb (by omega)).2;simp at hk;omega
   split at hk
   ·have:=(hb (by omega)).2
    split at hk<;>simp at hk<;>omega
   ·simp at hk;omega
  refine GA.loop (I:=λmm e H=>∃(m:Nat->Nat->Bool) (fl:Bool),mm=2*((cs.length+1)*R-iP m R (cs.length+1))+(if fl then 1 else 0)/\(∀i r,m i r=true->br cs (bR cs pt) i (r:Int))/\(fl=false->∀i,i<cs.length->kV cs (bR cs pt) R m i)/\e=aF ((9,.b fl)::mD pr cs.length)/\H=v8 la par cs R m)
   (cM hn ?_) ⟨λ_ _=>false,true,rfl,λi r h=>(by cases h),λh=>(by cases h),rfl,rfl⟩ ?_
  ·simp only[bh,bf,mD,go_sem,simprocAttr]
   repeat' refine ab ?_ ?_
   all_goals first|exact bm|skip
   all_goals exact Wv.same rfl
  rintro mm e H ⟨m,fl,rfl,hlive,hcl,rfl,rfl⟩
  repeat first|with_reducible refine au ?_|simp only[go_sem,simprocAttr]
  refine⟨λhf=>?_,λhf=>?_⟩
  ·subst hf
   have hs0:IntKind.wrap .i64 ((cs.length:Int)-1)=(cs.length:Int)-1:=aV (by omega)
   repeat first|with_reducible refine au ?_|simp only[hs0,go_sem,simprocAttr]
   refine GA.loop (I:=λmm e H=>∃(p:Nat) (m':Nat->Nat->Bool) (fl:Bool),mm=0+p/\p<=cs.length/\uj cs (bR cs pt) R m m' fl p/\e=aF ((10,.n .i64 ((p:Int)-1))::(9,.b fl)::mD pr cs.length)/\H=v8 la par cs R m')
    (cM hn ?_) ⟨cs.length,m,false,rfl,Nat.le_refl _,⟨hlive,λ_=>⟨rfl,λi h1 h2=>by omega⟩,λh=>(by cases h)⟩,rfl,rfl⟩ ?_
   ·simp only[bh,bf,mD,go_sem,simprocAttr]
    repeat' refine ab ?_ ?_
    all_goals first|exact bm|skip
    all_goals exact Wv.same rfl
   rintro mm e H ⟨p,m',fl,rfl,hp,hP,rfl,rfl⟩
   repeat first|with_reducible refine au ?_|simp only[go_sem,simprocAttr]
   refine⟨λh0=>?_,λh0=>?_⟩
   ·obtain⟨p,rfl⟩:∃p',p=p'+1:=⟨p-1,by omega⟩
    have hpn:p<cs.length:=by omega
    have hpe:((p+1:Nat):Int)-1=(p:Int):=by omega
    have hp0:(0:Int)<=(p:Int):=by omega
    have hp1:(p:Int)<(cs.length:Int):=by omega
    have hs:=hsub (p:Int) (by omega) (by omega)
    have hcc0:=vM cs p
    have hcc1:=BO cs p
    have hcc2:=BN cs p
    have hcc3:=BM cs p
    have hcc4:=BL cs p
    have hxm:cs.getD p (0,0,0,0,0) ∈ cs:=by rw[List.getD_eq_getElem?_getD,List.getElem?_eq_getElem hpn];exact List.getElem_mem hpn
    have hru:=dM (m8 (cs.getD p (0,0,0,0,0)).1 (cs.getD p (0,0,0,0,0)).2.1 (cs.getD p (0,0,0,0,0)).2.2.1 (cs.getD p (0,0,0,0,0)).2.2.2.1 (cs.getD p (0,0,0,0,0)).2.2.2.2 (hops _ hxm)) (by rfl)
    simp only[List.map_cons,List.map_nil,RT.fz] at hru
    repeat first|with_reducible refine au ?_|simp only[hpe,hp0,hp1,hcc0,hcc1,hcc2,hcc3,hcc4,decide_true,go_sem,simprocAttr]
    refine am [] (.cons (.rfl (by rfl)) .nil) hru (by simp only[AH.mark_next,ae,av,aw,aj,ai,aq,af,ao,ah,List.length_cons,List.length_nil];decide) ?_
    repeat first|with_reducible refine au ?_|simp only[go_sem,simprocAttr]
    refine am [] (.cons (.rfl (by rfl)) (.cons (.rfl (by rfl)) (.cons (.rfl (by rfl)) .nil))) (uw cs hn pr hpr pt p hpn (hpb p hpn)) (by simp only[AH.mark_next,ae,av,aw,aj,ai,aq,af,ao,ah,List.length_cons,List.length_nil];decide) ?_
    repeat first|with_reducible refine au ?_|simp only[go_sem,simprocAttr]
    refine GA.loop (I:=λmm e H=>∃(c:Nat) (m2:Nat->Nat->Bool) (fl:Bool),mm=R-c/\c<=R/\kH cs (bR cs pt) R m m2 fl p c/\e=aF ((14,.n .i64 c)::(13,gC (bR cs pt) p 0)::(12,.n .i64 (GH cs p))::(11,.fs 1 (rE cs p).length (iC .i64 (rE cs p)))::(10,.n .i64 p)::(9,.b fl)::mD pr cs.length)/\H=v8 la par cs R m2)
     (cM hn ?_) ⟨0,m',fl,rfl,Nat.zero_le _,hP.row,rfl,rfl⟩ ?_
    ·simp only[bh,bf,mD,go_sem,simprocAttr]
     repeat' refine ab ?_ ?_
     all_goals first|exact bm|skip
     all_goals exact Wv.same rfl
    rintro mm e H ⟨c,m2,fl2,rfl,hc,hrow,rfl,rfl⟩
    repeat first|with_reducible refine au ?_|simp only[go_sem,simprocAttr]
    refine⟨λh1=>?_,λh1=>?_⟩
    ·have hcl:c<R:=by omega
     have ha:=hadd c (by omega)
     (try simp only[go_sem,simprocAttr])
     iterate 1 (with_reducible refine GA.go aZ rfl ?_;try simp only[go_sem,simprocAttr])
     refine GA.seq ?_
     refine GA.block ?_
     refine GA.wk (cM (L:=(14,.n .i64 c)::(13,gC (bR cs pt) p 0)::(12,.n .i64 (GH cs p))::(11,.fs 1 (rE cs p).length (iC .i64 (rE cs p)))::(10,.n .i64 p)::(9,.b fl2)::mD pr cs.length) hn ?_) ?_
     ·simp only[bh,bf,mD,go_sem,simprocAttr]
      repeat' refine ab ?_ ?_
      all_goals first|exact bm|skip
      all_goals exact Wv.same rfl
     refine G4 la par cs R hR2 hn pr (bR cs pt) m m2 fl2 p c hpn hcl (hnxb p hpn) (hnxl p) (hrdl p) hrow _ (λm3 fl3 e' H' hrow' hwk=>?_)
     simp only[go_sem,simprocAttr]
     refine GA.wk hwk ?_
     repeat first|with_reducible refine au ?_|simp only[ha,go_sem,simprocAttr]
     refine⟨_,_,_,?_,cM hn ?_,c+1,m3,fl3,rfl,by omega,hrow',rfl,rfl⟩
     ·omega
     ·simp only[bh,bf,mD,go_sem,simprocAttr]
      repeat' refine ab ?_ ?_
      all_goals first|exact bm|skip
      all_goals exact Wv.same rfl
    ·have hcR:c=R:=by omega
     subst hcR
     repeat first|with_reducible refine au ?_|simp only[hs,go_sem,simprocAttr]
     refine⟨_,_,_,?_,cM hn ?_,p,m2,fl2,rfl,by omega,hrow.pass,rfl,rfl⟩
     ·omega
     ·simp only[bh,bf,mD,go_sem,simprocAttr]
      repeat' refine ab ?_ ?_
      all_goals first|exact bm|skip
      all_goals exact Wv.same rfl
   ·have hp0:p=0:=by omega
    subst hp0
    repeat first|with_reducible refine au ?_|simp only[go_sem,simprocAttr]
    refine⟨_,_,_,?_,cM hn ?_,m',fl,rfl,hP.live,λhf=>?_,rfl,rfl⟩
    ·have h1:=tZ m' R (cs.length+1)
     cases fl with
     |true=>have:=hP.yes rfl;simp only[if_true];omega
     |false=>obtain⟨rfl,_⟩:=hP.no rfl;simp
    ·simp only[bh,bf,mD,go_sem,simprocAttr]
     repeat' refine ab ?_ ?_
     all_goals first|exact bm|skip
     all_goals exact Wv.same rfl
    ·obtain⟨rfl,h2⟩:=hP.no hf
     exact λi hi=>h2 i (Nat.zero_le _) hi
  ·subst hf
   have hcl:=hcl rfl
   have hmeq:∀i c,c<R->m i c=H5 cs (bR cs pt) i c:=λi c hc=>by
    rw[Bool.eq_iff_iff,A2]
    exact⟨hlive i c,λh=>ky hcl h c hc rfl⟩
   refine GA.wk (Wk.mkO (ob:=λ_=>none) (L:=[(7,.os 0 (cs.length+1))]) (bl:=[aG 55 1 (cs.length+1) 0 (λi _=> .fs 1 R (bC (H5 cs (bR cs pt) i)))]) [100001] (List.range (cs.length+1)) ?_ ?_ (by simp) (λq x hq=>(by cases hq))) ?_
   ·simp only[bh,bf,mD,go_sem,simprocAttr]
    repeat' refine ab ?_ ?_
    all_goals first|exact bm|skip
   ·refine .cons rfl ⟨aG 55 1 (cs.length+1) 0 (pX R),by simp only[go_sem,simprocAttr],rfl,rfl,rfl,rfl,.inl rfl,by rw[if_neg (by simp;omega)];exact Nat.le_refl _,λi hi=>?_⟩ .nil
    have hi':i<cs.length+1:=by rw[fe] at hi;omega
    have e2:∀(row:Nat->Nat->AV),(aG 55 1 (cs.length+1) 0 row).get i=row i 0:=λrow=>by
     have:=aN (ty:=55) (n:=cs.length+1) (z:=0) (row:=row) i 0 (by decide:0<1)
     rw[Nat.mul_one,Nat.add_zero] at this
     exact this
    rw[e2,e2]
    refine .cv (.os (x:=ig 4 R m i) (List.mem_range.2 hi') (nN _ _ _ _ (by omega) hi' rfl _ _) (by rw[jV];omega) (λc j hc hj=>?_) (λc j hc hj=>rfl))
    obtain rfl:j=0:=by omega
    rw[Nat.mul_one,Nat.add_zero,gx,hmeq i c hc]
    rfl
   repeat first|with_reducible refine au ?_|simp only[go_sem,simprocAttr]
   exact⟨[0],.os (x:=aG 55 1 (cs.length+1) 0 (λi _=> .fs 1 R (bC (H5 cs (bR cs pt) i)))) (by simp) (by simp only[go_sem,simprocAttr]) (Nat.le_refl _) (λi j hi hj=>aN i j hj) (λi j hi hj=>rfl)⟩
section
variable {cs:List In} {nx:Nat->List Nat} {R i q c a b:Nat}
end
end Go.Proofs.Yteopfmnnhlhbmaa
namespace Go.Proofs.Yteopfmnnhlhbmaa
open Go.RowKit
noncomputable def vp(cs:List In)(nx:Nat->List Nat)(a b:Nat):Bool:= @decide (fQ cs nx (a:Int) (b:Int)) (Classical.propDecidable _)
theorem lN{cs:List In}{nx:Nat->List Nat}{a b:Nat}:vp cs nx a b=true↔fQ cs nx (a:Int) (b:Int):=by
 unfold vp
 exact @decide_eq_true_iff _ (Classical.propDecidable _)
theorem AA{cs:List In}{pt:Nat->Nat}{i:Nat}(hi:i<cs.length)(hb:dL (bV cs i)->pt i<cs.length):∀k ∈ bR cs pt i,k<=cs.length:=λk hk=>by
 unfold bR at hk
 unfold dL at hb
 split at hk
 ·have:=hb (by omega);simp at hk;omega
 split at hk
 ·have:=hb (by omega);simp at hk;omega
 split at hk
 ·have:=hb (by omega)
  split at hk<;>simp at hk<;>omega
 ·simp at hk;omega
def uu(f:Nat->Bool)(r:Nat):Nat->Bool:=λc=>if c=r then true else f c
theorem zf{f:Nat->Bool}{r:Nat}{R:Nat}:∀i j,i<R->j<1->(if i=r then[AV.b true][j]?.getD .u else bF f i j)=bF (uu f r) i j:=λi j _ hj=>by
 obtain rfl:j=0:=by omega
 unfold bF uu
 by_cases e:i=r
 ·subst e;simp
 ·simp[e]
theorem wW(la:List (Bool×Int))(par:Int)(cs:List In)(R:Nat)(hR2:R<=2000)(hn:cs.length<=16384)
  (hops:∀x ∈ cs,0<=x.1/\x.1<39) (hR:∀x ∈ cs,∀r ∈ aB x.1 x.2.2.1 x.2.2.2.1,0<=r/\r<(R:Int)) (hW:∀x ∈ cs,aW x.1 x.2.1<(R:Int)):
  bH Try.prog 53 [ay la.length (aC la) R par cs] [.v (.fs 1 R (bC (λr=>cP cs (r:Int))))]:=by
 have hadd:∀j:Nat,j<100000->IntKind.wrap .i64 ((j:Int)+1)=((j+1:Nat):Int):=λj hj=>by rw[aV (by omega)];omega
 have hR0:(0:Int)<=(R:Int):=by omega
 have hR1:(R:Int)<=16777216:=by omega
 have hR3:1*R<=140737488355328:=by omega
 have hR4:R<1099511627776:=by omega
 have hR5:R<=140737488355328:=by omega
 refine dM (rs:=[.o 4 1 R 0 (bC (λr=>cP cs (r:Int)))]) ?_ (by rfl)
 refine aD aZ KF ⟨by simp,by decide⟩ ?_
 simp only[bz,ay]
 repeat first|with_reducible refine au ?_|simp only[hR0,hR1,hR3,hR4,hR5,Int.le_refl,decide_true,go_sem,simprocAttr]
 refine GA.loop (I:=λmm e H=>∃(k:Nat) (f:Nat->Bool),mm=cs.length-k/\k<=cs.length/\(∀r,r<R->(f r=true↔∃i,i<k/\(r:Int) ∈ bL (cs.getD i (0,0,0,0,0))))/\e=aF [(1,.p 0 0),(3,.os 1 R),(4,.n .i64 k)]/\H=aY [aG 4 1 R 0 (bF f),ba 0 25 [.fs 2 la.length (aC la),.n .i64 R,.n .i64 par,.fs 5 cs.length (cC cs)]]) (Wk.mk [1,0] [] ?_ ?_ ?_) ⟨0,λ_=>false,rfl,Nat.zero_le _,λr _=>⟨λh=>(by cases h),λ⟨i,h,_⟩=>by omega⟩,rfl,rfl⟩ ?_
 ·simp only[bh,bf,go_sem,simprocAttr]
  repeat' refine ab ?_ ?_
  all_goals first|exact bm|skip
 ·refine .cons rfl (.same (by simp only[go_sem,simprocAttr]<;>rfl) rfl (by decide) (λi j h hj=>?_) (λi j h hj=>rfl)) (.cons rfl .ls .nil)
  obtain rfl:j=0:=by omega
  rfl
 ·simp
 rintro mm e H ⟨k,f,rfl,hk,hf,rfl,rfl⟩
 repeat first|with_reducible refine au ?_|simp only[go_sem,simprocAttr]
 refine⟨λh=>?_,λh=>?_⟩
 ·have hkl:k<cs.length:=by omega
  have hk0:(0:Int)<=(k:Int):=by omega
  have ha:=hadd k (by omega)
  have hcc0:=vM cs k
  have hcc1:=BO cs k
  have hcc2:=BN cs k
  have hcc3:=BM cs k
  have hcc4:=BL cs k
  have hxm:cs.getD k (0,0,0,0,0) ∈ cs:=by rw[List.getD_eq_getElem?_getD,List.getElem?_eq_getElem hkl];exact List.getElem_mem hkl
  have hus:∀r,(r ∈ bL (cs.getD k (0,0,0,0,0))↔r ∈ aB (cs.getD k (0,0,0,0,0)).1 (cs.getD k (0,0,0,0,0)).2.2.1 (cs.getD k (0,0,0,0,0)).2.2.2.1\/r=aW (cs.getD k (0,0,0,0,0)).1 (cs.getD k (0,0,0,0,0)).2.1):=λr=>by unfold bL;simp only[List.mem_append,List.mem_singleton]
  have hsucc:∀r:Int,(∃i,i<k+1/\r ∈ bL (cs.getD i (0,0,0,0,0)))↔(∃i,i<k/\r ∈ bL (cs.getD i (0,0,0,0,0)))\/r ∈ bL (cs.getD k (0,0,0,0,0)):=λr=>by
   constructor
   ·rintro ⟨i,h1,h2⟩
    by_cases e:i=k
    ·subst e;exact .inr h2
    ·exact .inl ⟨i,by omega,h2⟩
   ·rintro (⟨i,h1,h2⟩|h)
    ·exact⟨i,by omega,h2⟩
    ·exact⟨k,by omega,h⟩
  have hrd:=hR _ hxm
  have hwr:=hW _ hxm
  have hop:=hops _ hxm
  generalize cs.getD k (0,0,0,0,0)=y at hcc0 hcc1 hcc2 hcc3 hcc4 hxm hus hsucc hrd hwr hop
  obtain⟨op,to,a,b,arg⟩:=y
  simp only at hcc0 hcc1 hcc2 hcc3 hcc4 hus hrd hwr hop
  have hru:=dM (m8 op to a b arg hop) (by rfl)
  simp only[List.map_cons,List.map_nil,RT.fz] at hru
  have hrl:(aB op a b).length<=1000:=by unfold aB;(repeat' split)<;>simp
  generalize aB op a b=rd at*
  generalize aW op to=w at*
  repeat first|with_reducible refine au ?_|simp only[hk0,h,hcc0,hcc1,hcc2,hcc3,hcc4,decide_true,go_sem,simprocAttr]
  refine am [] (.cons (.rfl (by rfl)) .nil) hru (by simp only[AH.mark_next,ae,av,aw,aj,ai,aq,af,ao,ah,List.length_cons,List.length_nil];decide) ?_
  repeat first|with_reducible refine au ?_|simp only[go_sem,simprocAttr]
  refine GA.loop (I:=λmm e H=>∃(q:Nat) (f:Nat->Bool),mm=rd.length-q/\q<=rd.length/\(∀r,r<R->(f r=true↔(∃i,i<k/\(r:Int) ∈ bL (cs.getD i (0,0,0,0,0)))\/∃j,j<q/\rd.getD j 0=(r:Int)))/\e=aF [(1,.p 0 0),(3,.os 1 R),(4,.n .i64 k),(5,.fs 1 rd.length (iC .i64 rd)),(6,.n .i64 w),(7,.n .i64 q)]/\H=aY [aG 4 1 R 0 (bF f),ba 0 25 [.fs 2 la.length (aC la),.n .i64 R,.n .i64 par,.fs 5 cs.length (cC cs)]]) (Wk.mk [1,0] [] ?_ ?_ ?_) ⟨0,f,rfl,Nat.zero_le _,λr hr=>(hf r hr).trans ⟨.inl,λh=>h.elim id (λ⟨j,hj,_⟩=>by omega)⟩,rfl,rfl⟩ ?_
  ·simp only[bh,bf,go_sem,simprocAttr]
   repeat' refine ab ?_ ?_
   all_goals first|exact bm|skip
  ·exact .cons rfl .k1 (.cons rfl .ls .nil)
  ·simp
  rintro mm e H ⟨q,f,rfl,hq,hf,rfl,rfl⟩
  repeat first|with_reducible refine au ?_|simp only[go_sem,simprocAttr]
  refine⟨λh2=>?_,λh2=>?_⟩
  ·have hql:q<rd.length:=by omega
   have hq0:(0:Int)<=(q:Int):=by omega
   have haq:=hadd q (by omega)
   have hqm:rd.getD q 0 ∈ rd:=by rw[List.getD_eq_getElem?_getD,List.getElem?_eq_getElem hql];exact List.getElem_mem hql
   obtain⟨hv0,hv1⟩:=hrd _ hqm
   obtain⟨v,hv⟩:∃v:Nat,rd.getD q 0=(v:Int):=⟨(rd.getD q 0).toNat,by omega⟩
   rw[hv] at hv0 hv1
   have hic:iC .i64 rd q 0= .n .i64 (v:Int):=by show AV.n .i64 (rd.getD q 0)=_;rw[hv]
   have hvR:v<R:=by omega
   have hv2:v+1<=R:=hvR
   repeat first|with_reducible refine au ?_|simp only[hq0,h2,hic,hv0,hv1,hvR,hv2,haq,decide_true,go_sem,simprocAttr]
   refine⟨_,_,_,?_,Wk.mk [1,0] [] ?_ ?_ ?_,q+1,uu f v,rfl,by omega,λr hr=>?_,rfl,rfl⟩
   ·omega
   ·simp only[bh,bf,go_sem,simprocAttr]
    repeat' refine ab ?_ ?_
    all_goals first|exact bm|skip
   ·exact .cons rfl (.put (q:=v) (by simp only[go_sem,simprocAttr];rfl) (by simp) rfl hvR rfl (by decide) (by omega) zf (λi j hi hj=>rfl)) (.cons rfl .ls .nil)
   ·simp
   ·unfold uu
    by_cases e:r=v
    ·rw[if_pos e]
     exact⟨λ_=> .inr ⟨q,by omega,by rw[hv,e]⟩,λ_=>rfl⟩
    ·rw[if_neg e,hf r hr]
     constructor
     ·rintro (h|⟨j,h1,h2⟩)
      ·exact .inl h
      ·exact .inr ⟨j,by omega,h2⟩
     ·rintro (h|⟨j,g1,g2⟩)
      ·exact .inl h
      ·by_cases e2:j=q
       ·rw[e2,hv] at g2;omega
       ·exact .inr ⟨j,by omega,g2⟩
  ·have hqq:q=rd.length:=by omega
   subst hqq
   have hf2:∀r,r<R->(f r=true↔(∃i,i<k/\(r:Int) ∈ bL (cs.getD i (0,0,0,0,0)))\/(r:Int) ∈ rd):=λr hr=>by
    rw[hf r hr]
    have:(∃j,j<rd.length/\rd.getD j 0=(r:Int))↔(r:Int) ∈ rd:=by
     constructor
     ·rintro ⟨j,h1,h2⟩
      rw[<-h2,List.getD_eq_getElem?_getD,List.getElem?_eq_getElem h1];exact List.getElem_mem h1
     ·intro hm
      obtain⟨j,hj,e⟩:=List.getElem_of_mem hm
      exact⟨j,hj,by rw[List.getD_eq_getElem?_getD,List.getElem?_eq_getElem hj,e];rfl⟩
    rw[this]
   repeat first|with_reducible refine au ?_|simp only[go_sem,simprocAttr]
   refine⟨λh3=>?_,λh3=>?_⟩
   ·obtain⟨v,hv⟩:∃v:Nat,w=(v:Int):=⟨w.toNat,by omega⟩
    subst hv
    have hv0:(0:Int)<=(v:Int):=by omega
    have hvR:v<R:=by omega
    have hv2:v+1<=R:=hvR
    repeat first|with_reducible refine au ?_|simp only[hv0,hwr,hvR,hv2,ha,decide_true,go_sem,simprocAttr]
    refine⟨_,_,_,?_,Wk.mk [1,0] [] ?_ ?_ ?_,k+1,uu f v,rfl,by omega,λr hr=>?_,rfl,rfl⟩
    ·omega
    ·simp only[bh,bf,go_sem,simprocAttr]
     repeat' refine ab ?_ ?_
     all_goals first|exact bm|skip
    ·exact .cons rfl (.put (q:=v) (by simp only[go_sem,simprocAttr];rfl) (by simp) rfl hvR rfl (by decide) (by omega) zf (λi j hi hj=>rfl)) (.cons rfl .ls .nil)
    ·simp
    ·rw[hsucc,hus]
     unfold uu
     by_cases e:r=v
     ·rw[if_pos e]
      exact⟨λ_=> .inr (.inr (by rw[e])),λ_=>rfl⟩
     ·rw[if_neg e,hf2 r hr]
      have:¬(r:Int)=(v:Int):=by omega
      simp only[this,or_false]
   ·repeat first|with_reducible refine au ?_|simp only[ha,go_sem,simprocAttr]
    refine⟨_,_,_,?_,Wk.mk [1,0] [] ?_ ?_ ?_,k+1,f,rfl,by omega,λr hr=>?_,rfl,rfl⟩
    ·omega
    ·simp only[bh,bf,go_sem,simprocAttr]
     repeat' refine ab ?_ ?_
     all_goals first|exact bm|skip
    ·exact .cons rfl .k1 (.cons rfl .ls .nil)
    ·simp
    ·rw[hsucc,hus,hf2 r hr]
     have:¬(r:Int)=w:=by omega
     simp only[this,or_false]
 ·have hkk:k=cs.length:=by omega
  subst hkk
  repeat first|with_reducible refine au ?_|simp only[go_sem,simprocAttr]
  refine⟨[_],rfl,cX.o (x:=aG 4 1 R 0 (bF f)) (by simp only[go_sem,simprocAttr]) rfl rfl rfl (by decide) (Nat.le_refl _) (Nat.le_refl _) (λi j hi hj=>?_) (λi j hi hj=>rfl) rfl .nil⟩
  rw[aN i j hj]
  unfold bF bC
  congr 1
  rw[Bool.eq_iff_iff,hf i hi,gr]
def d9(nm:List Int)(x:In):In:=(x.1,gm nm x.2.1,gm nm x.2.2.1,gm nm x.2.2.2.1,x.2.2.2.2)
theorem n9(nm:List Int)(x:In)(h1:x.2.1<(nm.length:Int))(h2:x.2.2.1<(nm.length:Int))(h3:x.2.2.2.1<(nm.length:Int)):bH Try.prog 50 [fK x,.fs 1 nm.length (iC .i64 nm)] [.v (fK (d9 nm x))]:=by
 obtain⟨op,to,a,b,arg⟩:=x
 refine aD aZ KI ⟨by simp,by decide⟩ ?_
 simp only[bz,fK]
 (try simp only[go_sem,simprocAttr])
 iterate 3 (with_reducible refine GA.go aZ rfl ?_;try simp only[go_sem,simprocAttr])
 refine GA.mixm aZ 1 (by simp only[eI,go_sem,simprocAttr]) ?_
 simp only[go_sem,simprocAttr]
 refine am [] (.cons (.rfl (by rfl)) (.cons (.rfl (by rfl)) .nil)) (gl nm to h1) (by simp only[AH.mark_next,ae,av,aw,aj,ai,aq,af,ao,ah,List.length_cons,List.length_nil];decide) ?_
 simp only[go_sem,simprocAttr]
 refine am [] (.cons (.rfl (by rfl)) (.cons (.rfl (by rfl)) .nil)) (gl nm a h2) (by simp only[AH.mark_next,ae,av,aw,aj,ai,aq,af,ao,ah,List.length_cons,List.length_nil];decide) ?_
 simp only[go_sem,simprocAttr]
 refine am [] (.cons (.rfl (by rfl)) (.cons (.rfl (by rfl)) .nil)) (gl nm b h3) (by simp only[AH.mark_next,ae,av,aw,aj,ai,aq,af,ao,ah,List.length_cons,List.length_nil];decide) ?_
 simp only[go_sem,simprocAttr]
 repeat first|with_reducible refine au ?_|simp only[go_sem,simprocAttr]
 exact⟨[_],rfl,cX.v rfl rfl .nil⟩
def oZ(f:In->In)(k:Nat)(cs:List In):List In:=(cs.take k).map f++cs.drop k
theorem sF(f:In->In)(k:Nat)(cs:List In)(h:k<=cs.length):(oZ f k cs).length=cs.length:=by unfold oZ;simp;omega
theorem oY(f:In->In)(k:Nat)(cs:List In)(i:Nat)(hi:i<cs.length):(oZ f k cs).getD i (0,0,0,0,0)=if i<k then f (cs.getD i (0,0,0,0,0)) else cs.getD i (0,0,0,0,0):=by
 unfold oZ
 simp only[List.getD_eq_getElem?_getD]
 by_cases h:i<k
 ·rw[if_pos h,List.getElem?_append_left (by simp;omega),List.getElem?_map,List.getElem?_take_of_lt h,List.getElem?_eq_getElem hi]
  rfl
 ·rw[if_neg h,List.getElem?_append_right (by simp;omega),List.getElem?_drop]
  congr 2
  simp;omega
theorem BB(f:In->In)(cs:List In):oZ f cs.length cs=cs.map f:=by unfold oZ;simp
theorem PS(f:In->In)(cs:List In):oZ f 0 cs=cs:=by unfold oZ;simp
theorem n8(la:List (Bool×Int))(regs par regs2:Int)(cs:List In)(nm:List Int)(hla:la.length<1000000)(hcs:cs.length<100000)(hnm:∀x ∈ cs,x.2.1<(nm.length:Int)/\x.2.2.1<(nm.length:Int)/\x.2.2.2.1<(nm.length:Int)):
  bH Try.prog 48 [ay la.length (aC la) regs par cs,.fs 1 nm.length (iC .i64 nm),.n .i64 regs2] [.v (ay la.length (aC la) regs2 par (cs.map (d9 nm)))]:=by
 have hadd:∀j:Nat,j<100000->IntKind.wrap .i64 ((j:Int)+1)=((j+1:Nat):Int):=λj hj=>by rw[aV (by omega)];omega
 have hC:=uD (na:=la.length) (ra:=aC la) (regs:=regs) (par:=par) (cs:=cs) hla dA (by omega)
 refine aD aZ KQ ⟨by simp,by decide⟩ ?_
 simp only[bz,ay] at hC ⊢
 repeat first|with_reducible refine au ?_|simp only[go_sem,simprocAttr]
 refine am [] (.cons (.rfl (by rfl)) .nil) hC (by simp only[AH.mark_next,ae,av,aw,aj,ai,aq,af,ao,ah,List.length_cons,List.length_nil];decide) ?_
 repeat first|with_reducible refine au ?_|simp only[go_sem,simprocAttr]
 refine GA.loop (I:=λmm e H=>∃(k:Nat),mm=cs.length-k/\k<=cs.length/\e=aF [(1,.fs 1 nm.length (iC .i64 nm)),(6,.p 0 0),(7,.p 2 0),(8,.n .i64 k)]/\
   H=aY [ba 0 25 [.fs 2 la.length (aC la),.n .i64 regs2,.n .i64 par,.os 1 cs.length],aG 60 5 cs.length 0 (cC (oZ (d9 nm) k cs)),ba 0 25 [.sl0,.n .i64 0,.n .i64 0,.sl0]]) (Wk.mk [4,3,1] [2] ?_ ?_ ?_) ⟨0,rfl,by omega,rfl,rfl⟩ ?_
 ·simp only[bh,bf,go_sem,simprocAttr]
  repeat' refine ab ?_ ?_
  all_goals first|exact bm|skip
 ·rw[PS]
  exact .cons rfl (.lstw (x:=_) (by simp only[go_sem,simprocAttr]<;>rfl) (by rfl) (by rfl) (by rfl) (by rfl) (by rfl) (by rfl) (by simp) (λi hi=>(by rcases gz hi with rfl|rfl|rfl|rfl<;>(simp only[go_sem,simprocAttr];first|exact Wv.same rfl|exact Wv.os rfl|exact Wv.cv (Cv.own (ty:=102) (z:=0) (by simp) (by simp only[go_sem,simprocAttr]) dA)|exact Wv.cv (Cv.own (ty:=60) (z:=0) (by simp) (by simp only[go_sem,simprocAttr]) (λi j _ hj=>bO i hj)))))) (.cons rfl .k5 (.cons rfl .ls .nil))
 ·simp
 rintro mm e H ⟨k,rfl,hk,rfl,rfl⟩
 have hlen:=sF (d9 nm) k cs hk
 repeat first|with_reducible refine au ?_|simp only[go_sem,simprocAttr]
 refine⟨λhlt=>?_,λhlt=>?_⟩
 ·have hk':k<cs.length:=by omega
  have hc0:(0:Int)<=k:=by omega
  have ha:=hadd k (by omega)
  have hck:(oZ (d9 nm) k cs).getD k (0,0,0,0,0)=cs.getD k (0,0,0,0,0):=by rw[oY _ k cs k hk',if_neg (by omega)]
  have hgr:∀j,j<5->(aG 60 5 cs.length 0 (cC (oZ (d9 nm) k cs))).get (k*5+j)=x6 (cs.getD k (0,0,0,0,0)) j:=λj hj=>by
   rw[aN k j hj]
   unfold cC
   rw[hck]
  have hsuc:∀i,i<cs.length->(oZ (d9 nm) (k+1) cs).getD i (0,0,0,0,0)=if i=k then d9 nm (cs.getD k (0,0,0,0,0)) else(oZ (d9 nm) k cs).getD i (0,0,0,0,0):=λi hi=>by
   rw[oY _ (k+1) cs i hi,oY _ k cs i hi]
   by_cases e:i=k
   ·subst e;rw[if_pos (by omega),if_pos rfl]
   ·rw[if_neg e]
    by_cases h2:i<k
    ·rw[if_pos (by omega),if_pos h2]
    ·rw[if_neg (by omega),if_neg h2]
  have hxm:cs.getD k (0,0,0,0,0) ∈ cs:=by rw[List.getD_eq_getElem?_getD,List.getElem?_eq_getElem hk'];exact List.getElem_mem hk'
  obtain⟨n1,n2,n3⟩:=hnm _ hxm
  have hrn:=n9 nm (cs.getD k (0,0,0,0,0)) n1 n2 n3
  generalize hx:cs.getD k (0,0,0,0,0)=x at hgr hsuc hrn
  obtain⟨op,to,a,b,arg⟩:=x
  simp only[fK,d9] at hrn
  have g0:(aG 60 5 cs.length 0 (cC (oZ (d9 nm) k cs))).get (k*5)= .n .i64 op:=hgr 0 (by decide)
  have g1:(aG 60 5 cs.length 0 (cC (oZ (d9 nm) k cs))).get (k*5+1)= .n .i64 to:=hgr 1 (by decide)
  have g2:(aG 60 5 cs.length 0 (cC (oZ (d9 nm) k cs))).get (k*5+1+1)= .n .i64 a:=hgr 2 (by decide)
  have g3:(aG 60 5 cs.length 0 (cC (oZ (d9 nm) k cs))).get (k*5+1+1+1)= .n .i64 b:=hgr 3 (by decide)
  have g4:(aG 60 5 cs.length 0 (cC (oZ (d9 nm) k cs))).get (k*5+1+1+1+1)= .n .u32 arg:=hgr 4 (by decide)
  have b0:k*5<cs.length*5:=by omega
  have b1:k*5+1<cs.length*5:=by omega
  have b2:k*5+1+1<cs.length*5:=by omega
  have b3:k*5+1+1+1<cs.length*5:=by omega
  have b4:k*5+1+1+1+1<cs.length*5:=by omega
  have b5:k*5+5<=cs.length*5:=by omega
  repeat first|with_reducible refine au ?_|simp only[hc0,hlt,g0,g1,g2,g3,g4,b0,b1,b2,b3,b4,decide_true,go_sem,simprocAttr]
  refine am [] (.cons (.rfl (by rfl)) (.cons (.rfl (by rfl)) .nil)) hrn (by simp only[AH.mark_next,ae,av,aw,aj,ai,aq,af,ao,ah,List.length_cons,List.length_nil];decide) ?_
  repeat first|with_reducible refine au ?_|simp only[hc0,hlt,b0,b1,b2,b3,b4,b5,ha,decide_true,go_sem,simprocAttr]
  refine⟨_,_,_,?_,Wk.mk [2,1,0] [] ?_ ?_ ?_,k+1,rfl,by omega,rfl,rfl⟩
  ·omega
  ·simp only[bh,bf,go_sem,simprocAttr]
   repeat' refine ab ?_ ?_
   all_goals first|exact bm|skip
  ·refine .cons rfl (.lstw (x:=_) (by simp only[go_sem,simprocAttr]<;>rfl) (by rfl) (by rfl) (by rfl) (by rfl) (by rfl) (by rfl) (by simp) (λi hi=>(by rcases gz hi with rfl|rfl|rfl|rfl<;>(simp only[go_sem,simprocAttr];first|exact Wv.same rfl|exact Wv.os rfl|exact Wv.cv (Cv.own (ty:=102) (z:=0) (by simp) (by simp only[go_sem,simprocAttr]) dA)|exact Wv.cv (Cv.own (ty:=60) (z:=0) (by simp) (by simp only[go_sem,simprocAttr]) (λi j _ hj=>bO i hj)))))) (.cons rfl (.rows (x:=_) (by simp only[go_sem,simprocAttr];rfl) (by rfl) (by rfl) (by rfl) (Nat.le_refl _) (Nat.le_refl _) (by decide) (λi j hi hj=>?_) (λi j _ hj=>by rcases ii hj with rfl|rfl|rfl|rfl|rfl<;>rfl)) (.cons rfl .ls .nil))
   rw[ff (by simp;omega)]
   unfold cC
   rw[hsuc i hi]
   by_cases e:i=k
   ·subst e
    rw[if_pos (by simp;omega),if_pos rfl,show i*5+j-i*5=j by omega]
    rcases ii hj with rfl|rfl|rfl|rfl|rfl<;>rfl
   ·rw[if_neg (by simp;omega),if_neg e,aN i j hj]
  ·simp
 ·have hk2:k=cs.length:=by omega
  subst hk2
  refine GA.wk (Wk.mk (L:=[(6,.p 0 0),(7,.p 1 0)]) (bl:=[ba 0 25 [.fs 2 la.length (aC la),.n .i64 regs2,.n .i64 par,.fs 5 cs.length (cC (oZ (d9 nm) cs.length cs))],ba 0 25 [.sl0,.n .i64 0,.n .i64 0,.sl0]]) [2,0] [1] ?_ ?_ ?_) ?_
  ·simp only[bh,bf,go_sem,simprocAttr]
   repeat' refine ab ?_ ?_
   all_goals first|exact bm|skip
  ·exact .cons rfl (.lstw (x:=_) (by simp only[go_sem,simprocAttr]<;>rfl) (by rfl) (by rfl) (by rfl) (by rfl) (by rfl) (by rfl) (by simp) (λi hi=>(by rcases gz hi with rfl|rfl|rfl|rfl<;>(simp only[go_sem,simprocAttr];first|exact Wv.same rfl|exact Wv.os rfl|exact Wv.cv (Cv.own (ty:=102) (z:=0) (by simp) (by simp only[go_sem,simprocAttr]) dA)|exact Wv.cv (Cv.own (ty:=60) (z:=0) (by simp) (by simp only[go_sem,simprocAttr]) (λi j _ hj=>bO i hj)))))) (.cons rfl .ls .nil)
  ·simp
  repeat first|with_reducible refine au ?_|simp only[go_sem,simprocAttr]
  rw[BB,List.length_map]
  exact⟨[_],rfl,cX.v rfl rfl .nil⟩
theorem uE(na:Nat)(ra:Nat->Nat->AV)(regs par er:Int)(cs:List In)(x:AV)(he:er≠0)(hc:bH Try.prog 39 [ay na ra regs par cs] [.v x,.v (.n .i64 er)])(nx:Nat->List Nat):
  bH Try.prog 12 [ay na ra regs par cs] [.v (.fs 1 0 (gC nx)),.v (.n .i64 er)]:=by
 refine dM (rs:=[.o 39 1 0 0 (gC nx),.v (.n .i64 er)]) ?_ (by rfl)
 refine aD aZ Ce ⟨by simp,by decide⟩ ?_
 simp only[bz,ay] at hc ⊢
 repeat first|with_reducible refine au ?_|simp only[go_sem,simprocAttr]
 refine am [] (.cons (.rfl (by rfl)) .nil) hc (by simp only[AH.mark_next,ae,av,aw,aj,ai,aq,af,ao,ah,List.length_cons,List.length_nil];decide) ?_
 repeat first|with_reducible refine au ?_|simp only[he,decide_true,decide_false,go_sem,simprocAttr]
 exact⟨[_,_],rfl,cX.o0 rfl (cX.v rfl rfl .nil)⟩
theorem wZ(na:Nat)(ra:Nat->Nat->AV)(regs par:Int)(cs:List In)(x:AV)(hc:bH Try.prog 39 [ay na ra regs par cs] [.v x,.v (.n .i64 0)])(n R:Nat)(hn:n<=20000)(hR:R<=2000)(L:Nat->Nat->Bool)
  (hlv:bH Try.prog 40 [ay na ra regs par cs] [.v (.fs 1 n (λi _=> .fs 1 R (bC (L i))))]):
  bH Try.prog 12 [ay na ra regs par cs] [.v (.fs 1 n (gC (λi=>dD (L i) R))),.v (.n .i64 0)]:=by
 have hadd:∀j:Nat,j<100000->IntKind.wrap .i64 ((j:Int)+1)=((j+1:Nat):Int):=λj hj=>by rw[aV (by omega)];omega
 refine dM (rs:=[.o 39 1 n 0 (gC (λi=>dD (L i) R)),.v (.n .i64 0)]) ?_ (by rfl)
 refine aD aZ Ce ⟨by simp,by decide⟩ ?_
 simp only[bz,ay] at hc hlv ⊢
 repeat first|with_reducible refine au ?_|simp only[go_sem,simprocAttr]
 refine am [] (.cons (.rfl (by rfl)) .nil) hc (by simp only[AH.mark_next,ae,av,aw,aj,ai,aq,af,ao,ah,List.length_cons,List.length_nil];decide) ?_
 repeat first|with_reducible refine au ?_|simp only[go_sem,simprocAttr]
 refine am [] (.cons (.rfl (by rfl)) .nil) hlv (by simp only[AH.mark_next,ae,av,aw,aj,ai,aq,af,ao,ah,List.length_cons,List.length_nil];decide) ?_
 repeat first|with_reducible refine au ?_|simp only[go_sem,simprocAttr]
 refine GA.wk (Wk.nil 7 1 39 (by simp only[go_sem,simprocAttr]) (by decide) (by simp only[go_sem,simprocAttr])) ?_
 refine GA.loop (I:=λmm e H=>∃(i:Nat),mm=n-i/\i<=n/\e=aF [(6,.fs 1 n (λi _=> .fs 1 R (bC (L i)))),(7,.os 0 i),(8,.n .i64 i)]/\H=aY [aG 39 1 i 0 (gC (λi=>dD (L i) R))]) (Wk.mk [1] [] ?_ ?_ ?_) ⟨0,rfl,Nat.zero_le _,rfl,rfl⟩ ?_
 ·simp only[bh,bf,go_sem,simprocAttr]
  repeat' refine ab ?_ ?_
  all_goals first|exact bm|skip
 ·exact .cons rfl (.rows (x:=_) (by simp only[go_sem,simprocAttr];rfl) (by rfl) (by rfl) (by rfl) (by show 0*1<=0;decide) (by exact Nat.le_refl _) (by decide) (λi j hi=>absurd (show i<0 from hi) (Nat.not_lt_zero _)) (λi j hi=>absurd (show i<0 from hi) (Nat.not_lt_zero _))) .nil
 ·simp
 rintro mm e H ⟨i,rfl,hi,rfl,rfl⟩
 repeat first|with_reducible refine au ?_|simp only[go_sem,simprocAttr]
 refine⟨λh=>?_,λh=>?_⟩
 ·have hil:i<n:=by omega
  have hi0:(0:Int)<=(i:Int):=by omega
  have ha:=hadd i (by omega)
  have hl1:i+1<1099511627776:=by omega
  have hl2:(i+1)*24<=140737488355328:=by omega
  have hl3:i<=9223372036854775806:=by omega
  have hmb:=dM (rC (L i) R (by omega)) (by rfl)
  simp only[List.map_cons,List.map_nil,RT.fz] at hmb
  repeat first|with_reducible refine au ?_|simp only[hi0,h,decide_true,go_sem,simprocAttr]
  refine am [] (.cons (.rfl (by rfl)) .nil) hmb (by simp only[AH.mark_next,ae,av,aw,aj,ai,aq,af,ao,ah,List.length_cons,List.length_nil];decide) ?_
  repeat first|with_reducible refine au ?_|simp only[ha,hl1,hl2,hl3,go_sem,simprocAttr]
  refine⟨_,_,_,?_,Wk.mk [2] [] ?_ ?_ ?_,i+1,rfl,by omega,rfl,rfl⟩
  ·omega
  ·simp only[bh,bf,go_sem,simprocAttr]
   repeat' refine ab ?_ ?_
   all_goals first|exact bm|skip
  ·exact .cons rfl (.rowW (by simp only[go_sem,simprocAttr];rfl) (by rfl) (by rfl) (by rfl) (by rw[app_size];show(i+1)*1<=_;simp only[cf.len,List.length_singleton];omega) (by rw[cw];exact Nat.le_refl _) rfl (by decide) (λq j hq hj=>dN (by omega) hq hj (.rfl (by rfl)))) .nil
  ·simp
 ·have hk:i=n:=by omega
  subst hk
  repeat first|with_reducible refine au ?_|simp only[go_sem,simprocAttr]
  exact⟨[_,_],rfl,cX.o (x:=aG 39 1 i 0 (gC (λi=>dD (L i) R))) (by simp only[go_sem,simprocAttr]) rfl rfl rfl (by decide) (Nat.le_refl _) (Nat.le_refl _) (λi j hi hj=>aN i j hj) (λi j hi hj=>rfl) rfl (cX.v rfl rfl .nil)⟩
theorem mL(na:Nat)(ra:Nat->Nat->AV)(regs par er:Int)(cs:List In)(v:AV)(he:er≠0)(hlive:bH Try.prog 12 [ay na ra regs par cs] [.v v,.v (.n .i64 er)]):
  bH Try.prog 14 [ay na ra regs par cs] [.v (.n .i64 0),.v (.n .i64 er)]:=by
 refine aD aZ Cd ⟨by simp,by decide⟩ ?_
 simp only[bz,ay] at hlive ⊢
 repeat first|with_reducible refine au ?_|simp only[go_sem,simprocAttr]
 refine am [] (.cons (.rfl (by rfl)) .nil) hlive (by simp only[AH.mark_next,ae,av,aw,aj,ai,aq,af,ao,ah,List.length_cons,List.length_nil];decide) ?_
 repeat first|with_reducible refine au ?_|simp only[he,decide_true,decide_false,go_sem,simprocAttr]
 exact⟨[_,_],rfl,cX.v rfl rfl (cX.v rfl rfl .nil)⟩
theorem og(na:Nat)(ra:Nat->Nat->AV)(regs par:Int)(cs:List In)(L:Nat->List Nat)(n:Nat)(hn:n<=20000)(hL:∀i,(L i).length<=100000)(hlive:bH Try.prog 12 [ay na ra regs par cs] [.v (.fs 1 n (gC L)),.v (.n .i64 0)]):
  bH Try.prog 14 [ay na ra regs par cs] [.v (.n .i64 (rH L n)),.v (.n .i64 0)]:=by
 have hadd:∀j:Nat,j<100000->IntKind.wrap .i64 ((j:Int)+1)=((j+1:Nat):Int):=λj hj=>by rw[aV (by omega)];omega
 refine aD aZ Cd ⟨by simp,by decide⟩ ?_
 simp only[bz,ay] at hlive ⊢
 repeat first|with_reducible refine au ?_|simp only[go_sem,simprocAttr]
 refine am [] (.cons (.rfl (by rfl)) .nil) hlive (by simp only[AH.mark_next,ae,av,aw,aj,ai,aq,af,ao,ah,List.length_cons,List.length_nil];decide) ?_
 repeat first|with_reducible refine au ?_|simp only[go_sem,simprocAttr]
 refine GA.loop (I:=λmm e' H=>∃(i:Nat),mm=n-i/\i<=n/\e'=aF [(4,.fs 1 n (gC L)),(6,.n .i64 (rH L i)),(7,.n .i64 i)]/\H=aY []) (Wk.mk [] [] ?_ ?_ ?_) ⟨0,rfl,Nat.zero_le _,rfl,rfl⟩ ?_
 ·simp only[bh,bf,go_sem,simprocAttr]
  repeat' refine ab ?_ ?_
  all_goals first|exact bm|skip
 ·exact .nil
 ·simp
 rintro mm e' H ⟨i,rfl,hi,rfl,rfl⟩
 repeat first|with_reducible refine au ?_|simp only[go_sem,simprocAttr]
 refine⟨λh=>?_,λh=>?_⟩
 ·have hil:i<n:=by omega
  have hi0:(0:Int)<=(i:Int):=by omega
  have ha:=hadd i (by omega)
  have hgC:gC L i 0= .fs 1 (L i).length (λj _=> .n .i64 (((L i).getD j 0:Nat):Int)):=rfl
  have hmx:(if(rH L i:Int)<((L i).length:Int) then((L i).length:Int) else(rH L i:Int))=((rH L (i+1):Nat):Int):=by
   show _=((max (rH L i) (L i).length:Nat):Int)
   split<;>omega
  repeat first|with_reducible refine au ?_|simp only[hi0,h,hgC,decide_true,ha,hmx,go_sem,simprocAttr]
  refine⟨_,_,_,?_,Wk.mk [] [] ?_ ?_ ?_,i+1,rfl,by omega,rfl,rfl⟩
  ·omega
  ·simp only[bh,bf,go_sem,simprocAttr]
   repeat' refine ab ?_ ?_
   all_goals first|exact bm|skip
  ·exact .nil
  ·simp
 ·have hk:i=n:=by omega
  subst hk
  repeat first|with_reducible refine au ?_|simp only[go_sem,simprocAttr]
  exact⟨[_,_],rfl,⟨rfl,rfl⟩,⟨rfl,rfl⟩,True.intro⟩
def eM(f:Nat->Bool):Nat->Nat
 |0=>0
 |r+1=>eM f r+(if f r then 1 else 0)
theorem t6(f:Nat->Bool):∀r,eM f r<=r
 |0=>Nat.le_refl _
 |r+1=>by have:=t6 f r;unfold eM;split<;>omega
def dj(f:Nat->Bool)(R:Nat):List Int:=(List.range R).map λr=>((eM f r:Nat):Int)
theorem jx(f:Nat->Bool)(R:Nat):(dj f R).length=R:=by unfold dj;simp
theorem vI(f:Nat->Bool)(R:Nat):dj f (R+1)=dj f R++[((eM f R:Nat):Int)]:=by unfold dj;rw[List.range_succ,List.map_append];rfl
theorem oh(na:Nat)(ra:Nat->Nat->AV)(regs par er:Int)(cs:List In)(x:AV)(he:er≠0)(hc:bH Try.prog 39 [ay na ra regs par cs] [.v x,.v (.n .i64 er)]):
  bH Try.prog 21 [ay na ra regs par cs] [.v (.agg [.sl0,.n .i64 0,.n .i64 0,.sl0]),.v (.n .i64 er)]:=by
 refine aD aZ Cc ⟨by simp,by decide⟩ ?_
 simp only[bz,ay] at hc ⊢
 repeat first|with_reducible refine au ?_|simp only[go_sem,simprocAttr]
 refine am [] (.cons (.rfl (by rfl)) .nil) hc (by simp only[AH.mark_next,ae,av,aw,aj,ai,aq,af,ao,ah,List.length_cons,List.length_nil];decide) ?_
 repeat first|with_reducible refine au ?_|simp only[he,decide_true,decide_false,go_sem,simprocAttr]
 exact⟨[_,_],rfl,cX.v rfl rfl (cX.v rfl rfl .nil)⟩
theorem pT(la:List (Bool×Int))(R:Nat)(par:Int)(cs:List In)(x:AV)(hla:la.length<1000000)(hcs:cs.length<=16384)(hR:R<=2000)(f:Nat->Bool)(hnm:∀x ∈ cs,x.2.1<(R:Int)/\x.2.2.1<(R:Int)/\x.2.2.2.1<(R:Int))
  (hc:bH Try.prog 39 [ay la.length (aC la) R par cs] [.v x,.v (.n .i64 0)])
  (ho:bH Try.prog 53 [ay la.length (aC la) R par cs] [.v (.fs 1 R (bC f))]):
  bH Try.prog 21 [ay la.length (aC la) R par cs] [.v (ay la.length (aC la) (eM f R) par (cs.map (d9 (dj f R)))),.v (.n .i64 0)]:=by
 have hadd:∀j:Nat,j<100000->IntKind.wrap .i64 ((j:Int)+1)=((j+1:Nat):Int):=λj hj=>by rw[aV (by omega)];omega
 have hrp:=n8 la R par (eM f R) cs (dj f R) hla (by omega) (λx hx=>by rw[jx];exact hnm x hx)
 refine aD aZ Cc ⟨by simp,by decide⟩ ?_
 simp only[bz,ay] at hc ho hrp ⊢
 repeat first|with_reducible refine au ?_|simp only[go_sem,simprocAttr]
 refine am [] (.cons (.rfl (by rfl)) .nil) hc (by simp only[AH.mark_next,ae,av,aw,aj,ai,aq,af,ao,ah,List.length_cons,List.length_nil];decide) ?_
 repeat first|with_reducible refine au ?_|simp only[go_sem,simprocAttr]
 refine am [] (.cons (.rfl (by rfl)) .nil) ho (by simp only[AH.mark_next,ae,av,aw,aj,ai,aq,af,ao,ah,List.length_cons,List.length_nil];decide) ?_
 repeat first|with_reducible refine au ?_|simp only[go_sem,simprocAttr]
 refine GA.wk (Wk.nil 7 1 3 (by simp only[go_sem,simprocAttr]) (by decide) (by simp only[go_sem,simprocAttr])) ?_
 refine GA.loop (I:=λmm e H=>∃(i:Nat),mm=R-i/\i<=R/\e=aF [(1,.p 0 0),(2,.p 1 0),(6,.fs 1 R (bC f)),(7,.os 2 (dj f i).length),(8,.n .i64 (eM f i)),(9,.n .i64 i)]/\H=aY [aG 3 1 (dj f i).length 0 (iC .i64 (dj f i)),ba 0 25 [.sl0,.n .i64 0,.n .i64 0,.sl0],ba 0 25 [.fs 2 la.length (aC la),.n .i64 R,.n .i64 par,.fs 5 cs.length (cC cs)]]) (Wk.mk [2,1,0] [] ?_ ?_ ?_) ⟨0,rfl,Nat.zero_le _,rfl,rfl⟩ ?_
 ·simp only[bh,bf,go_sem,simprocAttr]
  repeat' refine ab ?_ ?_
  all_goals first|exact bm|skip
 ·exact .cons rfl (.rows (x:=_) (by simp only[go_sem,simprocAttr];rfl) (by rfl) (by rfl) (by rfl) (by show 0*1<=0;decide) (by exact Nat.le_refl _) (by decide) (λi j hi=>absurd (show i<0 from hi) (Nat.not_lt_zero _)) (λi j hi=>absurd (show i<0 from hi) (Nat.not_lt_zero _))) (.cons rfl .ls (.cons rfl .ls .nil))
 ·simp
 rintro mm e H ⟨i,rfl,hi,rfl,rfl⟩
 repeat first|with_reducible refine au ?_|simp only[go_sem,simprocAttr]
 refine⟨λh=>?_,λh=>?_⟩
 ·have hil:i<R:=by omega
  have hi0:(0:Int)<=(i:Int):=by omega
  have ha:=hadd i (by omega)
  have hac:=hadd (eM f i) (by have:=t6 f i;omega)
  have hcl:=jx f i
  have hl1:(dj f i).length+1<1099511627776:=by omega
  have hl2:((dj f i).length+1)*8<=140737488355328:=by omega
  have hl3:(dj f i).length<=9223372036854775806:=by omega
  have hbc:bC f i 0= .b (f i):=rfl
  have hsc:=vI f i
  have hsl:(dj f (i+1)).length=(dj f i).length+1:=by rw[jx,jx]
  have hcs1:eM f (i+1)=eM f i+(if f i then 1 else 0):=rfl
  have wkrow:∀{H:AH} {b:Nat},H.at b=some ((aG 3 1 (dj f i).length 0 (iC .i64 (dj f i))).app (dj f i).length (.li [.n .i64 (eM f i)]))->cW (λb2=>([4,1,0]:List Nat).reverse[b2]?) [] H b (aG 3 1 (dj f (i+1)).length 0 (iC .i64 (dj f (i+1)))):=λhx=>by
   rw[hsl]
   refine .snoc hx (by simp) rfl rfl (by decide) (by omega) (λq j hq hj=>?_) (λj hj=>?_) (λq j _ _=>rfl)
   ·unfold iC
    rw[hsc,List.getD_eq_getElem?_getD,List.getElem?_append_left hq,<-List.getD_eq_getElem?_getD]
   ·obtain rfl:j=0:=by omega
    unfold iC
    rw[hsc,List.getD_eq_getElem?_getD,List.getElem?_append_right (Nat.le_refl _),Nat.sub_self]
    rfl
  cases hf:f i with
  |true=>
   rw[hf] at hbc hcs1
   have hcs1:eM f (i+1)=eM f i+1:=hcs1
   repeat first|with_reducible refine au ?_|simp only[hi0,h,hl1,hl2,hl3,hbc,ha,hac,decide_true,go_sem,simprocAttr]
   refine⟨_,aF [(1,.p 0 0),(2,.p 1 0),(6,.fs 1 R (bC f)),(7,.os 2 (dj f (i+1)).length),(8,.n .i64 (eM f (i+1))),(9,.n .i64 (i+1:Nat))],aY [aG 3 1 (dj f (i+1)).length 0 (iC .i64 (dj f (i+1))),ba 0 25 [.sl0,.n .i64 0,.n .i64 0,.sl0],ba 0 25 [.fs 2 la.length (aC la),.n .i64 R,.n .i64 par,.fs 5 cs.length (cC cs)]],?_,Wk.mk [4,1,0] [] ?_ ?_ ?_,i+1,rfl,by omega,rfl,rfl⟩
   ·omega
   ·rw[hsl,hcs1]
    simp only[bh,bf,go_sem,simprocAttr]
    repeat' refine ab ?_ ?_
    all_goals first|exact bm|skip
   ·exact .cons rfl (wkrow (by simp only[go_sem,simprocAttr]<;>rfl)) (.cons rfl .ls (.cons rfl .ls .nil))
   ·simp
  |false=>
   rw[hf] at hbc hcs1
   have hcs1:eM f (i+1)=eM f i:=hcs1
   repeat first|with_reducible refine au ?_|simp only[hi0,h,hl1,hl2,hl3,hbc,ha,decide_true,go_sem,simprocAttr]
   refine⟨_,aF [(1,.p 0 0),(2,.p 1 0),(6,.fs 1 R (bC f)),(7,.os 2 (dj f (i+1)).length),(8,.n .i64 (eM f (i+1))),(9,.n .i64 (i+1:Nat))],aY [aG 3 1 (dj f (i+1)).length 0 (iC .i64 (dj f (i+1))),ba 0 25 [.sl0,.n .i64 0,.n .i64 0,.sl0],ba 0 25 [.fs 2 la.length (aC la),.n .i64 R,.n .i64 par,.fs 5 cs.length (cC cs)]],?_,Wk.mk [4,1,0] [] ?_ ?_ ?_,i+1,rfl,by omega,rfl,rfl⟩
   ·omega
   ·rw[hsl,hcs1]
    simp only[bh,bf,go_sem,simprocAttr]
    repeat' refine ab ?_ ?_
    all_goals first|exact bm|skip
   ·exact .cons rfl (wkrow (by simp only[go_sem,simprocAttr]<;>rfl)) (.cons rfl .ls (.cons rfl .ls .nil))
   ·simp
 ·have hk:i=R:=by omega
  subst hk
  repeat first|with_reducible refine au ?_|simp only[go_sem,simprocAttr]
  refine am [2] (.cons (.rfl (by rfl)) (.cons (Cv.own (ty:=3) (z:=0) (by simp) (by simp only[go_sem,simprocAttr]) (λ_ _ _ _=>rfl)) (.cons (.rfl (by rfl)) .nil))) hrp (by simp only[AH.mark_next,ae,av,aw,aj,ai,aq,af,ao,ah,List.length_cons,List.length_nil];decide) ?_
  repeat first|with_reducible refine au ?_|simp only[go_sem,simprocAttr]
  exact⟨[_,_],rfl,cX.v rfl rfl (cX.v rfl rfl .nil)⟩
theorem rU{P:Nat->Prop}:∀B:Nat,¬P B->∃c,ee P c:=by
 intro B
 induction B using Nat.strongRecOn with
 |_ B ih=>
  intro hB
  by_cases h:∃c,c<B/\¬P c
  ·obtain⟨c,h1,h2⟩:=h
   exact ih c h1 h2
  ·exact⟨B,hB,λc' hc'=>Classical.byContradiction λh2=>h ⟨c',hc',h2⟩⟩
def Bf(K:Nat->Nat)(r c:Nat):Nat->Nat:=λx=>if x=r then c else K x
theorem rm.add{occ:Nat->Bool}{nb:Nat->Nat->Prop}{n:Nat}{K:Nat->Nat}(h:rm occ nb n K)(ho:occ n=true){c:Nat}(hc:ee (λc=>∃s,s<n/\occ s=true/\nb n s/\K s=c) c):rm occ nb (n+1) (Bf K n c):=by
 have hK:∀s,s<n->Bf K n c s=K s:=λs hs=>if_neg (by omega)
 refine⟨λr hr hor=>?_,λr hr hor=>?_⟩
 ·by_cases e:r=n
  ·subst e
   have:Bf K r c r=c:=if_pos rfl
   rw[this]
   refine hc.congr (λc=>⟨λ⟨s,h1,h2,h3,h4⟩=>⟨s,h1,h2,h3,by rw[hK s h1];exact h4⟩,λ⟨s,h1,h2,h3,h4⟩=>⟨s,h1,h2,h3,by rw[<-hK s h1];exact h4⟩⟩)
  ·rw[hK r (by omega)]
   refine(h.yes r (by omega) hor).congr (λc=>⟨λ⟨s,h1,h2,h3,h4⟩=>⟨s,h1,h2,h3,by rw[hK s (by omega)];exact h4⟩,λ⟨s,h1,h2,h3,h4⟩=>⟨s,h1,h2,h3,by rw[<-hK s (by omega)];exact h4⟩⟩)
 ·by_cases e:r=n
  ·subst e;rw[ho] at hor;cases hor
  ·rw[hK r (by omega)];exact h.no r (by omega) hor
theorem rm.pass{occ:Nat->Bool}{nb:Nat->Nat->Prop}{n:Nat}{K:Nat->Nat}(h:rm occ nb n K)(ho:occ n=false)(hk:K n=0):rm occ nb (n+1) K:=
 ⟨λr hr hor=>h.yes r (by
  by_cases e:r=n
  ·subst e;rw[ho] at hor;cases hor
  ·omega) hor,λr hr hor=>by
  by_cases e:r=n
  ·subst e;exact hk
  ·exact h.no r (by omega) hor⟩
theorem iL(occ:Nat->Bool)(nb:Nat->Nat->Prop):∀n,∃K:Nat->Nat,rm occ nb n K/\(∀r,n<=r->K r=0)/\∃B,∀r,K r<B
 |0=>⟨λ_=>0,⟨λr h=>by omega,λr h=>by omega⟩,λ_ _=>rfl,1,λ_=>Nat.one_pos⟩
 |n+1=>by
  obtain⟨K,h1,h2,B,h3⟩:=iL occ nb n
  cases ho:occ n with
  |false=>exact⟨K,h1.pass ho (h2 n (Nat.le_refl _)),λr hr=>h2 r (by omega),B,h3⟩
  |true=>
   obtain⟨c,hc⟩:=rU (P:=λc=>∃s,s<n/\occ s=true/\nb n s/\K s=c) B (λ⟨s,_,_,_,h⟩=>by have:=h3 s;omega)
   refine⟨Bf K n c,h1.add ho hc,λr hr=>?_,max B (c+1),λr=>?_⟩
   ·show(if r=n then c else K r)=0
    rw[if_neg (by omega)];exact h2 r (by omega)
   ·show(if r=n then c else K r)<_
    have:=h3 r
    split<;>omega
noncomputable def PU(occ:Nat->Bool)(nb:Nat->Nat->Prop)(n:Nat):Nat->Nat:=Classical.choose (iL occ nb n)
theorem yL(occ:Nat->Bool)(nb:Nat->Nat->Prop)(n:Nat):rm occ nb n (PU occ nb n):=(Classical.choose_spec (iL occ nb n)).1
def l6(K:Nat->Nat)(occ:Nat->Bool):Nat->Nat
 |0=>0
 |r+1=>if occ r=true then max (l6 K occ r) (K r+1) else l6 K occ r
theorem lZ{K K':Nat->Nat}{occ:Nat->Bool}:∀{n:Nat},(∀r,r<n->K r=K' r)->l6 K occ n=l6 K' occ n
 |0,_=>rfl
 |n+1,h=>by unfold l6;rw[lZ (λr hr=>h r (by omega)),h n (by omega)]
theorem tW{K:Nat->Nat}{occ:Nat->Bool}:∀{n:Nat},(∀r,r<n->K r<=r)->l6 K occ n<=n
 |0,_=>Nat.le_refl _
 |n+1,h=>by
  have:=tW (K:=K) (occ:=occ) (n:=n) (λr hr=>h r (by omega))
  have:=h n (by omega)
  unfold l6;split<;>omega
def kL(K:Nat->Nat)(R:Nat):List Int:=(List.range R).map λr=>((K r:Nat):Int)
theorem xV(K:Nat->Nat)(R r:Nat)(h:r<R):(kL K R).getD r 0=((K r:Nat):Int):=by
 unfold kL
 rw[List.getD_eq_getElem?_getD,List.getElem?_map,List.getElem?_range h]
 rfl
def wP(nm:List Int)(kept first:Int)(cs:List In):List In:=(cs.map λx=>wM kept first (d9 nm x)).flatten
section
variable (la:List (Bool×Int)) (regs par:Int) (cs:List In) (x:AV) (hla:la.length<1000000) (hcs:cs.length<=16384) (r n:Nat) (hr:4<=r/\r<=1024) (nm:List Int) (hnm:∀x ∈ cs,x.2.1<(nm.length:Int)/\x.2.2.1<(nm.length:Int)/\x.2.2.2.1<(nm.length:Int))
 (hc:bH Try.prog 39 [ay la.length (aC la) regs par cs] [.v x,.v (.n .i64 0)])
 (hcol:bH Try.prog 47 [ay la.length (aC la) regs par cs] [.v (.fs 1 nm.length (iC .i64 nm)),.v (.n .i64 n)])
include hla hcs hr hc hcol hnm
end
end Go.Proofs.Yteopfmnnhlhbmaa