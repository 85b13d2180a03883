/- A part of the proof of AllocateSettles: RlA RlB RiA RiB RjA RjB RkA RkB RkC. No condition. -/
import Derived.Test.YteopfmnnhlhbmaaHs33
import Derived.Test.YteopfmnnhlhbmaaHs34
import Derived.Test.YteopfmnnhlhbmaaHs17
set_option linter.unusedSimpArgs false
set_option linter.unusedVariables false
set_option linter.constructorNameAsVariable false
set_option maxRecDepth 100000
set_option maxHeartbeats 4000000
namespace Go.Proofs.Yteopfmnnhlhbmaa
open Go.RowKit
def kB(f:Nat->Bool):Nat->Nat
 |0=>0
 |R+1=>kB f R+(if f R then 1 else 0)
def iP(m:Nat->Nat->Bool)(R:Nat):Nat->Nat
 |0=>0
 |n+1=>iP m R n+kB (m n) R
theorem t7(f:Nat->Bool):∀R,kB f R<=R
 |0=>Nat.le_refl _
 |R+1=>by have:=t7 f R;unfold kB;split<;>omega
theorem t8(m:Nat->Nat->Bool)(R:Nat):∀n,iP m R n<=n*R
 |0=>by simp[iP]
 |n+1=>by have:=t8 m R n;have:=t7 (m n) R;unfold iP;rw[Nat.succ_mul];omega
theorem eD{f g:Nat->Bool}:∀{R:Nat},(∀c,c<R->f c=g c)->kB f R=kB g R
 |0,_=>rfl
 |R+1,h=>by unfold kB;rw[eD (λc hc=>h c (by omega)),h R (by omega)]
theorem ma{m m2:Nat->Nat->Bool}{R:Nat}:∀{n:Nat},(∀i,i<n->∀c,c<R->m i c=m2 i c)->iP m R n=iP m2 R n
 |0,_=>rfl
 |n+1,h=>by unfold iP;rw[ma (λi hi=>h i (by omega)),eD (h n (by omega))]
theorem qP{f:Nat->Bool}{c:Nat}(hf:f c=false):∀{R:Nat},c<R->kB (λd=>if d=c then true else f d) R=kB f R+1
 |0,h=>by omega
 |R+1,h=>by
  unfold kB
  by_cases e:c=R
  ·subst e
   rw[eD (g:=f) (λd hd=>if_neg (by omega)),if_pos (by simp),if_neg (by simp[hf])]
  ·rw[qP hf (show c<R by omega),if_neg (show ¬R=c by omega)]
   omega
theorem qQ{m:Nat->Nat->Bool}{i c R:Nat}(hc:c<R)(hf:m i c=false):∀{n:Nat},i<n->iP (kw m i c true) R n=iP m R n+1
 |0,h=>by omega
 |n+1,h=>by
  unfold iP
  by_cases e:i=n
  ·subst e
   rw[ma (m2:=m) (λj hj c' _=>by unfold kw;rw[if_neg (by omega)])]
   have:kB (kw m i c true i) R=kB (m i) R+1:=by
    rw[<-qP hf hc]
    refine eD (λd _=>?_)
    unfold kw
    by_cases e2:d=c<;>simp[e2]
   omega
  ·rw[qQ hc hf (show i<n by omega),eD (f:=kw m i c true n) (g:=m n) (λd _=>by unfold kw;rw[if_neg (by omega)])]
   omega
noncomputable def Hk(cs:List In)(nx:Nat->List Nat)(i r:Nat):Bool:= @decide (bt cs nx i (r:Int)) (Classical.propDecidable _)
theorem Bb{cs:List In}{nx:Nat->List Nat}{i r:Nat}:Hk cs nx i r=true↔bt cs nx i (r:Int):=by
 unfold Hk
 exact @decide_eq_true_iff _ (Classical.propDecidable _)
abbrev rH(cs:List In)(i:Nat):List Int:=aA (cs.getD i (0,0,0,0,0)).1 (cs.getD i (0,0,0,0,0)).2.2.1 (cs.getD i (0,0,0,0,0)).2.2.2.1
abbrev Gc(cs:List In)(i:Nat):Int:=aW (cs.getD i (0,0,0,0,0)).1 (cs.getD i (0,0,0,0,0)).2.1
def pz(cs:List In)(nx:Nat->List Nat)(m:Nat->Nat->Bool)(i r:Nat):Nat->Bool
 |0=>(rH cs i).contains (r:Int)
 |q+1=>pz cs nx m i r q||(m ((nx i).getD q 0) r&& !decide ((r:Int)=Gc cs i))
theorem qr{cs:List In}{nx:Nat->List Nat}{m:Nat->Nat->Bool}(hm:∀i r,m i r=true->bt cs nx i (r:Int)){i r:Nat}(hi:i<cs.length):∀{q:Nat},q<=(nx i).length->pz cs nx m i r q=true->bt cs nx i (r:Int)
 |0,_,h=> .read hi (by unfold pz at h;exact List.contains_iff_mem.1 h)
 |q+1,hq,h=>by
  unfold pz at h
  simp only[Bool.or_eq_true,Bool.and_eq_true,Bool.not_eq_true',decide_eq_false_iff_not] at h
  rcases h with h|⟨h1,h2⟩
  ·exact qr hm hi (by omega) h
  ·have hk:(nx i).getD q 0 ∈ nx i:=by rw[List.getD_eq_getElem?_getD,List.getElem?_eq_getElem (by omega)];exact List.getElem_mem _
   exact .flow hi hk (hm _ _ h1) h2
theorem lQ{cs:List In}{nx:Nat->List Nat}{m:Nat->Nat->Bool}{i r:Nat}:∀{q q2:Nat},q<=q2->pz cs nx m i r q=true->pz cs nx m i r q2=true
 |q,0,h,h1=>by obtain rfl:q=0:=(by omega);exact h1
 |q,q2+1,h,h1=>by
  by_cases e:q=q2+1
  ·subst e;exact h1
  ·unfold pz;rw[lQ (show q<=q2 by omega) h1];rfl
def kV(cs:List In)(nx:Nat->List Nat)(R:Nat)(m:Nat->Nat->Bool)(i:Nat):Prop:=∀r,r<R->pz cs nx m i r (nx i).length=true->m i r=true
theorem kx{cs:List In}{nx:Nat->List Nat}{R:Nat}{m:Nat->Nat->Bool}(hc:∀i,i<cs.length->kV cs nx R m i){i:Nat}{r:Int}(h:bt cs nx i r):∀n:Nat,n<R->r=(n:Int)->m i n=true:=by
 induction h with
 |read hi h=>
  rintro n hn rfl
  refine hc _ hi n hn (lQ (Nat.zero_le _) ?_)
  unfold pz
  exact List.contains_iff_mem.2 h
 |@flow i k r hi hk h hw ih=>
  rintro n hn rfl
  obtain⟨q,hq,e⟩:=List.getElem_of_mem hk
  refine hc _ hi n hn (lQ (q:=q+1) (by omega) ?_)
  unfold pz
  have:(nx i).getD q 0=k:=by rw[List.getD_eq_getElem?_getD,List.getElem?_eq_getElem hq,e];rfl
  rw[this,ih n hn rfl,decide_eq_false hw]
  simp
structure um(cs:List In)(nx:Nat->List Nat)(R:Nat)(m0 m:Nat->Nat->Bool)(fl:Bool)(q:Nat):Prop where
 live:∀i r,m i r=true->bt cs nx i (r:Int)
 no:fl=false->m=m0/\∀i,q<=i->i<cs.length->kV cs nx R m0 i
 yes:fl=true->iP m0 R (cs.length+1)<iP m R (cs.length+1)
structure kG(cs:List In)(nx:Nat->List Nat)(R:Nat)(m0 m:Nat->Nat->Bool)(fl:Bool)(p c:Nat):Prop where
 live:∀i r,m i r=true->bt cs nx i (r:Int)
 no:fl=false->m=m0/\(∀i,p+1<=i->i<cs.length->kV cs nx R m0 i)/\∀r,r<c->pz cs nx m0 p r (nx p).length=true->m0 p r=true
 yes:fl=true->iP m0 R (cs.length+1)<iP m R (cs.length+1)
theorem um.row{cs:List In}{nx:Nat->List Nat}{R:Nat}{m0 m:Nat->Nat->Bool}{fl:Bool}{p:Nat}(h:um cs nx R m0 m fl (p+1)):kG cs nx R m0 m fl p 0:=
 ⟨h.live,λhf=>⟨(h.no hf).1,(h.no hf).2,λr hr=>by omega⟩,h.yes⟩
theorem kG.pass{cs:List In}{nx:Nat->List Nat}{R:Nat}{m0 m:Nat->Nat->Bool}{fl:Bool}{p:Nat}(h:kG cs nx R m0 m fl p R):um cs nx R m0 m fl p:=
 ⟨h.live,λhf=>⟨(h.no hf).1,λi hi hl=>by
  by_cases e:i=p
  ·subst e;exact(h.no hf).2.2
  ·exact(h.no hf).2.1 i (by omega) hl⟩,h.yes⟩
theorem kG.skip{cs:List In}{nx:Nat->List Nat}{R:Nat}{m0 m:Nat->Nat->Bool}{fl:Bool}{p c:Nat}(h:kG cs nx R m0 m fl p c)(hs:pz cs nx m p c (nx p).length=true->m p c=true):kG cs nx R m0 m fl p (c+1):=
 ⟨h.live,λhf=>by
  obtain⟨rfl,h2,h3⟩:=h.no hf
  refine⟨rfl,h2,λr hr=>?_⟩
  by_cases e:r=c
  ·subst e;exact hs
  ·exact h3 r (by omega),h.yes⟩
theorem kG.put{cs:List In}{nx:Nat->List Nat}{R:Nat}{m0 m:Nat->Nat->Bool}{fl:Bool}{p c:Nat}(h:kG cs nx R m0 m fl p c)(hp:p<cs.length)(hc:c<R)(hs:pz cs nx m p c (nx p).length=true)(hn:m p c=false):kG cs nx R m0 (kw m p c true) true p (c+1):=by
 refine⟨λi r hm=>?_,λhf=>(by cases hf),λ_=>?_⟩
 ·unfold kw at hm
  split at hm
  ·rename_i e
   obtain⟨rfl,rfl⟩:=e
   exact qr h.live hp (Nat.le_refl _) hs
  ·exact h.live i r hm
 ·rw[qQ hc hn (by omega)]
  cases hfl:fl with
  |true=>have:=h.yes hfl;omega
  |false=>obtain⟨rfl,_⟩:=h.no hfl;omega
def pX(R i _j:Nat):AV:= .os i R
theorem far{j c:Nat}(h:j<100000)(hc:100000<=c):(j=c)=False:=by simp;omega
theorem BD{j:Nat}(h:j<100000):(j=100000)=False/\(j=100001)=False/\(j=100002)=False/\(j=100003)=False/\(j=100004)=False/\(j=100005)=False:=⟨far h (by decide),far h (by decide),far h (by decide),far h (by decide),far h (by decide),far h (by decide)⟩
theorem nS(ob:Nat->Option OB)(fam:Nat->AB)(k j:Nat)(hk:k<=100000)(hj:j<k)(hl:(fam j).live=true)(a b:AB):(eR ob k fam [a,b]).at j=some (fam j):=zC hk hj hl _ (by simp)
theorem Rc{k:Nat}:∀i j,i<k->j<k->id i=id j->i=j:=λ_ _ _ _ h=>h
theorem NW{r:Nat->Option Nat}{M:List Nat}{H:AH}{b ty R n:Nat}(hM:M.contains b=false)(hx:H.at b=some (aI ty 1 n 0 (pX R)))(hr:∀j,j<n->r j=some j):cY r M H b (aI ty 1 n 0 (pX R)):=
 ⟨_,hx,rfl,rfl,rfl,rfl,.inl rfl,by rw[if_neg (by simpa using hM)];exact Nat.le_refl _,λi hi=>by
  have hi':i<n:=by rw[ff] at hi;omega
  have:=aO (ty:=ty) (n:=n) (z:=0) (row:=pX R) i 0 (by decide:0<1)
  rw[Nat.mul_one,Nat.add_zero] at this
  rw[this]
  exact .os (hr i hi')⟩
theorem Q3{r:Nat->Option Nat}{H:AH}{b ty R n v:Nat}(hx:H.at b=some ((aI ty 1 n 0 (pX R)).app n (.li [.os v R])))(hn:n<900000)(hr:∀j,j<n->r j=some j)(hv:r n=some v):cY r [] H b (aI ty 1 (n+1) 0 (pX R)):=
 ⟨_,hx,(zF (aI ty 1 n 0 (pX R)) _ _).symm,(ui (aI ty 1 n 0 (pX R)) _ _).symm,(uh (aI ty 1 n 0 (pX R)) _ _).symm,rfl,.inl (by rw[app_size,ff,Nat.mul_one];rfl),by rw[cw];exact Nat.le_refl _,λi hi=>by
  have hi':i<n+1:=by rw[ff] at hi;omega
  have e2:∀n,(aI ty 1 n 0 (pX R)).get i= .os i R:=λn=>by
   have:=aO (ty:=ty) (n:=n) (z:=0) (row:=pX R) i 0 (by decide:0<1)
   rw[Nat.mul_one,Nat.add_zero] at this
   exact this
  rw[db _ _ _ (by omega) _ hi',e2 (n+1)]
  by_cases e:i<n
  ·rw[if_pos e,e2 n];exact .os (hr i e)
  ·obtain rfl:i=n:=by omega
   rw[if_neg e];exact .os hv⟩
theorem Q8{r:Nat->Option Nat}{H:AH}{b ty R:Nat}{m:Nat->Nat->Bool}{j:Nat}(hx:H.at b=some (aI ty 1 R 0 (λ_ j=>[AV.b false][j]?.getD .u)))(hm:∀c,m j c=false:=by intros;rfl):cY r [] H b (ig ty R m j):=
 .rows hx rfl rfl rfl (Nat.le_refl _) (Nat.le_refl _) (by decide) (λc q hc hq=>by obtain rfl:q=0:=(by omega);rw[aO _ _ hq,hm c];rfl) (λc q hc hq=>rfl)
abbrev mE(pr:List Int)(n:Nat):List (Nat×AV):=[(1,.p 100000 0),(3,.fs 1 pr.length (iC .i64 pr)),(6,.n .i64 n),(7,.os 100001 (n+1))]
abbrev wi(la:List (Bool×Int))(par:Int)(cs:List In)(R:Nat)(m:Nat->Nat->Bool):AH:=eR (λ_=>none) (cs.length+1) (ig 4 R m) [aI 55 1 (cs.length+1) 0 (pX R),bf 0 25 [.fs 2 la.length (aC la),.n .i64 R,.n .i64 par,.fs 5 cs.length (cC cs)]]
theorem cM{la:List (Bool×Int)}{par:Int}{cs:List In}{R:Nat}{m:Nat->Nat->Bool}{n:Nat}{e:Tr AV}{L:List (Nat×AV)}(hn:cs.length<=16384)(he:bj (rF (cs.length+1) id [100001,100000]) [] (wi la par cs R m) e L):Wk n e (wi la par cs R m) (aF L) (wi la par cs R m):=by
 refine Wk.mkF id [100001,100000] [] (by omega) he ?_ (by simp) (λj hj=>?_) Rc (λj hj=>?_) (λq x hq=>(by cases hq))
 ·exact .cons rfl (NW rfl (by simp only[go_sem,simprocAttr]) (λj hj=>pT (by omega) hj)) (.cons rfl (.ls (hx:=by simp only[go_sem,simprocAttr])) .nil)
 ·exact .mat (m:=m) (j:=j) (nS _ _ _ _ (by omega) hj rfl _ _) (λ_ _=>rfl)
 ·simp only[id]
  obtain⟨f0,f1,_⟩:=BD (show j<100000 by omega)
  simp[f0,f1]
theorem Gf{la:List (Bool×Int)}{par:Int}{cs:List In}{R:Nat}{m:Nat->Nat->Bool}{n p c:Nat}{e:Tr AV}{L:List (Nat×AV)}(hn:cs.length<=16384)(hR:R<=2000)(hp:p<cs.length+1)(hc:c<R)(he:bj (rF (cs.length+1) id [100001,100000]) [] ((wi la par cs R m).upd p ((ig 4 R m p).putN c [.b true])) e L):Wk n e ((wi la par cs R m).upd p ((ig 4 R m p).putN c [.b true])) (aF L) (wi la par cs R (kw m p c true)):=by
 obtain⟨f0,f1,_⟩:=BD (show p<100000 by omega)
 have g0:(100000=p)=False:=by simp;omega
 have g1:(100001=p)=False:=by simp;omega
 have hp6:p<1000000:=by omega
 refine Wk.mkF id [100001,100000] [] (by omega) he ?_ (by simp) (λj hj=>?_) Rc (λj hj=>?_) (λq x hq=>(by cases hq))
 ·exact .cons rfl (NW rfl (by simp only[hp6,g0,g1,go_sem,simprocAttr]) (λj hj=>pT (by omega) hj)) (.cons rfl (.ls (hx:=by simp only[hp6,g0,g1,go_sem,simprocAttr])) .nil)
 ·by_cases e:j=p
  ·subst e
   refine .matp (m:=m) (j:=j) (c0:=c) (v:=true) ?_ (by omega) hc (λd hd=>?_)
   ·show AH.at _ j=_
    rw[j4 hp6,if_pos rfl];rfl
   ·unfold kw
    by_cases e2:d=c<;>simp[e2]
  ·refine .mat (m:=m) (j:=j) ?_ (λd hd=>?_)
   ·show AH.at _ j=_
    rw[j4 hp6,if_neg e]
    exact nS _ _ _ _ (by omega) hj rfl _ _
   ·unfold kw
    rw[if_neg (λh=>e h.1)]
 ·simp only[id]
  obtain⟨f0,f1,_⟩:=BD (show j<100000 by omega)
  simp[f0,f1]
theorem Gy(la:List (Bool×Int))(par:Int)(cs:List In)(R:Nat)(hR2:R<=2000)(hn:cs.length<=16384)(pr:List Int)(nx:Nat->List Nat)(m0 m:Nat->Nat->Bool)(fl:Bool)(p c:Nat)(hp:p<cs.length)(hc:c<R)(hnx:∀k ∈ nx p,k<=cs.length)(hnl:(nx p).length<=2)(hrl:(rH cs p).length<=1000)(h:kG cs nx R m0 m fl p c)
  (Q:AE->Tr AV->AH->Prop) (hQ:∀(m':Nat->Nat->Bool) (fl':Bool) e' H',kG cs nx R m0 m' fl' p (c+1)->Wk 110 e' H' (aF ((14,.n .i64 c)::(13,gC nx p 0)::(12,.n .i64 (Gc cs p))::(11,.fs 1 (rH cs p).length (iC .i64 (rH cs p)))::(10,.n .i64 p)::(9,.b fl')::mE pr cs.length)) (wi la par cs R m')->Q .normal e' H'):
  GA Try.prog 110 (aK Try.prog 40) wB (aF ((14,.n .i64 c)::(13,gC nx p 0)::(12,.n .i64 (Gc cs p))::(11,.fs 1 (rH cs p).length (iC .i64 (rH cs p)))::(10,.n .i64 p)::(9,.b fl)::mE pr cs.length)) (wi la par cs R m) Q:=by
 have hadd:∀j:Nat,j<100000->IntKind.wrap .i64 ((j:Int)+1)=((j+1:Nat):Int):=λj hj=>by rw[aX (by omega)];omega
 have hgC:gC nx p 0= .fs 1 (nx p).length (λj _=> .n .i64 (((nx p).getD j 0:Nat):Int)):=rfl
 repeat first|with_reducible refine am ?_|simp only[go_sem,simprocAttr]
 refine aw [] (.cons (.rfl (by rfl)) (.cons (.rfl (by rfl)) .nil)) (xf (rH cs p) (by omega) (c:Int)) (by simp only[AH.mark_next,ag,aD,aE,av,ao,az,af,ay,ah,List.length_cons,List.length_nil];decide) ?_
 repeat first|with_reducible refine am ?_|simp only[go_sem,simprocAttr]
 refine GA.loop (I:=λmm e H=>∃(q:Nat),mm=(nx p).length-q/\q<=(nx p).length/\e=aF ((16,.n .i64 q)::(15,.b (pz cs nx m p c q))::(14,.n .i64 c)::(13,gC nx p 0)::(12,.n .i64 (Gc cs p))::(11,.fs 1 (rH cs p).length (iC .i64 (rH cs p)))::(10,.n .i64 p)::(9,.b fl)::mE pr cs.length)/\H=wi la par cs R m)
  (cM hn ?_) ⟨0,rfl,Nat.zero_le _,rfl,rfl⟩ ?_
 ·simp only[bj,bc,mE,go_sem,simprocAttr]
  repeat' refine ab ?_ ?_
  all_goals first|exact bw|skip
  all_goals exact Wv.same rfl
 rintro mm e H ⟨q,rfl,hq,rfl,rfl⟩
 repeat first|with_reducible refine am ?_|simp only[hgC,go_sem,simprocAttr]
 refine⟨λhlt=>?_,λhlt=>?_⟩
 ·have hql:q<(nx p).length:=by omega
  have hq0:(0:Int)<=(q:Int):=by omega
  have ha:=hadd q (by omega)
  have hk:(nx p).getD q 0<=cs.length:=hnx _ (by rw[List.getD_eq_getElem?_getD,List.getElem?_eq_getElem hql];exact List.getElem_mem _)
  have his:pz cs nx m p c (q+1)=(pz cs nx m p c q||(m ((nx p).getD q 0) c&& !decide ((c:Int)=Gc cs p))):=rfl
  obtain⟨k,hkq⟩:∃k,(nx p).getD q 0=k:=⟨_,rfl⟩
  rw[hkq] at hk his
  have hk0:(0:Int)<=(k:Int):=by omega
  have hk1:(k:Int)<((cs.length+1:Nat):Int):=by omega
  have hk2:k<cs.length+1:=by omega
  have hc0:(0:Int)<=(c:Int):=by omega
  have hc1:(c:Int)<(R:Int):=by omega
  have hat:=nS (λ_=>none) (ig 4 R m) (cs.length+1) k (by omega) hk2 rfl
  have hos:(aI 55 1 (cs.length+1) 0 (pX R)).get k= .os k R:=by
   have:=aO (ty:=55) (n:=cs.length+1) (z:=0) (row:=pX R) k 0 (by decide:0<1)
   rw[Nat.mul_one,Nat.add_zero] at this
   exact this
  have hge:=gx 4 R m k c
  have hsz:=jU 4 R m k
  cases hA:pz cs nx m p c q with
  |true=>
   rw[hA] at his
   repeat first|with_reducible refine am ?_|simp only[hA,ha,go_sem,simprocAttr]
   refine⟨_,_,_,?_,cM hn ?_,q+1,rfl,by omega,rfl,rfl⟩
   ·omega
   ·rw[his]
    simp only[bj,bc,mE,hgC,Bool.true_or,go_sem,simprocAttr]
    repeat' refine ab ?_ ?_
    all_goals first|exact bw|skip
    all_goals exact Wv.same rfl
  |false=>
   rw[hA] at his
   cases hm:m k c with
   |true=>
    rw[hm] at hge his
    repeat first|with_reducible refine am ?_|simp only[hA,ha,hq0,hlt,hkq,hk0,hk1,hk2,hc0,hc1,hc,hat,hos,hge,hsz,decide_true,go_sem,simprocAttr]
    refine⟨_,_,_,?_,cM hn ?_,q+1,rfl,by omega,rfl,rfl⟩
    ·omega
    ·rw[his]
     simp only[bj,bc,mE,hgC,Bool.false_or,Bool.true_and,go_sem,simprocAttr]
     repeat' refine ab ?_ ?_
     all_goals first|exact bw|skip
     all_goals exact Wv.same rfl
   |false=>
    rw[hm] at hge his
    repeat first|with_reducible refine am ?_|simp only[hA,ha,hq0,hlt,hkq,hk0,hk1,hk2,hc0,hc1,hc,hat,hos,hge,hsz,decide_true,go_sem,simprocAttr]
    refine⟨_,_,_,?_,cM hn ?_,q+1,rfl,by omega,rfl,rfl⟩
    ·omega
    ·rw[his]
     simp only[bj,bc,mE,hgC,Bool.false_or,Bool.false_and,go_sem,simprocAttr]
     repeat' refine ab ?_ ?_
     all_goals first|exact bw|skip
     all_goals exact Wv.same rfl
 ·have hqq:q=(nx p).length:=by omega
  subst hqq
  have hp0:(0:Int)<=(p:Int):=by omega
  have hp1:(p:Int)<((cs.length+1:Nat):Int):=by omega
  have hp2:p<cs.length+1:=by omega
  have hp6:p<1000000:=by omega
  have hc0:(0:Int)<=(c:Int):=by omega
  have hc1:(c:Int)<(R:Int):=by omega
  have hc2:c+1<=R:=hc
  have hat:=nS (λ_=>none) (ig 4 R m) (cs.length+1) p (by omega) hp2 rfl
  have hos:(aI 55 1 (cs.length+1) 0 (pX R)).get p= .os p R:=by
   have:=aO (ty:=55) (n:=cs.length+1) (z:=0) (row:=pX R) p 0 (by decide:0<1)
   rw[Nat.mul_one,Nat.add_zero] at this
   exact this
  have hge:=gx 4 R m p c
  have hsz:=jU 4 R m p
  have hfz:=xQ 4 R m p
  cases hA:pz cs nx m p c (nx p).length with
  |false=>
   repeat first|with_reducible refine am ?_|simp only[hA,go_sem,simprocAttr]
   refine hQ m fl _ _ (h.skip (λh2=>(by rw[hA] at h2;cases h2))) (cM hn ?_)
   simp only[bj,bc,mE,go_sem,simprocAttr]
   repeat' refine ab ?_ ?_
   all_goals first|exact bw|skip
   all_goals exact Wv.same rfl
  |true=>
   cases hm:m p c with
   |true=>
    rw[hm] at hge
    repeat first|with_reducible refine am ?_|simp only[hA,hp0,hp1,hp2,hc0,hc1,hc,hat,hos,hge,hsz,decide_true,go_sem,simprocAttr]
    refine hQ m fl _ _ (h.skip (λ_=>hm)) (cM hn ?_)
    simp only[bj,bc,mE,go_sem,simprocAttr]
    repeat' refine ab ?_ ?_
    all_goals first|exact bw|skip
    all_goals exact Wv.same rfl
   |false=>
    rw[hm] at hge
    repeat first|with_reducible refine am ?_|simp only[hA,hp0,hp1,hp2,hp6,hc0,hc1,hc2,hc,hat,hos,hge,hsz,hfz,decide_true,go_sem,simprocAttr]
    refine hQ (kw m p c true) true _ _ (h.put hp hc hA hm) (Gf hn hR2 hp2 hc ?_)
    simp only[bj,bc,mE,go_sem,simprocAttr]
    repeat' refine ab ?_ ?_
    all_goals first|exact bw|skip
    all_goals exact Wv.same rfl
theorem uG(la:List (Bool×Int))(par:Int)(cs:List In)(R:Nat)(hR2:R<=2000)(hn:cs.length<=16384)(pr:List Int)(hpr:pr.length=cs.length)(pt:Nat->Nat)(p2 p3:AV)(hp2:p2.pu 3=true)(hp3:p3.pu 3=true)
  (hpt:bS Try.prog 23 [.fs 5 cs.length (cC cs)] [.v (.fs 1 pr.length (iC .i64 pr)),.v p2,.v p3])
  (hpb:∀i,i<cs.length->dQ (bV cs i)->pr.getD i 0=(pt i:Int)/\pt i<cs.length)
  (hops:∀x ∈ cs,0<=x.1/\x.1<39) (hR:∀x ∈ cs,∀r ∈ aA x.1 x.2.2.1 x.2.2.2.1,0<=r/\r<(R:Int)):
  bS Try.prog 40 [aB la.length (aC la) R par cs] [.v (.fs 1 (cs.length+1) (λi _=> .fs 1 R (bC (Hk cs (b6 cs pt) i))))]:=by
 have hadd:∀j:Nat,j<100000->IntKind.wrap .i64 ((j:Int)+1)=((j+1:Nat):Int):=λj hj=>by rw[aX (by omega)];omega
 have hsub:∀j:Int,0<=j->j<100000->IntKind.wrap .i64 (j-1)=j-1:=λj h0 hj=>aX (by omega)
 have hR0:(0:Int)<=(R:Int):=by omega
 have hR1:(R:Int)<=16777216:=by omega
 have hR3:1*R<=140737488355328:=by omega
 have hR4:R<1099511627776:=by omega
 have hR5:R<=140737488355328:=by omega
 refine yi (by rfl) (aN bh KE ⟨by simp,by decide⟩ ?_)
 simp only[bN,aB]
 repeat first|with_reducible refine am ?_|simp only[go_sem,simprocAttr]
 refine aw [] (.cons (.rfl (by rfl)) .nil) hpt (by simp only[AH.mark_next,ag,aD,aE,av,ao,az,af,ay,ah,List.length_cons,List.length_nil];decide) ?_
 repeat first|with_reducible refine am ?_|simp only[go_sem,simprocAttr]
 refine GA.wk (Wk.nil 7 1 55 (by simp only[go_sem,simprocAttr]) (by decide) (by simp only[go_sem,simprocAttr])) ?_
 refine GA.loop (I:=λmm e H=>∃(i:Nat),mm=cs.length+1-i/\i<=cs.length+1/\e=aF [(1,.p 100000 0),(3,.fs 1 pr.length (iC .i64 pr)),(6,.n .i64 cs.length),(7,.os 100001 i),(8,.n .i64 i)]/\H=eR (λ_=>none) i (ig 4 R (λ_ _=>false)) [aI 55 1 i 0 (pX R),bf 0 25 [.fs 2 la.length (aC la),.n .i64 R,.n .i64 par,.fs 5 cs.length (cC cs)]])
  (Wk.mkF id [1,0] [] (Nat.zero_le _) ?_ ?_ ?_ (λj hj=>absurd hj (Nat.not_lt_zero _)) Rc (λj hj=>absurd hj (Nat.not_lt_zero _)) (λq x hq=>(by cases hq))) ⟨0,rfl,Nat.zero_le _,rfl,rfl⟩ ?_
 ·simp only[bj,bc,go_sem,simprocAttr]
  repeat' refine ab ?_ ?_
  all_goals first|exact bw|skip
 ·exact .cons rfl (.rows (x:=_) (by simp only[go_sem,simprocAttr];rfl) (by rfl) (by rfl) (by rfl) (by show 0*1<=0;decide) (by exact Nat.le_refl _) (by decide) (λi j hi=>absurd (show i<0 from hi) (Nat.not_lt_zero _)) (λi j hi=>absurd (show i<0 from hi) (Nat.not_lt_zero _))) (.cons rfl .ls .nil)
 ·simp
 rintro mm e H ⟨i,rfl,hi,rfl,rfl⟩
 repeat first|with_reducible refine am ?_|simp only[go_sem,simprocAttr]
 refine⟨λh=>?_,λh=>?_⟩
 ·have hil:i<=cs.length:=by omega
  have ha:=hadd i (by omega)
  have hl1:i+1<1099511627776:=by omega
  have hl2:(i+1)*24<=140737488355328:=by omega
  have hl3:i<=9223372036854775806:=by omega
  repeat first|with_reducible refine am ?_|simp only[hR0,hR1,hR3,hR4,hR5,ha,hl1,hl2,hl3,Int.le_refl,decide_true,go_sem,simprocAttr]
  refine⟨_,_,_,?_,Wk.mkF (λj=>if j=i then 100002 else j) [100004,100000] [] (k:=i+1) (by omega) ?_ ?_ ?_ (λj hj=>?_) (λj1 j2 h1 h2 he=>?_) (λj hj=>?_) (λq x hq=>(by cases hq)),i+1,rfl,by omega,rfl,rfl⟩
  ·omega
  ·simp only[bj,bc,go_sem,simprocAttr]
   repeat' refine ab ?_ ?_
   all_goals first|exact bw|skip
  ·exact .cons rfl (Q3 (v:=100002) (by simp only[go_sem,simprocAttr]<;>rfl) (by omega) (λj hj=>by rw[pT (by omega) (by omega),if_neg (by omega)]) (by rw[pT (by omega) (by omega),if_pos rfl])) (.cons rfl .ls .nil)
  ·simp
  ·by_cases e:j=i
   ·subst e
    rw[if_pos rfl]
    exact Q8 (by simp only[go_sem,simprocAttr]<;>rfl)
   ·rw[if_neg e]
    have hat:=nS (λ_=>none) (ig 4 R (λ_ _=>false)) i j (by omega) (show j<i by omega) rfl
    obtain⟨f0,f1,f2,f3,f4,f5⟩:=BD (show j<100000 by omega)
    exact .mat (m:=λ_ _=>false) (j:=j) (by simp only[hat,f0,f1,f2,f3,f4,f5,go_sem,simprocAttr]) (λ_ _=>rfl)
  ·by_cases e1:j1=i<;>by_cases e2:j2=i<;>simp only[e1,e2,if_true,if_false] at he<;>omega
  ·by_cases e:j=i<;>simp[e]<;>omega
 ·have hie:i=cs.length+1:=by omega
  subst hie
  repeat first|with_reducible refine am ?_|simp only[go_sem,simprocAttr]
  have hrdl:∀i,(rH cs i).length<=1000:=λi=>by unfold rH aA;(repeat' split)<;>simp
  have hnxl:∀i,(b6 cs pt i).length<=2:=λi=>by unfold b6;(repeat' split)<;>simp
  have hnxb:∀i,i<cs.length->∀k ∈ b6 cs pt i,k<=cs.length:=λi hi k hk=>by
   have hb:=hpb i hi
   unfold b6 at hk
   unfold dQ at hb
   split at hk
   ·have:=(hb (by omega)).2;simp at hk;omega
   split at hk
   ·have:=(hb (by omega)).2;simp at hk;omega
   split at hk
   ·have:=(hb (by omega)).2
    split at hk<;>simp at hk<;>omega
   ·simp at hk;omega
  refine GA.loop (I:=λmm e H=>∃(m:Nat->Nat->Bool) (fl:Bool),mm=2*((cs.length+1)*R-iP m R (cs.length+1))+(if fl then 1 else 0)/\(∀i r,m i r=true->bt cs (b6 cs pt) i (r:Int))/\(fl=false->∀i,i<cs.length->kV cs (b6 cs pt) R m i)/\e=aF ((9,.b fl)::mE pr cs.length)/\H=wi la par cs R m)
   (cM hn ?_) ⟨λ_ _=>false,true,rfl,λi r h=>(by cases h),λh=>(by cases h),rfl,rfl⟩ ?_
  ·simp only[bj,bc,mE,go_sem,simprocAttr]
   repeat' refine ab ?_ ?_
   all_goals first|exact bw|skip
   all_goals exact Wv.same rfl
  rintro mm e H ⟨m,fl,rfl,hlive,hcl,rfl,rfl⟩
  repeat first|with_reducible refine am ?_|simp only[go_sem,simprocAttr]
  refine⟨λhf=>?_,λhf=>?_⟩
  ·subst hf
   have hs0:IntKind.wrap .i64 ((cs.length:Int)-1)=(cs.length:Int)-1:=aX (by omega)
   repeat first|with_reducible refine am ?_|simp only[hs0,go_sem,simprocAttr]
   refine GA.loop (I:=λmm e H=>∃(p:Nat) (m':Nat->Nat->Bool) (fl:Bool),mm=0+p/\p<=cs.length/\um cs (b6 cs pt) R m m' fl p/\e=aF ((10,.n .i64 ((p:Int)-1))::(9,.b fl)::mE pr cs.length)/\H=wi la par cs R m')
    (cM hn ?_) ⟨cs.length,m,false,rfl,Nat.le_refl _,⟨hlive,λ_=>⟨rfl,λi h1 h2=>by omega⟩,λh=>(by cases h)⟩,rfl,rfl⟩ ?_
   ·simp only[bj,bc,mE,go_sem,simprocAttr]
    repeat' refine ab ?_ ?_
    all_goals first|exact bw|skip
    all_goals exact Wv.same rfl
   rintro mm e H ⟨p,m',fl,rfl,hp,hP,rfl,rfl⟩
   repeat first|with_reducible refine am ?_|simp only[go_sem,simprocAttr]
   refine⟨λh0=>?_,λh0=>?_⟩
   ·obtain⟨p,rfl⟩:∃p',p=p'+1:=⟨p-1,by omega⟩
    have hpn:p<cs.length:=by omega
    have hpe:((p+1:Nat):Int)-1=(p:Int):=by omega
    have hp0:(0:Int)<=(p:Int):=by omega
    have hp1:(p:Int)<(cs.length:Int):=by omega
    have hs:=hsub (p:Int) (by omega) (by omega)
    have hcc0:=wu cs p
    have hcc1:=CE cs p
    have hcc2:=CD cs p
    have hcc3:=CC cs p
    have hcc4:=CB cs p
    have hxm:cs.getD p (0,0,0,0,0) ∈ cs:=by rw[List.getD_eq_getElem?_getD,List.getElem?_eq_getElem hpn];exact List.getElem_mem hpn
    have hru:=gZ (uz (cs.getD p (0,0,0,0,0)).1 (cs.getD p (0,0,0,0,0)).2.1 (cs.getD p (0,0,0,0,0)).2.2.1 (cs.getD p (0,0,0,0,0)).2.2.2.1 (cs.getD p (0,0,0,0,0)).2.2.2.2 (hops _ hxm)) (by rfl)
    simp only[List.map_cons,List.map_nil,RT.fz] at hru
    repeat first|with_reducible refine am ?_|simp only[hpe,hp0,hp1,hcc0,hcc1,hcc2,hcc3,hcc4,decide_true,go_sem,simprocAttr]
    refine aw [] (.cons (.rfl (by rfl)) .nil) hru (by simp only[AH.mark_next,ag,aD,aE,av,ao,az,af,ay,ah,List.length_cons,List.length_nil];decide) ?_
    repeat first|with_reducible refine am ?_|simp only[go_sem,simprocAttr]
    refine aw [] (.cons (.rfl (by rfl)) (.cons (.rfl (by rfl)) (.cons (.rfl (by rfl)) .nil))) (uA cs hn pr hpr pt p hpn (hpb p hpn)) (by simp only[AH.mark_next,ag,aD,aE,av,ao,az,af,ay,ah,List.length_cons,List.length_nil];decide) ?_
    repeat first|with_reducible refine am ?_|simp only[go_sem,simprocAttr]
    refine GA.loop (I:=λmm e H=>∃(c:Nat) (m2:Nat->Nat->Bool) (fl:Bool),mm=R-c/\c<=R/\kG cs (b6 cs pt) R m m2 fl p c/\e=aF ((14,.n .i64 c)::(13,gC (b6 cs pt) p 0)::(12,.n .i64 (Gc cs p))::(11,.fs 1 (rH cs p).length (iC .i64 (rH cs p)))::(10,.n .i64 p)::(9,.b fl)::mE pr cs.length)/\H=wi la par cs R m2)
     (cM hn ?_) ⟨0,m',fl,rfl,Nat.zero_le _,hP.row,rfl,rfl⟩ ?_
    ·simp only[bj,bc,mE,go_sem,simprocAttr]
     repeat' refine ab ?_ ?_
     all_goals first|exact bw|skip
     all_goals exact Wv.same rfl
    rintro mm e H ⟨c,m2,fl2,rfl,hc,hrow,rfl,rfl⟩
    repeat first|with_reducible refine am ?_|simp only[go_sem,simprocAttr]
    refine⟨λh1=>?_,λh1=>?_⟩
    ·have hcl:c<R:=by omega
     have ha:=hadd c (by omega)
     (try simp only[go_sem,simprocAttr])
     iterate 1 (with_reducible refine GA.go bh rfl ?_;try simp only[go_sem,simprocAttr])
     refine GA.seq ?_
     refine GA.block ?_
     refine GA.wk (cM (L:=(14,.n .i64 c)::(13,gC (b6 cs pt) p 0)::(12,.n .i64 (Gc cs p))::(11,.fs 1 (rH cs p).length (iC .i64 (rH cs p)))::(10,.n .i64 p)::(9,.b fl2)::mE pr cs.length) hn ?_) ?_
     ·simp only[bj,bc,mE,go_sem,simprocAttr]
      repeat' refine ab ?_ ?_
      all_goals first|exact bw|skip
      all_goals exact Wv.same rfl
     refine Gy la par cs R hR2 hn pr (b6 cs pt) m m2 fl2 p c hpn hcl (hnxb p hpn) (hnxl p) (hrdl p) hrow _ (λm3 fl3 e' H' hrow' hwk=>?_)
     simp only[go_sem,simprocAttr]
     refine GA.wk hwk ?_
     repeat first|with_reducible refine am ?_|simp only[ha,go_sem,simprocAttr]
     refine⟨_,_,_,?_,cM hn ?_,c+1,m3,fl3,rfl,by omega,hrow',rfl,rfl⟩
     ·omega
     ·simp only[bj,bc,mE,go_sem,simprocAttr]
      repeat' refine ab ?_ ?_
      all_goals first|exact bw|skip
      all_goals exact Wv.same rfl
    ·have hcR:c=R:=by omega
     subst hcR
     repeat first|with_reducible refine am ?_|simp only[hs,go_sem,simprocAttr]
     refine⟨_,_,_,?_,cM hn ?_,p,m2,fl2,rfl,by omega,hrow.pass,rfl,rfl⟩
     ·omega
     ·simp only[bj,bc,mE,go_sem,simprocAttr]
      repeat' refine ab ?_ ?_
      all_goals first|exact bw|skip
      all_goals exact Wv.same rfl
   ·have hp0:p=0:=by omega
    subst hp0
    repeat first|with_reducible refine am ?_|simp only[go_sem,simprocAttr]
    refine⟨_,_,_,?_,cM hn ?_,m',fl,rfl,hP.live,λhf=>?_,rfl,rfl⟩
    ·have h1:=t8 m' R (cs.length+1)
     cases fl with
     |true=>have:=hP.yes rfl;simp only[if_true];omega
     |false=>obtain⟨rfl,_⟩:=hP.no rfl;simp
    ·simp only[bj,bc,mE,go_sem,simprocAttr]
     repeat' refine ab ?_ ?_
     all_goals first|exact bw|skip
     all_goals exact Wv.same rfl
    ·obtain⟨rfl,h2⟩:=hP.no hf
     exact λi hi=>h2 i (Nat.zero_le _) hi
  ·subst hf
   have hcl:=hcl rfl
   have hmeq:∀i c,c<R->m i c=Hk cs (b6 cs pt) i c:=λi c hc=>by
    rw[Bool.eq_iff_iff,Bb]
    exact⟨hlive i c,λh=>kx hcl h c hc rfl⟩
   refine GA.wk (Wk.mkO (ob:=λ_=>none) (L:=[(7,.os 0 (cs.length+1))]) (bl:=[aI 55 1 (cs.length+1) 0 (λi _=> .fs 1 R (bC (Hk cs (b6 cs pt) i)))]) [100001] (List.range (cs.length+1)) ?_ ?_ (by simp) (λq x hq=>(by cases hq))) ?_
   ·simp only[bj,bc,mE,go_sem,simprocAttr]
    repeat' refine ab ?_ ?_
    all_goals first|exact bw|skip
   ·refine .cons rfl ⟨aI 55 1 (cs.length+1) 0 (pX R),by simp only[go_sem,simprocAttr],rfl,rfl,rfl,rfl,.inl rfl,by rw[if_neg (by simp;omega)];exact Nat.le_refl _,λi hi=>?_⟩ .nil
    have hi':i<cs.length+1:=by rw[ff] at hi;omega
    have e2:∀(row:Nat->Nat->AV),(aI 55 1 (cs.length+1) 0 row).get i=row i 0:=λrow=>by
     have:=aO (ty:=55) (n:=cs.length+1) (z:=0) (row:=row) i 0 (by decide:0<1)
     rw[Nat.mul_one,Nat.add_zero] at this
     exact this
    rw[e2,e2]
    refine .cv (.os (x:=ig 4 R m i) (List.mem_range.2 hi') (nS _ _ _ _ (by omega) hi' rfl _ _) (by rw[jU];omega) (λc j hc hj=>?_) (λc j hc hj=>rfl))
    obtain rfl:j=0:=by omega
    rw[Nat.mul_one,Nat.add_zero,gx,hmeq i c hc]
    rfl
   repeat first|with_reducible refine am ?_|simp only[go_sem,simprocAttr]
   exact⟨[0],.os (x:=aI 55 1 (cs.length+1) 0 (λi _=> .fs 1 R (bC (Hk cs (b6 cs pt) i)))) (by simp) (by simp only[go_sem,simprocAttr]) (Nat.le_refl _) (λi j hi hj=>aO i j hj) (λi j hi hj=>rfl)⟩
section
variable {cs:List In} {nx:Nat->List Nat} {R i q c a b:Nat}
end
end Go.Proofs.Yteopfmnnhlhbmaa
namespace Go.Proofs.Yteopfmnnhlhbmaa
open Go.RowKit
noncomputable def vx(cs:List In)(nx:Nat->List Nat)(a b:Nat):Bool:= @decide (fQ cs nx (a:Int) (b:Int)) (Classical.propDecidable _)
theorem lP{cs:List In}{nx:Nat->List Nat}{a b:Nat}:vx cs nx a b=true↔fQ cs nx (a:Int) (b:Int):=by
 unfold vx
 exact @decide_eq_true_iff _ (Classical.propDecidable _)
theorem AR{cs:List In}{pt:Nat->Nat}{i:Nat}(hi:i<cs.length)(hb:dQ (bV cs i)->pt i<cs.length):∀k ∈ b6 cs pt i,k<=cs.length:=λk hk=>by
 unfold b6 at hk
 unfold dQ at hb
 split at hk
 ·have:=hb (by omega);simp at hk;omega
 split at hk
 ·have:=hb (by omega);simp at hk;omega
 split at hk
 ·have:=hb (by omega)
  split at hk<;>simp at hk<;>omega
 ·simp at hk;omega
def eY(nm:List Int)(x:In):In:=(x.1,cX nm x.2.1,cX nm x.2.2.1,cX nm x.2.2.2.1,x.2.2.2.2)
theorem xh(na:Nat)(ra:Nat->Nat->AV)(regs par:Int)(cs:List In)(x:AV)(hc:bS Try.prog 39 [aB na ra regs par cs] [.v x,.v (.n .i64 0)])(n R:Nat)(hn:n<=20000)(hR:R<=2000)(L:Nat->Nat->Bool)
  (hlv:bS Try.prog 40 [aB na ra regs par cs] [.v (.fs 1 n (λi _=> .fs 1 R (bC (L i))))]):
  bS Try.prog 12 [aB na ra regs par cs] [.v (.fs 1 n (gC (λi=>dD (L i) R))),.v (.n .i64 0)]:=by
 have hadd:∀j:Nat,j<100000->IntKind.wrap .i64 ((j:Int)+1)=((j+1:Nat):Int):=λj hj=>by rw[aX (by omega)];omega
 refine gZ (rs:=[.o 39 1 n 0 (gC (λi=>dD (L i) R)),.v (.n .i64 0)]) ?_ (by rfl)
 refine aN bh KQ ⟨by simp,by decide⟩ ?_
 simp only[bN,aB] at hc hlv ⊢
 repeat first|with_reducible refine am ?_|simp only[go_sem,simprocAttr]
 refine aw [] (.cons (.rfl (by rfl)) .nil) hc (by simp only[AH.mark_next,ag,aD,aE,av,ao,az,af,ay,ah,List.length_cons,List.length_nil];decide) ?_
 repeat first|with_reducible refine am ?_|simp only[go_sem,simprocAttr]
 refine aw [] (.cons (.rfl (by rfl)) .nil) hlv (by simp only[AH.mark_next,ag,aD,aE,av,ao,az,af,ay,ah,List.length_cons,List.length_nil];decide) ?_
 repeat first|with_reducible refine am ?_|simp only[go_sem,simprocAttr]
 refine GA.wk (Wk.nil 7 1 39 (by simp only[go_sem,simprocAttr]) (by decide) (by simp only[go_sem,simprocAttr])) ?_
 refine GA.loop (I:=λmm e H=>∃(i:Nat),mm=n-i/\i<=n/\e=aF [(6,.fs 1 n (λi _=> .fs 1 R (bC (L i)))),(7,.os 0 i),(8,.n .i64 i)]/\H=ba [aI 39 1 i 0 (gC (λi=>dD (L i) R))]) (Wk.mk [1] [] ?_ ?_ ?_) ⟨0,rfl,Nat.zero_le _,rfl,rfl⟩ ?_
 ·simp only[bj,bc,go_sem,simprocAttr]
  repeat' refine ab ?_ ?_
  all_goals first|exact bw|skip
 ·exact .cons rfl (.rows (x:=_) (by simp only[go_sem,simprocAttr];rfl) (by rfl) (by rfl) (by rfl) (by show 0*1<=0;decide) (by exact Nat.le_refl _) (by decide) (λi j hi=>absurd (show i<0 from hi) (Nat.not_lt_zero _)) (λi j hi=>absurd (show i<0 from hi) (Nat.not_lt_zero _))) .nil
 ·simp
 rintro mm e H ⟨i,rfl,hi,rfl,rfl⟩
 repeat first|with_reducible refine am ?_|simp only[go_sem,simprocAttr]
 refine⟨λh=>?_,λh=>?_⟩
 ·have hil:i<n:=by omega
  have hi0:(0:Int)<=(i:Int):=by omega
  have ha:=hadd i (by omega)
  have hl1:i+1<1099511627776:=by omega
  have hl2:(i+1)*24<=140737488355328:=by omega
  have hl3:i<=9223372036854775806:=by omega
  have hmb:=gZ (rE (L i) R (by omega)) (by rfl)
  simp only[List.map_cons,List.map_nil,RT.fz] at hmb
  repeat first|with_reducible refine am ?_|simp only[hi0,h,decide_true,go_sem,simprocAttr]
  refine aw [] (.cons (.rfl (by rfl)) .nil) hmb (by simp only[AH.mark_next,ag,aD,aE,av,ao,az,af,ay,ah,List.length_cons,List.length_nil];decide) ?_
  repeat first|with_reducible refine am ?_|simp only[ha,hl1,hl2,hl3,go_sem,simprocAttr]
  refine⟨_,_,_,?_,Wk.mk [2] [] ?_ ?_ ?_,i+1,rfl,by omega,rfl,rfl⟩
  ·omega
  ·simp only[bj,bc,go_sem,simprocAttr]
   repeat' refine ab ?_ ?_
   all_goals first|exact bw|skip
  ·exact .cons rfl (.rowW (by simp only[go_sem,simprocAttr];rfl) (by rfl) (by rfl) (by rfl) (by rw[app_size];show(i+1)*1<=_;simp only[cf.len,List.length_singleton];omega) (by rw[cw];exact Nat.le_refl _) rfl (by decide) (λq j hq hj=>dR (by omega) hq hj (.rfl (by rfl)))) .nil
  ·simp
 ·have hk:i=n:=by omega
  subst hk
  repeat first|with_reducible refine am ?_|simp only[go_sem,simprocAttr]
  exact⟨[_,_],rfl,ea.o (x:=aI 39 1 i 0 (gC (λi=>dD (L i) R))) (by simp only[go_sem,simprocAttr]) rfl rfl rfl (by decide) (Nat.le_refl _) (Nat.le_refl _) (λi j hi hj=>aO i j hj) (λi j hi hj=>rfl) rfl (ea.v rfl rfl .nil)⟩
def gI(f:Nat->Bool):Nat->Nat
 |0=>0
 |r+1=>gI f r+(if f r then 1 else 0)
def sJ(f:Nat->Bool)(R:Nat):List Int:=(List.range R).map λr=>((gI f r:Nat):Int)
theorem rV{P:Nat->Prop}:∀B:Nat,¬P B->∃c,ee P c:=by
 intro B
 induction B using Nat.strongRecOn with
 |_ B ih=>
  intro hB
  by_cases h:∃c,c<B/\¬P c
  ·obtain⟨c,h1,h2⟩:=h
   exact ih c h1 h2
  ·exact⟨B,hB,λc' hc'=>Classical.byContradiction λh2=>h ⟨c',hc',h2⟩⟩
def Bo(K:Nat->Nat)(r c:Nat):Nat->Nat:=λx=>if x=r then c else K x
theorem rn.add{occ:Nat->Bool}{nb:Nat->Nat->Prop}{n:Nat}{K:Nat->Nat}(h:rn occ nb n K)(ho:occ n=true){c:Nat}(hc:ee (λc=>∃s,s<n/\occ s=true/\nb n s/\K s=c) c):rn occ nb (n+1) (Bo K n c):=by
 have hK:∀s,s<n->Bo K n c s=K s:=λs hs=>if_neg (by omega)
 refine⟨λr hr hor=>?_,λr hr hor=>?_⟩
 ·by_cases e:r=n
  ·subst e
   have:Bo K r c r=c:=if_pos rfl
   rw[this]
   refine hc.congr (λc=>⟨λ⟨s,h1,h2,h3,h4⟩=>⟨s,h1,h2,h3,by rw[hK s h1];exact h4⟩,λ⟨s,h1,h2,h3,h4⟩=>⟨s,h1,h2,h3,by rw[<-hK s h1];exact h4⟩⟩)
  ·rw[hK r (by omega)]
   refine(h.yes r (by omega) hor).congr (λc=>⟨λ⟨s,h1,h2,h3,h4⟩=>⟨s,h1,h2,h3,by rw[hK s (by omega)];exact h4⟩,λ⟨s,h1,h2,h3,h4⟩=>⟨s,h1,h2,h3,by rw[<-hK s (by omega)];exact h4⟩⟩)
 ·by_cases e:r=n
  ·subst e;rw[ho] at hor;cases hor
  ·rw[hK r (by omega)];exact h.no r (by omega) hor
theorem rn.pass{occ:Nat->Bool}{nb:Nat->Nat->Prop}{n:Nat}{K:Nat->Nat}(h:rn occ nb n K)(ho:occ n=false)(hk:K n=0):rn occ nb (n+1) K:=
 ⟨λr hr hor=>h.yes r (by
  by_cases e:r=n
  ·subst e;rw[ho] at hor;cases hor
  ·omega) hor,λr hr hor=>by
  by_cases e:r=n
  ·subst e;exact hk
  ·exact h.no r (by omega) hor⟩
theorem iL(occ:Nat->Bool)(nb:Nat->Nat->Prop):∀n,∃K:Nat->Nat,rn occ nb n K/\(∀r,n<=r->K r=0)/\∃B,∀r,K r<B
 |0=>⟨λ_=>0,⟨λr h=>by omega,λr h=>by omega⟩,λ_ _=>rfl,1,λ_=>Nat.one_pos⟩
 |n+1=>by
  obtain⟨K,h1,h2,B,h3⟩:=iL occ nb n
  cases ho:occ n with
  |false=>exact⟨K,h1.pass ho (h2 n (Nat.le_refl _)),λr hr=>h2 r (by omega),B,h3⟩
  |true=>
   obtain⟨c,hc⟩:=rV (P:=λc=>∃s,s<n/\occ s=true/\nb n s/\K s=c) B (λ⟨s,_,_,_,h⟩=>by have:=h3 s;omega)
   refine⟨Bo K n c,h1.add ho hc,λr hr=>?_,max B (c+1),λr=>?_⟩
   ·show(if r=n then c else K r)=0
    rw[if_neg (by omega)];exact h2 r (by omega)
   ·show(if r=n then c else K r)<_
    have:=h3 r
    split<;>omega
noncomputable def OG(occ:Nat->Bool)(nb:Nat->Nat->Prop)(n:Nat):Nat->Nat:=Classical.choose (iL occ nb n)
theorem yY(occ:Nat->Bool)(nb:Nat->Nat->Prop)(n:Nat):rn occ nb n (OG occ nb n):=(Classical.choose_spec (iL occ nb n)).1
def j3(K:Nat->Nat)(occ:Nat->Bool):Nat->Nat
 |0=>0
 |r+1=>if occ r=true then max (j3 K occ r) (K r+1) else j3 K occ r
theorem l7{K K':Nat->Nat}{occ:Nat->Bool}:∀{n:Nat},(∀r,r<n->K r=K' r)->j3 K occ n=j3 K' occ n
 |0,_=>rfl
 |n+1,h=>by unfold j3;rw[l7 (λr hr=>h r (by omega)),h n (by omega)]
theorem tY{K:Nat->Nat}{occ:Nat->Bool}:∀{n:Nat},(∀r,r<n->K r<=r)->j3 K occ n<=n
 |0,_=>Nat.le_refl _
 |n+1,h=>by
  have:=tY (K:=K) (occ:=occ) (n:=n) (λr hr=>h r (by omega))
  have:=h n (by omega)
  unfold j3;split<;>omega
def kL(K:Nat->Nat)(R:Nat):List Int:=(List.range R).map λr=>((K r:Nat):Int)
theorem oH(K:Nat->Nat)(R r:Nat)(h:r<R):(kL K R).getD r 0=((K r:Nat):Int):=by
 unfold kL
 rw[List.getD_eq_getElem?_getD,List.getElem?_map,List.getElem?_range h]
 rfl
def ib(nm:List Int)(kept first:Int)(cs:List In):List In:=(cs.map λx=>rD kept first (eY nm x)).flatten
theorem w5(nm:List Int)(kept first:Int)(cs:List In):(ib nm kept first cs).length<=4*cs.length:=by
 unfold ib
 induction cs with
 |nil=>simp
 |cons x cs ih=>
  have:=n8 kept first (eY nm x)
  simp only[List.map_cons,List.flatten_cons,List.length_append,List.length_cons]
  omega
section
variable (la:List (Bool×Int)) (regs par:Int) (cs:List In) (x:AV) (hla:la.length<1000000) (hcs:cs.length<=16384) (r n:Nat) (hr:4<=r/\r<=1024) (nm:List Int) (hnm:∀x ∈ cs,x.2.1<(nm.length:Int)/\x.2.2.1<(nm.length:Int)/\x.2.2.2.1<(nm.length:Int))
 (hc:bS Try.prog 39 [aB la.length (aC la) regs par cs] [.v x,.v (.n .i64 0)])
 (hcol:bS Try.prog 47 [aB la.length (aC la) regs par cs] [.v (.fs 1 nm.length (iC .i64 nm)),.v (.n .i64 n)])
include hla hcs hr hc hcol hnm
end
end Go.Proofs.Yteopfmnnhlhbmaa