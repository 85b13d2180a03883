/- A part of the proof of AllocateSpills: AlE AlF AlG AlH AzA EqA AzB LcA. No condition. -/
import Derived.Test.YteopfmnnhlhbmaaHp17
import Derived.Test.YteopfmnnhlhbmaaHp36
import Derived.Test.YteopfmnnhlhbmaaHp46
import Derived.Test.YteopfmnnhlhbmaaHp33
import Derived.Test.YteopfmnnhlhbmaaHp13
import Derived.Test.YteopfmnnhlhbmaaHp16
set_option linter.unusedSimpArgs false
set_option linter.unusedVariables false
set_option linter.constructorNameAsVariable false
set_option maxRecDepth 100000
set_option maxHeartbeats 4000000
namespace Go.Proofs.Yteopfmnnhlhbmaa
open Go.RowKit
theorem dF{cd:List RI}{pr:List Int}:∀(t:T) (w:Bool) (d k:Nat) (e:Int),t.wf w d->fZ cd k t.flat->wx pr k (t.rq k e)->(w=true->0<=e)->∀q,k<=q->q<k+t.size->dN (aA cd q)->
  0<=pr.getD q 0/\(aA cd q=27->∃p:Nat,pr.getD q 0=(p:Int)/\(aA cd p=31->pr.getD p 0=(q:Int)))
 |.nil,w,d,k,e,hw,hc,hp,he,q,h1,h2,hb=>by simp only[T.size] at h2;omega
 |.plain i r,w,d,k,e,hw,hc,hp,he,q,h1,h2,hb=>by
  obtain⟨⟨g1,g2,g3,g4⟩,g5,g6⟩:=hw
  simp only[T.size] at h2
  have hi:aA cd k=i.op:=by show(cd.getD k default).op=_;rw[hc.head]
  by_cases eq:q=k
  ·subst eq
   rw[hp.head]
   rw[hi] at hb ⊢
   have h30:i.op=30:=by unfold dN at hb;omega
   rw[if_pos h30]
   exact⟨he (g5 h30),λh=>by omega⟩
  ·exact dF r w d (k+1) e g6 hc.tail hp.tail he q (by omega) (by omega) hb
 |.ite i a j r,w,d,k,e,hw,hc,hp,he,q,h1,h2,hb=>by
  obtain⟨g1,g2,g3,g4,g5⟩:=hw
  simp only[T.size] at h2
  have hi:aA cd k=i.op:=by show(cd.getD k default).op=_;rw[hc.head]
  have hal:a.flat.length=a.size:=a.flat_length
  have hql:(a.rq (k+1) e).length=a.size:=a.rq_length _ _
  have hcr:=hc.tail.right
  have hpr:=hp.tail.right
  rw[hal] at hcr
  rw[hql] at hpr
  have hj:aA cd (k+1+a.size)=j.op:=by show(cd.getD (k+1+a.size) default).op=_;rw[hcr.head]
  have hpk:=hp.head
  have hpj:=hpr.head
  by_cases e1:q=k
  ·subst e1
   rw[hpk]
   refine⟨by omega,λ_=>⟨q+a.size+1,rfl,λ_=>?_⟩⟩
   rw[show q+a.size+1=q+1+a.size by omega,hpj]
  by_cases e2:q<k+1+a.size
  ·exact dF a w _ (k+1) e g4 hc.tail.left hp.tail.left he q (by omega) (by omega) hb
  by_cases e3:q=k+1+a.size
  ·subst e3
   rw[hpj,hj,g2]
   exact⟨by omega,λh=>by omega⟩
  ·have:=hpr.tail
   rw[show k+1+a.size+1=k+a.size+2 by omega] at this
   have hc2:=hcr.tail
   rw[show k+1+a.size+1=k+a.size+2 by omega] at hc2
   exact dF r w d (k+a.size+2) e g5 hc2 this he q (by omega) (by omega) hb
 |.ite2 i a x b j r,w,d,k,e,hw,hc,hp,he,q,h1,h2,hb=>by
  obtain⟨g1,g2,g3,g4,g5,g6,g7⟩:=hw
  simp only[T.size] at h2
  have hal:a.flat.length=a.size:=a.flat_length
  have hbl:b.flat.length=b.size:=b.flat_length
  have hql:(a.rq (k+1) e).length=a.size:=a.rq_length _ _
  have hqb:(b.rq (k+a.size+2) e).length=b.size:=b.rq_length _ _
  have hcr:=hc.tail.right
  have hpr:=hp.tail.right
  rw[hal] at hcr
  rw[hql] at hpr
  have hx:aA cd (k+1+a.size)=x.op:=by show(cd.getD (k+1+a.size) default).op=_;rw[hcr.head]
  have hpk:=hp.head
  have hpx:=hpr.head
  have hcr2:=hcr.tail
  have hpr2:=hpr.tail
  rw[show k+1+a.size+1=k+a.size+2 by omega] at hcr2 hpr2
  have hcr3:=hcr2.right
  have hpr3:=hpr2.right
  rw[hbl] at hcr3
  rw[hqb] at hpr3
  have hj:aA cd (k+a.size+2+b.size)=j.op:=by show(cd.getD (k+a.size+2+b.size) default).op=_;rw[hcr3.head]
  have hpj:=hpr3.head
  by_cases e1:q=k
  ·subst e1
   rw[hpk]
   refine⟨by omega,λ_=>⟨q+a.size+1,rfl,λh=>?_⟩⟩
   rw[show q+a.size+1=q+1+a.size by omega,hx,g2] at h
   omega
  by_cases e2:q<k+1+a.size
  ·exact dF a w _ (k+1) e g5 hc.tail.left hp.tail.left he q (by omega) (by omega) hb
  by_cases e3:q=k+1+a.size
  ·subst e3
   rw[hpx,hx,g2]
   exact⟨by omega,λh=>by omega⟩
  by_cases e4:q<k+a.size+2+b.size
  ·exact dF b w _ (k+a.size+2) e g6 hcr2.left hpr2.left he q (by omega) (by omega) hb
  by_cases e5:q=k+a.size+2+b.size
  ·subst e5
   rw[hpj,hj,g3]
   exact⟨by omega,λh=>by omega⟩
  ·have h3:=hpr3.tail
   rw[show k+a.size+2+b.size+1=k+a.size+b.size+3 by omega] at h3
   have h4:=hcr3.tail
   rw[show k+a.size+2+b.size+1=k+a.size+b.size+3 by omega] at h4
   exact dF r w d (k+a.size+b.size+3) e g7 h4 h3 he q (by omega) (by omega) hb
 |.loop i a j r,w,d,k,e,hw,hc,hp,he,q,h1,h2,hb=>by
  obtain⟨g1,g2,g3,g4,g5⟩:=hw
  simp only[T.size] at h2
  have hi:aA cd k=i.op:=by show(cd.getD k default).op=_;rw[hc.head]
  have hal:a.flat.length=a.size:=a.flat_length
  have hql:(a.rq (k+1) ((k+a.size+1:Nat):Int)).length=a.size:=a.rq_length _ _
  have hcr:=hc.tail.right
  have hpr:=hp.tail.right
  rw[hal] at hcr
  rw[hql] at hpr
  have hj:aA cd (k+1+a.size)=j.op:=by show(cd.getD (k+1+a.size) default).op=_;rw[hcr.head]
  have hpk:=hp.head
  have hpj:=hpr.head
  by_cases e1:q=k
  ·subst e1
   rw[hpk,hi,g1]
   exact⟨by omega,λh=>by omega⟩
  by_cases e2:q<k+1+a.size
  ·exact dF a true _ (k+1) _ g4 hc.tail.left hp.tail.left (λ_=>by omega) q (by omega) (by omega) hb
  by_cases e3:q=k+1+a.size
  ·subst e3
   rw[hpj,hj,g2]
   exact⟨by omega,λh=>by omega⟩
  ·have h3:=hpr.tail
   rw[show k+1+a.size+1=k+a.size+2 by omega] at h3
   have h4:=hcr.tail
   rw[show k+1+a.size+1=k+a.size+2 by omega] at h4
   exact dF r w d (k+a.size+2) e g5 h4 h3 he q (by omega) (by omega) hb
def dm(cs:List In)(i:Nat):Nat:=((rN cs).getD i 0).toNat
structure RU(cs:List In):Prop where
 len:(rN cs).length=cs.length
 at_:∀i,i<cs.length->dN (bS cs i)->(rN cs).getD i 0=(dm cs i:Int)/\dm cs i<cs.length
 back:∀i,i<cs.length->bS cs i=27->bS cs (dm cs i)=31->dm cs (dm cs i)=i
theorem J6.pok{la:List (Bool×Int)}{regs par:Int}{cs:List In}(h:J6 la regs par cs):RU cs:=by
 obtain⟨_,hl,_,t,ht,hw,he⟩:=h.pt
 have hs:cs.length=t.size:=by rw[<-t.flat_length,<-ht,List.length_map]
 have hfact:=dF (cd:=cs.map bw) (pr:=rN cs) t false 8 0 0 hw (by rw[ht];exact λj hj=>by simp) (by rw[he];exact λj hj=>by simp) (λh=>by cases h)
 have hrng:=fN (n:=(cs.length:Int)) t 0 0
 have hat:∀i,i<cs.length->dN (bS cs i)->(rN cs).getD i 0=(dm cs i:Int)/\dm cs i<cs.length:=λi hi hb=>by
  have h1:=(hfact i (Nat.zero_le _) (by omega) (by rw[dY];exact hb)).1
  have hm:(rN cs).getD i 0 ∈ t.rq 0 0:=by rw[<-he,List.getD_eq_getElem?_getD,List.getElem?_eq_getElem (by omega)];exact List.getElem_mem _
  have h2:=hrng ⟨by omega,by omega⟩ (by omega) _ hm
  unfold dm
  omega
 refine⟨hl,hat,λi hi h27 h31=>?_⟩
 obtain⟨p,h1,h2⟩:=(hfact i (Nat.zero_le _) (by omega) (by rw[dY];exact .inl h27)).2 (by rw[dY];exact h27)
 obtain⟨h3,h4⟩:=hat i hi (.inl h27)
 have hpp:dm cs i=p:=by omega
 rw[hpp] at h31 ⊢
 have:=h2 (by rw[dY];exact h31)
 unfold dm
 omega
theorem rZ{op a b:Int}(h:op=28\/op=31):aF op a b=[]:=by
 rcases h with rfl|rfl<;>rfl
theorem gn{op to:Int}(h:dN op):a6 op to= -1:=by
 unfold dN at h
 rcases h with rfl|rfl|rfl|rfl|rfl<;>rfl
theorem lJ{op a b r:Int}:r ∈ aF op a b↔(J9 op=true/\r=a)\/(J8 op=true/\r=b):=by
 have e:aF op a b=(if J9 op then[a] else[])++(if J8 op then[b] else[]):=rfl
 rw[e,List.mem_append]
 cases J9 op<;>cases J8 op<;>simp
theorem gX{x:In}{r:Int}:r ∈ bM x↔(J9 x.1=true/\r=x.2.2.1)\/(J8 x.1=true/\r=x.2.2.2.1)\/r=a6 x.1 x.2.1:=by
 unfold bM
 rw[List.mem_append,lJ,List.mem_singleton,or_assoc]
theorem wK.reads{regs par nA:Int}{x:In}(h:wK regs par nA x):∀r ∈ aF x.1 x.2.2.1 x.2.2.2.1,0<=r/\r<regs:=by
 intro r hr
 rcases lJ.1 hr with⟨h1,rfl⟩|⟨h1,rfl⟩
 ·have:=h.a;rwa [if_pos h1] at this
 ·have:=h.b;rwa [if_pos h1] at this
theorem wK.writes{regs par nA:Int}{x:In}(h:wK regs par nA x)(h0:0<=regs):a6 x.1 x.2.1<regs/\ -1<=a6 x.1 x.2.1:=by
 have:=h.to
 unfold a6
 split
 ·rename_i hu;rw[if_pos hu] at this;omega
 ·omega
theorem wK.uses{regs par nA:Int}{x:In}(h:wK regs par nA x)(h0:0<=regs):∀r ∈ bM x,r<regs:=by
 intro r hr
 rcases gX.1 hr with⟨h1,rfl⟩|⟨h1,rfl⟩|rfl
 ·have:=h.a;rw[if_pos h1] at this;omega
 ·have:=h.b;rw[if_pos h1] at this;omega
 ·exact(h.writes h0).1
theorem wK.regs3{regs par nA:Int}{x:In}(h:wK regs par nA x):(x.2.1= -1\/(0<=x.2.1/\x.2.1<regs/\x.2.1 ∈ bM x))/\(x.2.2.1= -1\/(0<=x.2.2.1/\x.2.2.1<regs/\x.2.2.1 ∈ bM x))/\(x.2.2.2.1= -1\/(0<=x.2.2.2.1/\x.2.2.2.1<regs/\x.2.2.2.1 ∈ bM x)):=by
 refine⟨?_,?_,?_⟩
 ·have:=h.to
  split at this
  ·rename_i hu
   refine .inr ⟨this.1,this.2,gX.2 (.inr (.inr ?_))⟩
   unfold a6;rw[if_pos hu]
  ·exact .inl this
 ·have:=h.a
  split at this
  ·rename_i hu;exact .inr ⟨this.1,this.2,gX.2 (.inl ⟨hu,rfl⟩)⟩
  ·exact .inl this
 ·have:=h.b
  split at this
  ·rename_i hu;exact .inr ⟨this.1,this.2,gX.2 (.inr (.inl ⟨hu,rfl⟩))⟩
  ·exact .inl this
/-! ### the same live registers-/
section
variable {cs:List In}
theorem jo{pt:Nat->Nat}{i:Nat}(h:¬bS cs i=27){k:Nat}:k ∈ nxt cs pt i↔k ∈ bO cs pt i:=by
 unfold nxt bO
 generalize bS cs i=op at*
 by_cases h1:op=29
 ·subst h1;simp
 by_cases h2:op=30
 ·subst h2;simp
 by_cases h3:op=28
 ·subst h3;simp
 by_cases h4:op=31
 ·subst h4
  simp only[show ¬(31:Int)=27 by decide,show ¬(31:Int)=29 by decide,show ¬(31:Int)=30 by decide,show ¬(31:Int)=28 by decide,or_self,if_false,if_true]
  split
  ·simp only[List.mem_cons,List.not_mem_nil,or_false]
   exact or_comm
  ·exact Iff.rfl
 ·simp[h,h1,h2,h3,h4]
theorem si{pt:Nat->Nat}{i:Nat}(h:bS cs i=27):nxt cs pt i=[i+1,if bS cs (pt i)=31 then pt i else pt i+1]/\bO cs pt i=[i+1,pt i+1]:=by
 unfold nxt bO
 constructor
 ·rw[if_pos h]
 ·simp[h]
theorem qG(hp:RU cs){i:Nat}(hi:i<cs.length)(h27:bS cs i=27)(h31:bS cs (dm cs i)=31){r:Int}(hr:0<=r){nx:Nat->List Nat}(hnx:∀j,bS cs j=31->¬bS cs (dm cs j)=29->nx j=[j+1]):
  bn cs nx (dm cs i) r↔bn cs nx (dm cs i+1) r:=by
 have hb:=hp.back i hi h27 h31
 have hl:=(hp.at_ i hi (.inl h27)).2
 have hn:nx (dm cs i)=[dm cs i+1]:=hnx _ h31 (by rw[hb,h27];decide)
 have hrd:aF (cs.getD (dm cs i) (0,0,0,0,0)).1 (cs.getD (dm cs i) (0,0,0,0,0)).2.2.1 (cs.getD (dm cs i) (0,0,0,0,0)).2.2.2.1=[]:=rZ (.inr h31)
 have hwr:a6 (cs.getD (dm cs i) (0,0,0,0,0)).1 (cs.getD (dm cs i) (0,0,0,0,0)).2.1= -1:=gn (.inr (.inr (.inr (.inr h31))))
 constructor
 ·intro h
  generalize hj:dm cs i=j at*
  cases h with
  |read _ h2=>rw[hrd] at h2;cases h2
  |@flow _ k _ _ hk h _=>
   rw[hn] at hk
   simp at hk
   subst hk
   exact h
 ·intro h
  exact .flow hl (by rw[hn];simp) h (by rw[hwr];omega)
theorem Jk(pt:Nat->Nat)(j:Nat)(h:bS cs j=31)(h2:¬bS cs (pt j)=29):nxt cs pt j=[j+1]:=by
 unfold nxt
 simp[h,h2]
theorem Bq(pt:Nat->Nat)(j:Nat)(h:bS cs j=31)(h2:¬bS cs (pt j)=29):bO cs pt j=[j+1]:=by
 unfold bO
 simp[h,h2]
theorem cR(hp:RU cs){R:Nat}(hR:∀x ∈ cs,∀r ∈ aF x.1 x.2.2.1 x.2.2.2.1,0<=r/\r<(R:Int)){i:Nat}{r:Int}:bn cs (nxt cs (dm cs)) i r↔bn cs (bO cs (dm cs)) i r:=by
 constructor
 ·intro h
  induction h with
  |read hi h=>exact .read hi h
  |@flow i k r hi hk h hw ih=>
   by_cases h27:bS cs i=27
   ·obtain⟨e1,e2⟩:=si (pt:=dm cs) h27
    rw[e1] at hk
    by_cases h31:bS cs (dm cs i)=31
    ·rw[if_pos h31] at hk
     simp only[List.mem_cons,List.not_mem_nil,or_false] at hk
     rcases hk with rfl|rfl
     ·exact .flow hi (by rw[e2];simp) ih hw
     ·exact .flow hi (by rw[e2];simp) ((qG hp hi h27 h31 (ih.range hR).1 (λj=>Bq _ j)).1 ih) hw
    ·rw[if_neg h31] at hk
     exact .flow hi (by rw[e2];exact hk) ih hw
   ·exact .flow hi ((jo h27).1 hk) ih hw
 ·intro h
  induction h with
  |read hi h=>exact .read hi h
  |@flow i k r hi hk h hw ih=>
   by_cases h27:bS cs i=27
   ·obtain⟨e1,e2⟩:=si (pt:=dm cs) h27
    rw[e2] at hk
    simp only[List.mem_cons,List.not_mem_nil,or_false] at hk
    rcases hk with rfl|rfl
    ·exact .flow hi (by rw[e1];simp) ih hw
    ·by_cases h31:bS cs (dm cs i)=31
     ·exact .flow hi (by rw[e1,if_pos h31];simp) ((qG hp hi h27 h31 (ih.range hR).1 (λj=>Jk _ j)).2 ih) hw
     ·exact .flow hi (by rw[e1,if_neg h31];simp) ih hw
   ·exact .flow hi ((jo h27).2 hk) ih hw
theorem sF(hp:RU cs){R:Nat}(hR:∀x ∈ cs,∀r ∈ aF x.1 x.2.2.1 x.2.2.2.1,0<=r/\r<(R:Int)):di cs (nxt cs (dm cs)) R=di cs (bO cs (dm cs)) R:=by
 funext i
 unfold di
 congr 1
 funext r
 exact decide_eq_decide.2 (cR hp hR)
theorem vN(hp:RU cs){R:Nat}(hR:∀x ∈ cs,∀r ∈ aF x.1 x.2.2.1 x.2.2.2.1,0<=r/\r<(R:Int)){p q:Int}:fj cs (nxt cs (dm cs)) p q↔fj cs (bO cs (dm cs)) p q:=by
 have hs:∀i k,0<=jP cs i->(k ∈ nxt cs (dm cs) i↔k ∈ bO cs (dm cs) i):=λi k hw=>jo (λh27=>by
  have:jP cs i= -1:=gn (.inl h27)
  omega)
 unfold fj
 constructor
 ·rintro (⟨h1,h2,h3⟩|⟨i,k,h1,h2,h3,h4⟩)
  ·exact .inl ⟨h1,(cR hp hR).1 h2,(cR hp hR).1 h3⟩
  ·refine .inr ⟨i,k,h1,(hs i k h3).1 h2,h3,?_⟩
   rcases h4 with⟨a,b,c⟩|⟨a,b,c⟩
   ·exact .inl ⟨a,b,(cR hp hR).1 c⟩
   ·exact .inr ⟨a,b,(cR hp hR).1 c⟩
 ·rintro (⟨h1,h2,h3⟩|⟨i,k,h1,h2,h3,h4⟩)
  ·exact .inl ⟨h1,(cR hp hR).2 h2,(cR hp hR).2 h3⟩
  ·refine .inr ⟨i,k,h1,(hs i k h3).2 h2,h3,?_⟩
   rcases h4 with⟨a,b,c⟩|⟨a,b,c⟩
   ·exact .inl ⟨a,b,(cR hp hR).2 c⟩
   ·exact .inr ⟨a,b,(cR hp hR).2 c⟩
theorem fj.range{nx:Nat->List Nat}{R:Nat}(hR:∀x ∈ cs,∀r ∈ aF x.1 x.2.2.1 x.2.2.2.1,0<=r/\r<(R:Int))(hW:∀x ∈ cs,a6 x.1 x.2.1<(R:Int)){p q:Int}(h:fj cs nx p q):(0<=p/\p<(R:Int))/\(0<=q/\q<(R:Int)):=by
 have hw:∀i,i<cs.length->jP cs i<(R:Int):=λi hi=>hW _ (by rw[List.getD_eq_getElem?_getD,List.getElem?_eq_getElem hi];exact List.getElem_mem hi)
 rcases h with⟨_,h2,h3⟩|⟨i,k,h1,h2,h3,⟨h4,h5,h6⟩|⟨h4,h5,h6⟩⟩
 ·exact⟨h2.range hR,h3.range hR⟩
 ·have:=hw i h1;exact⟨by omega,h6.range hR⟩
 ·have:=hw i h1;exact⟨h6.range hR,by omega⟩
/-! ### the same names-/
theorem j3(R:Nat):bL cs (R+1)=if cP cs (R:Int)=true then bL cs R++[R] else bL cs R:=by
 unfold bL
 rw[List.range_succ,List.filter_append]
 cases h:cP cs (R:Int)<;>simp[h]
theorem rn:∀R,wh (λr=>cP cs (r:Int)) R=(bL cs R).length
 |0=>rfl
 |R+1=>by
  rw[j3]
  unfold wh
  rw[rn R]
  split
  ·rw[List.length_append,List.length_singleton]
  ·rfl
theorem tY{l l2:List Nat}:∀{k:Nat},k<=l.length->mO (l++l2) k=mO l k
 |0,_=>rfl
 |k+1,h=>by
  unfold mO
  rw[tY (by omega),List.getD_eq_getElem?_getD,List.getElem?_append_left (by omega),<-List.getD_eq_getElem?_getD]
theorem tX:∀(R v:Nat),v<R->cP cs (v:Int)=true->mO (bL cs R) (bL cs R).length (v:Int)=some ((wh (λr=>cP cs (r:Int)) v:Nat):Int)
 |0,v,h,_=>by omega
 |R+1,v,h,ho=>by
  rw[j3]
  by_cases e:v=R
  ·subst e
   rw[if_pos ho,List.length_append,List.length_singleton]
   unfold mO
   rw[if_pos (by rw[List.getD_eq_getElem?_getD,List.getElem?_append_right (Nat.le_refl _),Nat.sub_self];rfl),rn]
  ·have ih:=tX R v (by omega) ho
   split
   ·rw[List.length_append,List.length_singleton]
    unfold mO
    rw[if_neg (by rw[List.getD_eq_getElem?_getD,List.getElem?_append_right (Nat.le_refl _),Nat.sub_self];simp;omega),tY (Nat.le_refl _),ih]
   ·exact ih
theorem Bv{l:List Nat}{k:Nat}{v:Int}(hv:v<0):mO l k v=none:=by
 cases hx:mO l k v with
 |none=>rfl
 |some y=>obtain⟨i,h1,h2,_⟩:=lO hx;omega
theorem zv(f:Nat->Bool)(R r:Nat)(h:r<R):(Cj f R).getD r 0=((wh f r:Nat):Int):=by
 unfold Cj
 rw[List.getD_eq_getElem?_getD,List.getElem?_map,List.getElem?_range h]
 rfl
theorem lS{nm:Int->Option Int}{nl:List Int}{x:In}{regs par nA:Int}(h:wK regs par nA x)(hneg:nm (-1)=none)(hyes:∀v:Int,0<=v->v<regs->v ∈ bM x->nm v=some (nl.getD v.toNat 0)):eR nm x=dl nl x:=by
 obtain⟨h1,h2,h3⟩:=h.regs3
 have key:∀v:Int,(v= -1\/(0<=v/\v<regs/\v ∈ bM x))->fO nm v=cY nl v:=λv hv=>by
  unfold fO cY
  rcases hv with rfl|⟨g1,g2,g3⟩
  ·rw[hneg,if_pos (by decide)];rfl
  ·rw[hyes v g1 g2 g3,if_neg (by omega)];rfl
 unfold eR dl
 rw[key _ h1,key _ h2,key _ h3]
theorem tT{x:In}(hx:x ∈ cs){r:Int}(h:r ∈ bM x):cP cs r=true:=by
 unfold cP
 rw[List.any_eq_true]
 exact⟨x,hx,List.contains_iff_mem.2 h⟩
theorem pE{regs:Nat}{par nA:Int}(hin:∀x ∈ cs,wK regs par nA x):cs.map (eR (mO (bL cs regs) (bL cs regs).length))=cs.map (dl (Cj (λr=>cP cs (r:Int)) regs)):=by
 refine List.map_congr_left (λx hx=>lS (hin x hx) (Bv (by decide)) (λv h0 h1 hv=>?_))
 obtain⟨n,rfl⟩:∃n:Nat,v=n:=⟨v.toNat,by omega⟩
 rw[tX regs n (by omega) (tT hx hv),Int.toNat_natCast,zv _ _ _ (by omega)]
end
end Go.Proofs.Yteopfmnnhlhbmaa
namespace Go.Proofs.Yteopfmnnhlhbmaa
open Go.RowKit
theorem nR{P:Program}{f:FuncId}{args:List AV}{Pr:(Nat->Option OB)->Prop}{Post Post':(Nat->Option OB)->List RT->(Nat->Option OB)->Prop}(h:ir P f args Pr Post)(hp:∀M rs N,Post M rs N->Post' M rs N):ir P f args Pr Post':=λM hM=>
 ⟨(h M hM).1,λφ w args' a b c=>((h M hM).2 φ w args' a b c).mono λe w' hq=>by
  cases e with
  |panicked c=>exact hq.elim
  |outgrown=>exact hq.elim
  |returned u=>
   obtain⟨v,Hc,σ',⟨rs,N,l,q1,q2⟩,q3⟩:=hq
   exact⟨v,Hc,σ',⟨rs,N,l,hp _ _ _ q1,q2⟩,q3⟩⟩
theorem nY{K:Nat->Nat}{l l2:List Nat}:∀{k:Nat},k<=l.length->cK K (l++l2) k=cK K l k
 |0,_=>rfl
 |k+1,h=>by
  unfold cK
  rw[nY (by omega),List.getD_eq_getElem?_getD,List.getElem?_append_left (by omega),<-List.getD_eq_getElem?_getD]
theorem nX{cs:List In}{K:Nat->Nat}:∀R,cK K (bL cs R) (bL cs R).length=eh K (λr=>cP cs (r:Int)) R
 |0=>rfl
 |R+1=>by
  rw[j3]
  unfold eh
  have ih:=nX (cs:=cs) (K:=K) R
  split
  ·rw[List.length_append,List.length_singleton]
   unfold cK
   rw[nY (Nat.le_refl _),ih,List.getD_eq_getElem?_getD,List.getElem?_append_right (Nat.le_refl _),Nat.sub_self]
   rfl
  ·exact ih
theorem iy{cs:List In}{R i:Nat}(h:i<(bL cs R).length):(bL cs R).getD i 0<R/\cP cs (((bL cs R).getD i 0:Nat):Int)=true:=by
 rw[<-gz,List.getD_eq_getElem?_getD,List.getElem?_eq_getElem h]
 exact List.getElem_mem h
theorem vr{cs:List In}{R:Nat}{T:Int->List Int}{nb:Nat->Nat->Prop}(hT:∀a b,a<R->b<R->(((b:Nat):Int) ∈ T (a:Int)↔nb a b)){K K0:Nat->Nat}(h:Az T (bL cs R) K (bL cs R).length)(h0:rL (λr=>cP cs (r:Int)) nb R K0):
  ∀i,i<(bL cs R).length->K ((bL cs R).getD i 0)=K0 ((bL cs R).getD i 0):=by
 intro i
 induction i using Nat.strongRecOn with
 |_ i ih=>
  intro hi
  obtain⟨m1,m2⟩:=iy hi
  refine(h i hi).uniq ((h0.yes _ m1 m2).congr (λc=>?_))
  constructor
  ·rintro ⟨s,h1,h2,h3,h4⟩
   have hm:s ∈ bL cs R:=gz.2 ⟨by omega,h2⟩
   obtain⟨j,hj,e⟩:=List.getElem_of_mem hm
   have e2:(bL cs R).getD j 0=s:=by rw[List.getD_eq_getElem?_getD,List.getElem?_eq_getElem hj,e];rfl
   have hji:j<i:=by
    rcases Nat.lt_trichotomy j i with g|g|g
    ·exact g
    ·subst g;omega
    ·have:=pc (cL cs R) g hj;omega
   exact⟨j,hji,by rw[e2];exact(hT _ _ m1 (by omega)).2 h3,by rw[ih j hji hj,e2];exact h4⟩
  ·rintro ⟨j,h1,h2,h3⟩
   have hj:j<(bL cs R).length:=by omega
   obtain⟨n1,n2⟩:=iy hj
   exact⟨_,pc (cL cs R) h1 hi,n2,(hT _ _ m1 n1).1 h2,by rw[<-ih j h1 hj];exact h3⟩
noncomputable def BA(cs:List In)(nx:Nat->List Nat)(R:Nat)(p:Int):List Int:=((List.range R).filter λq:Nat=> @decide (fj cs nx p (q:Int)) (Classical.propDecidable _)).map λq:Nat=>(q:Int)
theorem t7{cs:List In}{nx:Nat->List Nat}{R:Nat}{p q:Int}:q ∈ BA cs nx R p↔(0<=q/\q<(R:Int))/\fj cs nx p q:=by
 unfold BA
 simp only[List.mem_map,List.mem_filter,List.mem_range]
 constructor
 ·rintro ⟨n,⟨h1,h2⟩,rfl⟩
  rw[@decide_eq_true_iff _ (Classical.propDecidable _)] at h2
  exact⟨by omega,h2⟩
 ·rintro ⟨h1,h2⟩
  obtain⟨n,rfl⟩:∃n:Nat,q=n:=⟨q.toNat,by omega⟩
  exact⟨n,⟨by omega,by rw[@decide_eq_true_iff _ (Classical.propDecidable _)];exact h2⟩,rfl⟩
theorem vm(cs:List In)(nx:Nat->List Nat)(R:Nat)(p:Int):(BA cs nx R p).Nodup:=by
 unfold BA
 exact List.Pairwise.map _ (λa b h e=>h (by omega)) (List.Pairwise.filter _ List.nodup_range)
theorem Bz(cs:List In)(nx:Nat->List Nat)(R:Nat)(p:Int):(BA cs nx R p).length<=R:=by
 unfold BA
 rw[List.length_map]
 have:=List.length_filter_le (λq:Nat=> @decide (fj cs nx p (q:Int)) (Classical.propDecidable _)) (List.range R)
 rw[List.length_range] at this
 exact this
section
variable {la:List (Bool×Int)} {R:Nat} {par:Int} {cs:List In} (hz:(gk la R par cs).2=0) (ha:oa cs)
include hz
theorem C5:∀x ∈ cs,wK R par la.length x:=λx hx=>JG ((bZ hz).ins x hx)
theorem aR:R<=1024:=by have:=(bZ hz).nregs;omega
theorem RP:0<=par/\par<=1024:=by
 have h:=hz
 unfold gk bu at h
 split at h
 ·simp at h
 split at h
 ·simp at h
 split at h
 ·simp at h
 rename_i hr
 omega
theorem wv:∀x ∈ cs,0<=x.1/\x.1<39:=λx hx=>(C5 hz x hx).op
theorem gW:∀x ∈ cs,∀r ∈ aF x.1 x.2.2.1 x.2.2.2.1,0<=r/\r<(R:Int):=λx hx=>(C5 hz x hx).reads
theorem pO:∀x ∈ cs,a6 x.1 x.2.1<(R:Int):=λx hx=>((C5 hz x hx).writes (by omega)).1
theorem RN:∀x ∈ cs,∀r ∈ bM x,r<(R:Int):=λx hx=>(C5 hz x hx).uses (by omega)
theorem Av:bA Try.prog 66 [.fs 5 cs.length (cC cs)] [.v (.fs 1 cs.length (gC (nxt cs (dm cs))))]:=by
 have h:=bZ hz
 obtain⟨_,hl,_,t,ht,hw,he⟩:=h.pt
 have hs:cs.length=t.size:=by rw[<-t.flat_length,<-ht,List.length_map]
 refine vR cs h.ncs (cH (cs.map bw) (cs.map bw).length 0 ⟨[],[],λ_=>[],λ_=>none⟩).pm (dm cs) (λi hi hb=>?_) (tg cs h.ncs h.nest)
 obtain⟨g1,g2⟩:=h.pok.at_ i hi hb
 refine⟨?_,g2⟩
 rw[ht,wm t hw,if_pos ⟨by omega,by omega,by rw[Int.toNat_natCast,<-ht,dY];exact hb⟩,Int.toNat_natCast,<-he,g1]
theorem aNx:∀i,i<cs.length->∀k ∈ nxt cs (dm cs) i,k<=cs.length:=λi hi k hk=>by
 have hp:=(bZ hz).pok
 by_cases h27:bS cs i=27
 ·rw[(si h27).1] at hk
  have:=(hp.at_ i hi (.inl h27)).2
  simp only[List.mem_cons,List.not_mem_nil,or_false] at hk
  rcases hk with rfl|rfl
  ·omega
  ·split<;>omega
 ·exact tU hi (λhb=>(hp.at_ i hi hb).2) k ((jo h27).1 hk)
omit hz in
theorem RR:∀i,(nxt cs (dm cs) i).length<=2:=λi=>by unfold nxt;(repeat' split)<;>simp
omit hz in
theorem aW1:∀i k,i<cs.length->k ∈ nxt cs (dm cs) i->k=i->a6 (cs.getD i (0,0,0,0,0)).1 (cs.getD i (0,0,0,0,0)).2.1= -1:=λi k hi hk e=>by
 by_cases hb:dN (bS cs i)
 ·exact gn hb
 ·unfold dN at hb
  unfold nxt at hk
  rw[if_neg (by omega),if_neg (by omega),if_neg (by omega),if_neg (by omega)] at hk
  simp at hk
  omega
include ha
theorem Au:bA Try.prog 11 [ax la.length (aC la) R par cs] [.v (.fs 1 (cs.length+1) (gC (di cs (bO cs (dm cs)) R))),.v (.n .i64 0)]:=by
 have h:=bZ hz
 have hn:=h.ncs
 have hA:=h.nA
 have hR:=aR hz
 have:=BO la R par cs (by omega) ha hz (nxt cs (dm cs)) R (by omega) (Av hz) hn (wv hz) (aNx hz) RR (gW hz) aW1
 rw[sF h.pok (gW hz)] at this
 exact this
theorem pP:bA Try.prog 27 [ax la.length (aC la) R par cs] [.v (.n .i64 (gk la R par cs).1),.v (.n .i64 0)]:=by
 have h:=bZ hz
 have hn:=h.ncs
 have hA:=h.nA
 have:=ij la R par cs (by omega) (by omega) ha
 rw[hz] at this
 exact this
theorem lm:bA Try.prog 39 [ax la.length (aC la) R par cs] [.v (.n .i64 (qq (la.map jR) R par (cs.map bw)).1),.v (.n .i64 0)]:=by
 have h:=bZ hz
 have hn:=h.ncs
 have hA:=h.nA
 have:=iM la R par cs (by omega) (by omega) ha
 rw[hz] at this
 exact this
omit ha in
theorem C4:bA Try.prog 23 [.fs 5 cs.length (cC cs)] [.v (.fs 1 (rN cs).length (iC .i64 (rN cs))),.v (.n .i64 0),.v (.n .i64 0)]:=by
 have h:=bZ hz
 obtain⟨_,hl,_,t,ht,hw,he⟩:=h.pt
 rw[he]
 exact uR cs t ht hw h.ncs
omit ha in
theorem J3:bA Try.prog 40 [ax la.length (aC la) R par cs] [.v (.fs 1 (cs.length+1) (λi _=> .fs 1 R (bC (ib cs (bO cs (dm cs)) i))))]:=by
 have h:=bZ hz
 have hR:=aR hz
 exact nw la par cs R (by omega) h.ncs (rN cs) h.pok.len (dm cs) _ _ rfl rfl (C4 hz) h.pok.at_ (wv hz) (gW hz)
theorem Ap:bA Try.prog 12 [ax la.length (aC la) R par cs] [.v (.fs 1 (cs.length+1) (gC (di cs (bO cs (dm cs)) R))),.v (.n .i64 0)]:=by
 have h:=bZ hz
 have hn:=h.ncs
 have hR:=aR hz
 exact xM la.length (aC la) R par cs _ (lm hz ha) (cs.length+1) R (by omega) (by omega) _ (J3 hz)
theorem ol:bA Try.prog 13 [ax la.length (aC la) R par cs] [.v (.n .i64 (r8 (di cs (bO cs (dm cs)) R) (cs.length+1))),.v (.n .i64 0)]:=by
 have hn:=(bZ hz).ncs
 have hR:=aR hz
 exact jk la.length (aC la) R par cs _ _ (by omega) 0 (λi=>by have:=j9 cs (bO cs (dm cs)) R i;omega) (Au hz ha)
theorem tr:bA Try.prog 14 [ax la.length (aC la) R par cs] [.v (.n .i64 (r8 (di cs (bO cs (dm cs)) R) (cs.length+1))),.v (.n .i64 0)]:=by
 have hn:=(bZ hz).ncs
 have hR:=aR hz
 exact oL la.length (aC la) R par cs _ _ (by omega) (λi=>by have:=j9 cs (bO cs (dm cs)) R i;omega) (Ap hz ha)
omit ha in
theorem RQ:bA Try.prog 52 [.fs 5 cs.length (cC cs)] [.v (.fs 1 (bL cs R).length (λj _=> .n .i64 (((bL cs R).getD j 0:Nat):Int)))]:=by
 have hR:=aR hz
 exact mX cs R (by omega) (bZ hz).ncs (wv hz) (RN hz) (λx hx=>by
  rw[jQ]
  have:(aF x.1 x.2.2.1 x.2.2.2.1).length<=2:=by unfold aF;(repeat' split)<;>simp
  omega)
omit ha in
theorem RO:bA Try.prog 53 [ax la.length (aC la) R par cs] [.v (.fs 1 R (bC (λr=>cP cs (r:Int))))]:=by
 have hR:=aR hz
 exact xJ la par cs R (by omega) (bZ hz).ncs (wv hz) (gW hz) (pO hz)
def Um(cs:List In)(R:Nat):List In:=cs.map (dl (Cj (λr=>cP cs (r:Int)) R))
theorem RS:bA Try.prog 20 [ax la.length (aC la) R par cs] [.v (ax la.length (aC la) (bL cs R).length par (Um cs R)),.v (.n .i64 0)]:=by
 have h:=bZ hz
 have hA:=h.nA
 have hR:=aR hz
 have hl:=qv cs R
 have:=s6 la R par cs _ (by omega) h.ncs (bL cs R) (cL cs R) (by omega) (pP hz ha) (RQ hz)
 rw[pE (C5 hz)] at this
 exact this
noncomputable def clr(cs:List In)(R:Nat):Nat->Nat:=wg (λr=>cP cs (r:Int)) (λr s=>lZ cs (bO cs (dm cs)) r s=true) R
noncomputable def eU(cs:List In)(R:Nat):Nat:=eh (clr cs R) (λr=>cP cs (r:Int)) R
omit hz ha in
theorem ll(cs:List In)(R:Nat):rL (λr=>cP cs (r:Int)) (λr s=>lZ cs (bO cs (dm cs)) r s=true) R (clr cs R):=rj _ _ _
omit ha in
theorem uE:ir Try.prog 42 [.fs 5 cs.length (cC cs)] (λ_=>True) (λM rs N=>∃(r1:Nat) (x:dk),rs=[.v (.cv (.map (some r1))),.v (.n .i64 (eU cs R))]/\N r1=some (.mp x)/\x.get=fw (jO (clr cs R) (bL cs R) (bL cs R).length)):=by
 have h:=bZ hz
 have hR:=aR hz
 have hl:=qv cs R
 have hi:=ka cs (nxt cs (dm cs)) R (Av hz) h.ncs (wv hz) (aNx hz) RR (gW hz) aW1
 have hin:=nR hi (Post':=λM rs N=>∃(r0:Nat) (pa:Int->Option Nat) (T':Int->List Int),rs=[.v (.cv (.map (some r0)))]/\gl r0 pa T' N/\(∀p,(T' p).Nodup)/\(∀p q,q ∈ T' p↔q ∈ BA cs (bO cs (dm cs)) R p)) (λM rs N ⟨r0,pa,T',e1,e2,e3,e4⟩=>⟨r0,pa,T',e1,e2,e3,λp q=>by
  rw[e4,t7,vN h.pok (gW hz)]
  exact⟨λg=>⟨(fj.range (gW hz) (pO hz) g).2,g⟩,λg=>g.2⟩⟩)
 refine nR (s7 cs (BA cs (bO cs (dm cs)) R) (bL cs R) (cL cs R) (by omega) (vm _ _ _) (λp=>by have:=Bz cs (bO cs (dm cs)) R p;omega) hin (RQ hz)) (λM rs N ⟨r1,x,K,e1,e2,e3,e4⟩=>?_)
 have hu:=vr (cs:=cs) (R:=R) (T:=BA cs (bO cs (dm cs)) R) (nb:=λr s=>lZ cs (bO cs (dm cs)) r s=true) (λa b ha hb=>by
  rw[t7,jA]
  exact⟨λg=>g.2,λg=>⟨by omega,g⟩⟩) e4 (ll cs R)
 rw[gP hu,nX] at e1
 rw[j4 hu] at e3
 exact⟨r1,x,e1,e2,e3⟩
omit ha in
theorem Aq:bA Try.prog 47 [ax la.length (aC la) R par cs] [.v (.fs 1 R (iC .i64 (kL (clr cs R) R))),.v (.n .i64 (eU cs R))]:=by
 have h:=bZ hz
 have hR:=aR hz
 exact qr la par cs R (by omega) (λr=>cP cs (r:Int)) (lZ cs (bO cs (dm cs))) (RO hz) (qj la par cs R (by omega) h.ncs (rN cs) h.pok.len (dm cs) _ _ rfl rfl (C4 hz) h.pok.at_ (wv hz) (gW hz) (pO hz))
end
end Go.Proofs.Yteopfmnnhlhbmaa
namespace Go.Proofs.Yteopfmnnhlhbmaa
open Go.RowKit
noncomputable def i4(cs:List In)(R:Nat):List Int:=kL (clr cs R) R
theorem tZ(cs:List In)(R:Nat):(i4 cs R).length=R:=JD _ _
theorem JW{cs:List In}{R v:Nat}(h:v<R):clr cs R v<R:=by
 have:=(ll cs R).le v h
 omega
theorem ux(cs:List In)(R:Nat):eU cs R<=R:=uq (λr hr=>(ll cs R).le r hr)
section
variable {la:List (Bool×Int)} {R:Nat} {par:Int} {cs:List In} (hz:(gk la R par cs).2=0) (ha:oa cs)
include hz
theorem j6:∀x ∈ cs,eR (jO (clr cs R) (bL cs R) (bL cs R).length) x=dl (i4 cs R) x:=λx hx=>by
 refine lS (C5 hz x hx) ?_ (λv h0 h1 hv=>?_)
 ·cases h:jO (clr cs R) (bL cs R) (bL cs R).length (-1) with
  |none=>rfl
  |some y=>
   obtain⟨i,_,h2,_⟩:=(jq (cL cs R) (Nat.le_refl _) _ _).1 h
   omega
 ·obtain⟨n,rfl⟩:∃n:Nat,v=n:=⟨v.toNat,by omega⟩
  have hm:n ∈ bL cs R:=gz.2 ⟨by omega,tT hx hv⟩
  obtain⟨i,hi,e⟩:=List.getElem_of_mem hm
  have e2:(bL cs R).getD i 0=n:=by rw[List.getD_eq_getElem?_getD,List.getElem?_eq_getElem hi,e];rfl
  refine(jq (cL cs R) (Nat.le_refl _) _ _).2 ⟨i,hi,by rw[e2],?_⟩
  rw[e2,Int.toNat_natCast]
  exact sK _ _ _ (by omega)
theorem tN:∀x ∈ cs,(-1<=cY (i4 cs R) x.2.1/\cY (i4 cs R) x.2.1<100000)/\(-1<=cY (i4 cs R) x.2.2.1/\cY (i4 cs R) x.2.2.1<100000)/\(-1<=cY (i4 cs R) x.2.2.2.1/\cY (i4 cs R) x.2.2.2.1<100000):=λx hx=>by
 have hR:=aR hz
 have key:∀v:Int,(v= -1\/(0<=v/\v<(R:Int)/\v ∈ bM x))-> -1<=cY (i4 cs R) v/\cY (i4 cs R) v<100000:=λv hv=>by
  unfold cY
  rcases hv with rfl|⟨h0,h1,_⟩
  ·rw[if_pos (by decide)];omega
  ·rw[if_neg (by omega)]
   have hv:v.toNat<R:=by omega
   have e:(i4 cs R).getD v.toNat 0=((clr cs R v.toNat:Nat):Int):=sK _ _ _ hv
   rw[e]
   have:=JW (cs:=cs) hv
   omega
 obtain⟨h1,h2,h3⟩:=(C5 hz x hx).regs3
 exact⟨key _ h1,key _ h2,key _ h3⟩
theorem CU:∀x ∈ cs,x.2.1<((i4 cs R).length:Int)/\x.2.2.1<((i4 cs R).length:Int)/\x.2.2.2.1<((i4 cs R).length:Int):=λx hx=>by
 rw[tZ]
 obtain⟨h1,h2,h3⟩:=(C5 hz x hx).regs3
 omega
theorem oh:bA Try.prog 47 [ax la.length (aC la) R par cs] [.v (.fs 1 (i4 cs R).length (iC .i64 (i4 cs R))),.v (.n .i64 (eU cs R))]:=by
 rw[tZ]
 exact Aq hz
include ha
theorem oq{r:Nat}(hr:4<=r/\r<=1024)(hn:eU cs R<=r):bA Try.prog 17 [ax la.length (aC la) R par cs,.n .i64 r] [.v (ax la.length (aC la) (eU cs R) par (cs.map (dl (i4 cs R)))),.v (.n .i64 0)]:=by
 have h:=bZ hz
 have hA:=h.nA
 have:=Aj la R par cs _ (by omega) h.ncs r (eU cs R) hr _ (pP hz ha) (uE hz) hn
 rw[List.map_congr_left (j6 hz)] at this
 exact this
theorem tv{r:Nat}(hr:4<=r/\r<=1024)(hn:eU cs R<=r):bA Try.prog 18 [ax la.length (aC la) R par cs,.n .i64 r] [.v (ax la.length (aC la) (eU cs R) par (cs.map (dl (i4 cs R)))),.v (.n .i64 0)]:=by
 have h:=bZ hz
 have hA:=h.nA
 exact uY la R par cs _ (by omega) h.ncs r (eU cs R) hr (i4 cs R) (CU hz) (lm hz ha) (oh hz) hn
theorem oo{r:Nat}(hr:4<=r/\r<=1024)(hn:r<eU cs R):bA Try.prog 17 [ax la.length (aC la) R par cs,.n .i64 r] (if 1024<par+(eU cs R:Int)-((r:Int)-3)\/16384<(iK (i4 cs R) ((r:Int)-3) par cs).length then[.v iu,.v (.n .i64 6)] else[.v (ax la.length (aC la) r (par+(eU cs R:Int)-((r:Int)-3)) (iK (i4 cs R) ((r:Int)-3) par cs)),.v (.n .i64 0)]):=by
 have h:=bZ hz
 have hA:=h.nA
 have hR:=aR hz
 have hcl:=ux cs R
 have e:oA (jO (clr cs R) (bL cs R) (bL cs R).length) ((r:Int)-3) par cs=iK (i4 cs R) ((r:Int)-3) par cs:=by
  unfold oA iK
  rw[List.map_congr_left (λx hx=>by rw[j6 hz x hx])]
 have hg:∀y ∈ cs,(-1<=fO (jO (clr cs R) (bL cs R) (bL cs R).length) y.2.1/\fO (jO (clr cs R) (bL cs R) (bL cs R).length) y.2.1<100000)/\(-1<=fO (jO (clr cs R) (bL cs R) (bL cs R).length) y.2.2.1/\fO (jO (clr cs R) (bL cs R) (bL cs R).length) y.2.2.1<100000)/\(-1<=fO (jO (clr cs R) (bL cs R) (bL cs R).length) y.2.2.2.1/\fO (jO (clr cs R) (bL cs R) (bL cs R).length) y.2.2.2.1<100000):=λy hy=>by
  have e1:=j6 hz y hy
  unfold eR dl at e1
  simp only[Prod.mk.injEq,true_and] at e1
  obtain⟨e1,e2,e3,_⟩:=e1
  rw[e1,e2,e3]
  exact tN hz y hy
 have:=Ai la R par cs _ (by omega) h.ncs r (eU cs R) hr _ (pP hz ha) (uE hz) hn (by omega) (RP hz) hg
 rw[e] at this
 exact this
theorem tu{r:Nat}(hr:4<=r/\r<=1024)(hn:r<eU cs R):bA Try.prog 18 [ax la.length (aC la) R par cs,.n .i64 r] (if 1024<par+(eU cs R:Int)-((r:Int)-3)\/16384<(iK (i4 cs R) ((r:Int)-3) par cs).length then[.v iu,.v (.n .i64 6)] else[.v (ax la.length (aC la) r (par+(eU cs R:Int)-((r:Int)-3)) (iK (i4 cs R) ((r:Int)-3) par cs)),.v (.n .i64 0)]):=by
 have h:=bZ hz
 have hA:=h.nA
 have hR:=aR hz
 have hcl:=ux cs R
 exact uX la R par cs _ (by omega) h.ncs r (eU cs R) hr (i4 cs R) (CU hz) (lm hz ha) (oh hz) hn (by omega) (RP hz) (tN hz)
end
end Go.Proofs.Yteopfmnnhlhbmaa
namespace Go.Proofs.Yteopfmnnhlhbmaa
open Go.RowKit
def wG:List In->Int->Bool
 |[],_=>false
 |x::l,r=>(aF x.1 x.2.2.1 x.2.2.2.1).contains r||(!decide (r=a6 x.1 x.2.1)&&wG l r)
def mg(cs:List In):Bool:=cs.all λx=>decide (¬dN x.1)
theorem B6{cs:List In}(h:mg cs=true){i:Nat}(hi:i<cs.length):¬dN (bS cs i):=by
 have:=List.all_eq_true.1 h (cs.getD i (0,0,0,0,0)) (by rw[List.getD_eq_getElem?_getD,List.getElem?_eq_getElem hi];exact List.getElem_mem hi)
 exact of_decide_eq_true this
theorem ui{cs:List In}(h:mg cs=true)(pt:Nat->Nat){i:Nat}(hi:i<cs.length):bO cs pt i=[i+1]:=by
 have:=B6 h hi
 unfold dN at this
 unfold bO
 rw[if_neg (by omega),if_neg (by omega),if_neg (by omega)]
theorem sD{cs:List In}{nx:Nat->List Nat}(hnx:∀i,i<cs.length->nx i=[i+1]){i:Nat}{r:Int}:bn cs nx i r↔wG (cs.drop i) r=true:=by
 constructor
 ·intro h
  induction h with
  |@read i r hi h=>
   rw[List.drop_eq_getElem_cons hi]
   have e:cs.getD i (0,0,0,0,0)=cs[i]:=by rw[List.getD_eq_getElem?_getD,List.getElem?_eq_getElem hi];rfl
   rw[e] at h
   unfold wG
   rw[List.contains_iff_mem.2 h];rfl
  |@flow i k r hi hk h hw ih=>
   rw[hnx i hi] at hk
   simp at hk
   subst hk
   rw[List.drop_eq_getElem_cons hi]
   have e:cs.getD i (0,0,0,0,0)=cs[i]:=by rw[List.getD_eq_getElem?_getD,List.getElem?_eq_getElem hi];rfl
   rw[e] at hw
   unfold wG
   rw[ih,decide_eq_false hw]
   simp
 ·intro h
  by_cases hi:i<cs.length
  ·have e:cs.getD i (0,0,0,0,0)=cs[i]:=by rw[List.getD_eq_getElem?_getD,List.getElem?_eq_getElem hi];rfl
   have ih:wG (cs.drop (i+1)) r=true->bn cs nx (i+1) r:=λh=>(sD hnx).2 h
   rw[List.drop_eq_getElem_cons hi] at h
   unfold wG at h
   simp only[Bool.or_eq_true,Bool.and_eq_true,Bool.not_eq_true',decide_eq_false_iff_not] at h
   rcases h with h|⟨h1,h2⟩
   ·exact .read hi (by rw[e];exact List.contains_iff_mem.1 h)
   ·exact .flow hi (by rw[hnx i hi];simp) (ih h2) (by rw[e];exact h1)
  ·rw[List.drop_eq_nil_of_le (by omega)] at h
   cases h
termination_by cs.length-i
decreasing_by omega
theorem BP{cs:List In}{nx:Nat->List Nat}(hnx:∀i,i<cs.length->nx i=[i+1])(R i:Nat):di cs nx R i=(List.range R).filter λr:Nat=>wG (cs.drop i) (r:Int):=by
 unfold di
 congr 1
 funext r
 rw[Bool.eq_iff_iff,@decide_eq_true_iff _ (Classical.propDecidable _)]
 exact sD hnx
def R2(cs:List In)(p q:Int):Bool:=(!decide (p=q)&&(wG cs p&&wG cs q))||(List.range cs.length).any λi=>decide (0<=jP cs i)&&((decide (p=jP cs i)&&(!decide (q=p)&&wG (cs.drop (i+1)) q))||(decide (q=jP cs i)&&(!decide (p=q)&&wG (cs.drop (i+1)) p)))
theorem yH{cs:List In}{nx:Nat->List Nat}(hnx:∀i,i<cs.length->nx i=[i+1]){p q:Int}:fj cs nx p q↔R2 cs p q=true:=by
 unfold fj R2
 simp only[Bool.or_eq_true,Bool.and_eq_true,Bool.not_eq_true',decide_eq_false_iff_not,decide_eq_true_eq,List.any_eq_true,List.mem_range,sD hnx,List.drop_zero]
 constructor
 ·rintro (h|⟨i,k,h1,h2,h3,h4⟩)
  ·exact .inl h
  ·rw[hnx i h1] at h2
   simp at h2
   subst h2
   exact .inr ⟨i,h1,h3,h4⟩
 ·rintro (h|⟨i,h1,h3,h4⟩)
  ·exact .inl h
  ·exact .inr ⟨i,i+1,h1,by rw[hnx i h1];simp,h3,h4⟩
def BD(l:List Nat):Nat:=((List.range (l.length+1)).find? λc=> !l.contains c).getD 0
def iV(cs:List In):Nat->List Nat
 |0=>[]
 |r+1=>iV cs r++[if cP cs (r:Int)=true then BD (((List.range r).filter λs:Nat=>cP cs (s:Int)&&R2 cs (r:Int) (s:Int)).map λs=>(iV cs r).getD s 0) else 0]
theorem jG(cs:List In):∀n,(iV cs n).length=n
 |0=>rfl
 |n+1=>by unfold iV;rw[List.length_append,List.length_singleton,jG cs n]
theorem jH(cs:List In):∀(n r:Nat),r<n->(iV cs n).getD r 0=(iV cs (r+1)).getD r 0
 |0,r,h=>by omega
 |n+1,r,h=>by
  by_cases e:r=n
  ·subst e;rfl
  ·conv=>lhs;unfold iV
   rw[List.getD_eq_getElem?_getD,List.getElem?_append_left (by rw[jG];omega),<-List.getD_eq_getElem?_getD]
   exact jH cs n r (by omega)
theorem yf(l:List Nat):ef (λc=>c ∈ l) (BD l):=by
 unfold BD
 cases h:(List.range (l.length+1)).find? (λc=> !l.contains c) with
 |none=>
  exfalso
  have h1:=List.find?_eq_none.1 h
  have:=eW (l:=List.range (l.length+1)) (l':=l) List.nodup_range (λc hc=>by
   have:=h1 c hc
   simpa using this)
  rw[List.length_range] at this
  omega
 |some c=>
  rw[Option.getD_some]
  obtain⟨h1,l1,l2,h2,h3⟩:=List.find?_eq_some_iff_append.1 h
  refine⟨by simpa using h1,λc' hc'=>?_⟩
  have hlen:l1.length=c:=by
   have e1:(List.range (l.length+1))[l1.length]? =some c:=by rw[h2,List.getElem?_append_right (Nat.le_refl _),Nat.sub_self];rfl
   obtain⟨q1,q2⟩:=List.getElem?_eq_some_iff.1 e1
   rw[List.getElem_range] at q2
   exact q2
  have hm:c' ∈ l1:=by
   have e1:(List.range (l.length+1))[c']? =some c':=List.getElem?_range (by
    have:=congrArg List.length h2
    simp at this
    omega)
   rw[h2,List.getElem?_append_left (by omega)] at e1
   exact List.mem_of_getElem? e1
  have:=h3 c' hm
  simpa using this
theorem zr(cs:List In){nx:Nat->List Nat}(hnx:∀i,i<cs.length->nx i=[i+1])(n:Nat):rL (λr=>cP cs (r:Int)) (λr s=>lZ cs nx r s=true) n (λr=>(iV cs n).getD r 0):=by
 have key:∀r,r<n->(iV cs n).getD r 0=if cP cs (r:Int)=true then BD (((List.range r).filter λs:Nat=>cP cs (s:Int)&&R2 cs (r:Int) (s:Int)).map λs=>(iV cs n).getD s 0) else 0:=λr hr=>by
  rw[jH cs n r hr]
  conv=>lhs;unfold iV
  rw[List.getD_eq_getElem?_getD,List.getElem?_append_right (by rw[jG];exact Nat.le_refl _),jG,Nat.sub_self,List.getElem?_cons_zero,Option.getD_some]
  split
  ·congr 1
   refine List.map_congr_left (λs hs=>?_)
   have hs:=List.mem_range.1 (List.mem_filter.1 hs).1
   rw[jH cs n s (by omega),jH cs r s hs]
  ·rfl
 refine⟨λr hr ho=>?_,λr hr ho=>?_⟩
 ·have e:=key r hr
  rw[if_pos ho] at e
  show ef _ ((iV cs n).getD r 0)
  rw[e]
  refine(yf _).congr (λc=>?_)
  simp only[List.mem_map,List.mem_filter,List.mem_range,Bool.and_eq_true]
  constructor
  ·rintro ⟨s,⟨h1,h2,h3⟩,h4⟩
   exact⟨s,h1,h2,jA.2 ((yH hnx).2 h3),h4⟩
  ·rintro ⟨s,h1,h2,h3,h4⟩
   exact⟨s,⟨h1,h2,(yH hnx).1 (jA.1 h3)⟩,h4⟩
 ·have e:=key r hr
  rw[if_neg (by show ¬_;rw[show cP cs (r:Int)=false from ho];decide)] at e
  exact e
theorem C1{cs:List In}(h:mg cs=true)(R:Nat):∀r,r<R->clr cs R r=(iV cs R).getD r 0:=
 (ll cs R).uniq (zr cs (λi hi=>ui h _ hi) R) (λ_ _=>Iff.rfl)
theorem CV{cs:List In}(h:mg cs=true)(R:Nat):i4 cs R=(List.range R).map λr=>(((iV cs R).getD r 0:Nat):Int):=by
 unfold i4 kL
 exact List.map_congr_left (λr hr=>by rw[C1 h R r (List.mem_range.1 hr)])
theorem zw{cs:List In}(h:mg cs=true)(R:Nat):eU cs R=eh (λr=>(iV cs R).getD r 0) (λr=>cP cs (r:Int)) R:=fX (C1 h R)
theorem ntG(l:List Nat)(i j:Nat):fh l i j= .n .i64 ((l.getD i 0:Nat):Int):=rfl
theorem wa(l:List Nat)(hl:l.length<=100000):bA Try.prog 16 [.fs 1 l.length (fh l),.fs 1 l.length (fh l)] [.v (.b true)]:=by
 have hadd:∀j:Nat,j<200000->IntKind.wrap .i64 ((j:Int)+1)=((j+1:Nat):Int):=λj hj=>by rw[aJ (by omega)];omega
 have hll:decide ((l.length:Int)=(l.length:Int))=true:=decide_eq_true rfl
 refine aB aW K1 ⟨by simp,by decide⟩ ?_
 simp only[bt]
 repeat first|with_reducible refine aw ?_|simp only[hll,decide_true,go_sem,simprocAttr]
 refine GA.loop (I:=λmm e H=>∃(k:Nat),mm=l.length-k/\k<=l.length/\e=az [(0,.fs 1 l.length (fh l)),(1,.fs 1 l.length (fh l)),(12,.n .i64 l.length),(13,.n .i64 k)]/\H=aP []) (Wk.mk [] [] ?_ ?_ ?_) ⟨0,rfl,Nat.zero_le _,rfl,rfl⟩ ?_
 ·simp only[aX,aV,go_sem,simprocAttr]
  repeat' refine aa ?_ ?_
  all_goals first|exact ba|skip
 ·exact .nil
 ·simp
 rintro mm e H ⟨k,rfl,hk,rfl,rfl⟩
 repeat first|with_reducible refine aw ?_|simp only[go_sem,simprocAttr]
 refine⟨λh=>?_,λh=>?_⟩
 ·have hkl:k<l.length:=by omega
  have hk0:(0:Int)<=(k:Int):=by omega
  have ha:=hadd k (by omega)
  have hg:=ntG l k 0
  have hvv:decide (((l.getD k 0:Nat):Int)=((l.getD k 0:Nat):Int))=true:=decide_eq_true rfl
  repeat first|with_reducible refine aw ?_|simp only[hk0,h,hg,hvv,ha,decide_true,go_sem,simprocAttr]
  refine⟨_,_,_,?_,Wk.mk [] [] ?_ ?_ ?_,k+1,rfl,by omega,rfl,rfl⟩
  ·omega
  ·simp only[aX,aV,go_sem,simprocAttr]
   repeat' refine aa ?_ ?_
   all_goals first|exact ba|skip
  ·exact .nil
  ·simp
 ·repeat first|with_reducible refine aw ?_|simp only[go_sem,simprocAttr]
  exact⟨[_],rfl,cn.v rfl rfl .nil⟩
theorem iE(n:Nat)(hn:n<=100000)(L:Nat->List Nat)(hL:∀i,(L i).length<=100000):bA Try.prog 15 [.fs 1 n (gC L),.fs 1 n (gC L),.f 16 [] []] [.v (.b true)]:=by
 have hadd:∀j:Nat,j<200000->IntKind.wrap .i64 ((j:Int)+1)=((j+1:Nat):Int):=λj hj=>by rw[aJ (by omega)];omega
 have hll:decide ((n:Int)=(n:Int))=true:=decide_eq_true rfl
 refine aB aW Ld ⟨by simp,by decide⟩ ?_
 simp only[bt]
 repeat first|with_reducible refine aw ?_|simp only[hll,decide_true,go_sem,simprocAttr]
 refine GA.loop (I:=λmm e H=>∃(k:Nat),mm=n-k/\k<=n/\e=az [(1,.fs 1 n (gC L)),(2,.f 16 [] []),(15,.fs 1 n (gC L)),(16,.n .i64 n),(17,.n .i64 k)]/\H=aP []) (Wk.mk [] [] ?_ ?_ ?_) ⟨0,rfl,Nat.zero_le _,rfl,rfl⟩ ?_
 ·simp only[aX,aV,go_sem,simprocAttr]
  repeat' refine aa ?_ ?_
  all_goals first|exact ba|skip
 ·exact .nil
 ·simp
 rintro mm e H ⟨k,rfl,hk,rfl,rfl⟩
 repeat first|with_reducible refine aw ?_|simp only[go_sem,simprocAttr]
 refine⟨λh=>?_,λh=>?_⟩
 ·have hkl:k<n:=by omega
  have hk0:(0:Int)<=(k:Int):=by omega
  have ha:=hadd k (by omega)
  have hg:gC L k 0= .fs 1 (L k).length (fh (L k)):=rfl
  repeat first|with_reducible refine aw ?_|simp only[hk0,h,hg,decide_true,go_sem,simprocAttr]
  refine JK (wa (L k) (hL k)) ?_
  repeat first|with_reducible refine aw ?_|simp only[ha,go_sem,simprocAttr]
  refine⟨_,_,_,?_,Wk.mk [] [] ?_ ?_ ?_,k+1,rfl,by omega,rfl,rfl⟩
  ·omega
  ·simp only[aX,aV,go_sem,simprocAttr]
   repeat' refine aa ?_ ?_
   all_goals first|exact ba|skip
  ·exact .nil
  ·simp
 ·repeat first|with_reducible refine aw ?_|simp only[go_sem,simprocAttr]
  exact⟨[_],rfl,cn.v rfl rfl .nil⟩
def dX(k:Nat):In:=(0,(k:Int),-1,-1,((k+5:Nat):Int))
def fC(k:Nat):In:=(34,-1,(k:Int),-1,0)
theorem jj(k:Nat)(hk:k<=1000):bA Try.prog 34 [.n .i64 k] [.v (fy (dX k))]:=by
 have h1:IntKind.wrap .i64 ((k:Int)+5)=((k+5:Nat):Int):=by rw[aJ (by omega)];omega
 have h2:IntKind.wrap .u32 (((k+5:Nat)):Int)=((k+5:Nat):Int):=AN (by omega)
 refine aB aW Lw ⟨by simp,by decide⟩ ?_
 simp only[bt]
 repeat first|with_reducible refine aw ?_|simp only[h1,h2,go_sem,simprocAttr]
 exact⟨[_],rfl,cn.v rfl rfl .nil⟩
theorem q9(k:Nat):bA Try.prog 35 [.n .i64 k] [.v (fy (fC k))]:=by
 refine aB aW Lr ⟨by simp,by decide⟩ ?_
 simp only[bt]
 repeat first|with_reducible refine aw ?_|simp only[go_sem,simprocAttr]
 exact⟨[_],rfl,cn.v rfl rfl .nil⟩
def pW:List In:=[dX 0,dX 1,(8,2,0,1,0),fC 2]
def pn:List In:=[dX 0,dX 1,dX 2,dX 3,dX 4,fC 0,fC 1,fC 2,fC 3,fC 4]
def Ul(i:Nat):List Nat:=(List.range 3).filter λr:Nat=>wG (pW.drop i) (r:Int)
theorem mi:mg pW=true:=by rfl
theorem qW:mg pn=true:=by rfl
theorem sU:(gk [] ((3:Nat):Int) 0 pW).2=0:=by rfl
theorem JS:(gk [] ((5:Nat):Int) 0 pn).2=0:=by rfl
theorem pq:oa pW:=by
 intro x hx
 simp only[pW,dX,fC,List.mem_cons,List.not_mem_nil,or_false] at hx
 rcases hx with rfl|rfl|rfl|rfl<;>simp
theorem B8:oa pn:=by
 intro x hx
 simp only[pn,dX,fC,List.mem_cons,List.not_mem_nil,or_false] at hx
 rcases hx with rfl|rfl|rfl|rfl|rfl|rfl|rfl|rfl|rfl|rfl<;>simp
theorem qX:di pW (bO pW (dm pW)) 3=Ul:=by
 funext i
 exact BP (λj hj=>ui mi _ hj) 3 i
theorem JR:bA Try.prog 11 [ax 0 (aC []) 3 0 pW] [.v (.fs 1 5 (gC Ul)),.v (.n .i64 0)]:=by
 have:=Au (la:=[]) (R:=3) (par:=0) (cs:=pW) sU pq
 rw[qX] at this
 exact this
theorem sR:bA Try.prog 13 [ax 0 (aC []) 3 0 pW] [.v (.n .i64 2),.v (.n .i64 0)]:=by
 have:=ol (la:=[]) (R:=3) (par:=0) (cs:=pW) sU pq
 rw[qX] at this
 exact this
theorem po:eU pW 3=2/\i4 pW 3=[0,1,0]:=by
 rw[zw mi,CV mi]
 exact⟨by rfl,by rfl⟩
theorem pk:eU pn 5=5/\i4 pn 5=[0,1,2,3,4]:=by
 rw[zw qW,CV qW]
 exact⟨by rfl,by rfl⟩
def JT:List In:=[dX 0,dX 1,(8,0,0,1,0),fC 0]
theorem y9:bA Try.prog 17 [ax 0 (aC []) 3 0 pW,.n .i64 4] [.v (ax 0 (aC []) 2 0 JT),.v (.n .i64 0)]:=by
 have:=oq (la:=[]) (R:=3) (par:=0) (cs:=pW) sU pq (r:=4) (by omega) (by rw[po.1];omega)
 rw[po.1,po.2] at this
 exact this
def sS:List In:=iK [0,1,2,3,4] 1 0 pn
theorem qV:bA Try.prog 17 [ax 0 (aC []) 5 0 pn,.n .i64 4] [.v (ax 0 (aC []) 4 4 sS),.v (.n .i64 0)]:=by
 have:=oo (la:=[]) (R:=5) (par:=0) (cs:=pn) JS B8 (r:=4) (by omega) (by rw[pk.1];omega)
 rw[pk.1,pk.2] at this
 exact this
def y8(k:Nat):List In:=pn.take k
theorem qU(k:Nat)(hk:k<10):y8 (k+1)=y8 k++[pn.getD k (0,0,0,0,0)]:=by
 unfold y8
 rw[List.take_add_one,List.getD_eq_getElem?_getD,List.getElem?_eq_getElem (show k<pn.length from hk)]
 rfl
theorem pj(k:Nat)(hk:k<=10):(y8 k).length=k:=by
 unfold y8
 rw[List.length_take]
 exact Nat.min_eq_left hk
theorem sW{M:List Nat}{H:AH}{b:Nat}{x:AB}(hm:b ∈ M)(hx:H.at b=some x)(hs:x.size=20)(hg:∀i j,i<4->j<5->x.get (0+i*5+j)=cC pW i j):Cv M H (.agg [.sl0,.n .i64 3,.n .i64 0,.sl b 0 4 4]) (ax 0 (aC []) 3 0 pW):=by
 refine .agg rfl λi v v' h1 h2=>?_
 match i,h1,h2 with
 |0,h1,h2=>cases h1;cases h2;exact .sl0 _ _
 |1,h1,h2=>cases h1;cases h2;exact .rfl rfl
 |2,h1,h2=>cases h1;cases h2;exact .rfl rfl
 |3,h1,h2=>cases h1;cases h2;exact .sl (x:=x) hm hx (by rw[hs];decide) (by decide) (by rw[hs];decide) hg (λi j _ hj=>bm i hj)
 |i+4,h1,h2=>cases h1
theorem JV{M:List Nat}{H:AH}:Cv M H (.agg [.sl0,.n .i64 5,.n .i64 0,.fs 5 10 (cC pn)]) (.agg [.fs 2 0 (aC []),.n .i64 5,.n .i64 0,.fs 5 10 (cC pn)]):=by
 refine .agg rfl λi v v' h1 h2=>?_
 match i,h1,h2 with
 |0,h1,h2=>cases h1;cases h2;exact .sl0 _ _
 |1,h1,h2=>cases h1;cases h2;exact .rfl rfl
 |2,h1,h2=>cases h1;cases h2;exact .rfl rfl
 |3,h1,h2=>cases h1;cases h2;exact .rfl rfl
 |i+4,h1,h2=>cases h1
theorem JY:GA Try.prog 126 (aE Try.prog 10) (.seq (.reg CK) (.seq (.seq (.reg CJ) (.block 0 wP)) (.seq (.seq (.reg wM) (.block 2 wO)) (.seq (.reg wL) (.seq (.mix wN) .ret))))) (az []) (aP []) (jF [.mv (.t 0)] λv H=>∃l,v=bJ l/\cn [.v (.b true)] l H):=by
 have h4:=qV
 have hadd:∀j:Nat,j<200000->IntKind.wrap .i64 ((j:Int)+1)=((j+1:Nat):Int):=λj hj=>by rw[aJ (by omega)];omega
 have sl:∀k:Nat,k<10->(k+1)*5<1099511627776/\(k+1)*40<=140737488355328/\k<=9223372036854775806:=λk h=>by omega
 have cD:∀k i j,i<k->k<10->cC (y8 (k+1)) i j=cC (y8 k) i j:=λk i j hi hk=>by
  unfold cC
  rw[qU k hk,List.getD_eq_getElem?_getD,List.getD_eq_getElem?_getD,List.getElem?_append_left (by rw[pj k (by omega)];exact hi),<-List.getD_eq_getElem?_getD]
 have cE:∀k j,k<10->cC (y8 (k+1)) k j=cC pn k j:=λk j hk=>by
  unfold cC
  rw[qU k hk,List.getD_eq_getElem?_getD,List.getElem?_append_right (by rw[pj k (by omega)];exact Nat.le_refl _),pj k (by omega),Nat.sub_self]
  rfl
 have dP:∀k,k<5->pn.getD k (0,0,0,0,0)=dX k:=λk hk=>by
  rcases(by omega:k=0\/k=1\/k=2\/k=3\/k=4) with rfl|rfl|rfl|rfl|rfl<;>rfl
 have dE:∀k,k<5->pn.getD (5+k) (0,0,0,0,0)=fC k:=λk hk=>by
  rcases(by omega:k=0\/k=1\/k=2\/k=3\/k=4) with rfl|rfl|rfl|rfl|rfl<;>rfl
 (try simp only[go_sem,simprocAttr])
 iterate 3 (with_reducible refine GA.go aW rfl ?_;try simp only[go_sem,simprocAttr])
 refine GA.wk (Wk.mk (L:=[(8,.p 0 0)]) (bl:=[aK 0 25 [.sl0,.n .i64 5,.n .i64 0,.sl0]]) [0] [] ?_ ?_ ?_) ?_
 ·simp only[aX,aV,go_sem,simprocAttr]
  repeat' refine aa ?_ ?_
  all_goals first|exact ba|skip
 ·exact .cons rfl (.lstw (x:=_) (by simp only[go_sem,simprocAttr]<;>rfl) (by rfl) (by rfl) (by rfl) (by rfl) (by rfl) (by rfl) (by simp) (λi hi=>(by rcases dA hi with rfl|rfl|rfl|rfl<;>(simp only[go_sem,simprocAttr];first|exact Wv.same rfl|exact Wv.os rfl)))) .nil
 ·simp
 refine GA.wk (Wk.nilb 0 3 5 60 (x:=aK 0 25 [.sl0,.n .i64 5,.n .i64 0,.sl0]) (by simp only[go_sem,simprocAttr]) (by simp only[go_sem,simprocAttr]) (by decide) (by decide) (by simp only[go_sem,simprocAttr]) rfl (by simp only[go_sem,simprocAttr])) ?_
 repeat first|with_reducible refine aw ?_|simp only[go_sem,simprocAttr]
 refine GA.loop (I:=λmm e H=>∃(k m:Nat),mm=5-k/\k<=5/\m=0+k/\e=az [(8,.p 0 0),(73,.n .i64 k)]/\H=aP [aD 60 5 m 0 (cC (y8 m)),aK 0 25 [.sl0,.n .i64 5,.n .i64 0,.os 1 m]]) (Wk.mk [1,0] [] ?_ ?_ ?_) ⟨0,0,rfl,Nat.zero_le _,rfl,rfl,rfl⟩ ?_
 ·simp only[aX,aV,go_sem,simprocAttr]
  repeat' refine aa ?_ ?_
  all_goals first|exact ba|skip
 ·exact .cons rfl (.rows (x:=_) (by simp only[go_sem,simprocAttr];rfl) (by rfl) (by rfl) (by rfl) (by show 0*5<=0;decide) (by exact Nat.le_refl _) (by decide) (λi j hi=>absurd (show i<0 from hi) (Nat.not_lt_zero _)) (λi j hi=>absurd (show i<0 from hi) (Nat.not_lt_zero _))) (.cons rfl (.lstw (x:=_) (by simp only[go_sem,simprocAttr]<;>rfl) (by rfl) (by rfl) (by rfl) (by rfl) (by rfl) (by rfl) (by simp) (λi hi=>(by rcases dA hi with rfl|rfl|rfl|rfl<;>(simp only[go_sem,simprocAttr];first|exact Wv.same rfl|exact Wv.os rfl)))) .nil)
 ·simp
 rintro mm e H ⟨k,m,rfl,hk,hm,rfl,rfl⟩
 repeat first|with_reducible refine aw ?_|simp only[go_sem,simprocAttr]
 refine⟨λh=>?_,λh=>?_⟩
 ·have hkl:k<5:=by omega
  have ha:=hadd k (by omega)
  obtain⟨s1,s2,s3⟩:=sl m (by omega)
  repeat first|with_reducible refine aw ?_|simp only[h,s1,s2,s3,decide_true,go_sem,simprocAttr]
  refine ao [] (.cons (.rfl (by rfl)) .nil) (jj k (by omega)) (by simp only[AH.mark_next,ae,au,av,am,ah,aj,af,ai,ag,List.length_cons,List.length_nil];decide) ?_
  simp only[fy,dX,go_sem,simprocAttr]
  repeat first|with_reducible refine aw ?_|simp only[ha,s1,s2,s3,decide_true,go_sem,simprocAttr]
  refine⟨_,_,_,?_,Wk.mk [3,0] [] ?_ ?_ ?_,k+1,m+1,rfl,by omega,by omega,rfl,rfl⟩
  ·omega
  ·simp only[aX,aV,go_sem,simprocAttr]
   repeat' refine aa ?_ ?_
   all_goals first|exact ba|skip
  ·exact .cons rfl (.snoc (by simp only[go_sem,simprocAttr]<;>rfl) (by simp) (by rfl) rfl (by decide) (by omega) (λi j hi _=>cD m i j hi (by omega)) (λj hj=>by
    rw[cE m j (by omega)];unfold cC;rw[show m=k by omega,dP k (by omega)];rcases ez hj with rfl|rfl|rfl|rfl|rfl<;>rfl) (λi j _ hj=>by rcases ez hj with rfl|rfl|rfl|rfl|rfl<;>rfl)) (.cons rfl (.lstw (x:=_) (by simp only[go_sem,simprocAttr]<;>rfl) (by rfl) (by rfl) (by rfl) (by rfl) (by rfl) (by rfl) (by simp) (λi hi=>(by rcases dA hi with rfl|rfl|rfl|rfl<;>(simp only[go_sem,simprocAttr];first|exact Wv.same rfl|exact Wv.os rfl)))) .nil)
  ·simp
 have hk5:m=5:=by omega
 subst hk5
 repeat first|with_reducible refine aw ?_|simp only[go_sem,simprocAttr]
 refine GA.loop (I:=λmm e H=>∃(k m:Nat),mm=5-k/\k<=5/\m=5+k/\e=az [(8,.p 0 0),(84,.n .i64 k)]/\H=aP [aD 60 5 m 0 (cC (y8 m)),aK 0 25 [.sl0,.n .i64 5,.n .i64 0,.os 1 m]]) (Wk.mk [1,0] [] ?_ ?_ ?_) ⟨0,5,rfl,Nat.zero_le _,rfl,rfl,rfl⟩ ?_
 ·simp only[aX,aV,go_sem,simprocAttr]
  repeat' refine aa ?_ ?_
  all_goals first|exact ba|skip
 ·exact .cons rfl .k5 (.cons rfl (.lstw (x:=_) (by simp only[go_sem,simprocAttr]<;>rfl) (by rfl) (by rfl) (by rfl) (by rfl) (by rfl) (by rfl) (by simp) (λi hi=>(by rcases dA hi with rfl|rfl|rfl|rfl<;>(simp only[go_sem,simprocAttr];first|exact Wv.same rfl|exact Wv.os rfl)))) .nil)
 ·simp
 rintro mm e H ⟨k,m,rfl,hk,hm,rfl,rfl⟩
 repeat first|with_reducible refine aw ?_|simp only[go_sem,simprocAttr]
 refine⟨λh=>?_,λh=>?_⟩
 ·have hkl:k<5:=by omega
  have ha:=hadd k (by omega)
  obtain⟨s1,s2,s3⟩:=sl m (by omega)
  repeat first|with_reducible refine aw ?_|simp only[h,s1,s2,s3,decide_true,go_sem,simprocAttr]
  refine ao [] (.cons (.rfl (by rfl)) .nil) (q9 k) (by simp only[AH.mark_next,ae,au,av,am,ah,aj,af,ai,ag,List.length_cons,List.length_nil];decide) ?_
  simp only[fy,fC,go_sem,simprocAttr]
  repeat first|with_reducible refine aw ?_|simp only[ha,s1,s2,s3,decide_true,go_sem,simprocAttr]
  refine⟨_,_,_,?_,Wk.mk [3,0] [] ?_ ?_ ?_,k+1,m+1,rfl,by omega,by omega,rfl,rfl⟩
  ·omega
  ·simp only[aX,aV,go_sem,simprocAttr]
   repeat' refine aa ?_ ?_
   all_goals first|exact ba|skip
  ·exact .cons rfl (.snoc (by simp only[go_sem,simprocAttr]<;>rfl) (by simp) (by rfl) rfl (by decide) (by omega) (λi j hi _=>cD m i j hi (by omega)) (λj hj=>by
    rw[cE m j (by omega)];unfold cC;rw[show m=5+k by omega,dE k (by omega)];rcases ez hj with rfl|rfl|rfl|rfl|rfl<;>rfl) (λi j _ hj=>by rcases ez hj with rfl|rfl|rfl|rfl|rfl<;>rfl)) (.cons rfl (.lstw (x:=_) (by simp only[go_sem,simprocAttr]<;>rfl) (by rfl) (by rfl) (by rfl) (by rfl) (by rfl) (by rfl) (by simp) (λi hi=>(by rcases dA hi with rfl|rfl|rfl|rfl<;>(simp only[go_sem,simprocAttr];first|exact Wv.same rfl|exact Wv.os rfl)))) .nil)
  ·simp
 have hk5:m=10:=by omega
 subst hk5
 refine GA.wk (Wk.mk (L:=[(8,.p 0 0)]) (bl:=[aK 0 25 [.sl0,.n .i64 5,.n .i64 0,.fs 5 10 (cC pn)]]) [0] [1] ?_ ?_ ?_) ?_
 ·simp only[aX,aV,go_sem,simprocAttr]
  repeat' refine aa ?_ ?_
  all_goals first|exact ba|skip
 ·exact .cons rfl (.lstw (x:=_) (by simp only[go_sem,simprocAttr]<;>rfl) (by rfl) (by rfl) (by rfl) (by rfl) (by rfl) (by rfl) (by simp) (λi hi=>(by rcases dA hi with rfl|rfl|rfl|rfl<;>(simp only[go_sem,simprocAttr];first|exact Wv.same rfl|exact Wv.cv (Cv.own (ty:=60) (z:=0) (row:=cC (y8 10)) (by simp) (by simp only[go_sem,simprocAttr]) (λi j _ hj=>bm i hj)))))) .nil
 ·simp
 have hl18:((sS.length:Nat):Int)=18:=rfl
 have hc0:cC sS 0 0= .n .i64 0:=rfl
 have hc1:cC sS 0 1= .n .i64 0:=rfl
 have hc2:cC sS 0 2= .n .i64 (-1):=rfl
 have hc3:cC sS 0 3= .n .i64 (-1):=rfl
 have hc4:cC sS 0 4= .n .u32 5:=rfl
 have hlt:(0:Int)<18:=by omega
 have h00:(0:Int)<=0:=by omega
 have d1:decide ((0:Int)=0)=true:=decide_eq_true rfl
 have d2:decide ((4:Int)=4)=true:=decide_eq_true rfl
 have d3:decide ((18:Int)=18)=true:=decide_eq_true rfl
 have d4:decide ((5:Int)=5)=true:=decide_eq_true rfl
 have d5:decide ((-1:Int)= -1)=true:=decide_eq_true rfl
 have hx10:pn.length=10:=rfl
 simp only[ax,hx10] at h4
 repeat first|with_reducible refine aw ?_|simp only[go_sem,simprocAttr]
 refine ao [] (.cons JV (.cons (.rfl (by rfl)) .nil)) h4 (by simp only[AH.mark_next,ae,au,av,am,ah,aj,af,ai,ag,List.length_cons,List.length_nil];decide) ?_
 repeat first|with_reducible refine aw ?_|simp only[d1,d2,d3,hl18,hlt,h00,hc0,hc1,hc2,hc3,hc4,decide_true,go_sem,simprocAttr]
 refine ao [] (.cons (.rfl (by rfl)) .nil) (jj 0 (by omega)) (by simp only[AH.mark_next,ae,au,av,am,ah,aj,af,ai,ag,List.length_cons,List.length_nil];decide) ?_
 simp only[fy,dX,go_sem,simprocAttr]
 repeat first|with_reducible refine aw ?_|simp only[wJ,qY,lL,Ah,SH.row,d1,d2,d3,d4,d5,hl18,hlt,h00,hc0,hc1,hc2,hc3,hc4,decide_true,go_sem,simprocAttr]
 exact⟨[_],rfl,cn.v rfl rfl .nil⟩
theorem ik:bA Try.prog 10 [] [.v (.b true)]:=by
 have h1:=JR
 have h2:=sR
 have h3:=y9
 have h4:=qV
 have w0:IntKind.wrap .i64 0=0:=rfl
 have w1:IntKind.wrap .i64 (0+0)=0:=rfl
 have hne0:decide ((0:Int)=0)=true:=decide_eq_true rfl
 refine aB aW Lo ⟨by simp,by decide⟩ ?_
 simp only[bt]
 repeat first|with_reducible refine aw ?_|simp only[go_sem,simprocAttr]
 refine ao [] (.cons (.rfl (by rfl)) .nil) (jj 0 (by omega)) (by simp only[AH.mark_next,ae,au,av,am,ah,aj,af,ai,ag,List.length_cons,List.length_nil];decide) ?_
 simp only[fy,dX]
 repeat first|with_reducible refine aw ?_|simp only[go_sem,simprocAttr]
 refine ao [] (.cons (.rfl (by rfl)) .nil) (jj 1 (by omega)) (by simp only[AH.mark_next,ae,au,av,am,ah,aj,af,ai,ag,List.length_cons,List.length_nil];decide) ?_
 simp only[fy,dX]
 repeat first|with_reducible refine aw ?_|simp only[go_sem,simprocAttr]
 refine ao [] (.cons (.rfl (by rfl)) .nil) (q9 2) (by simp only[AH.mark_next,ae,au,av,am,ah,aj,af,ai,ag,List.length_cons,List.length_nil];decide) ?_
 simp only[fy,fC]
 repeat first|with_reducible refine aw ?_|simp only[go_sem,simprocAttr]
 refine ao [0] (.cons (sW (by simp) (by simp only[go_sem,simprocAttr]<;>rfl) rfl (λi j hi hj=>?_)) .nil) h1 (by simp only[AH.mark_next,ae,au,av,am,ah,aj,af,ai,ag,List.length_cons,List.length_nil];decide) ?_
 ·skip
  rcases(by omega:i=0\/i=1\/i=2\/i=3) with rfl|rfl|rfl|rfl<;>rcases(by omega:j=0\/j=1\/j=2\/j=3\/j=4) with rfl|rfl|rfl|rfl|rfl<;>rfl
 repeat first|with_reducible refine aw ?_|simp only[go_sem,simprocAttr]
 refine ao [0] (.cons (sW (by simp) (by simp only[go_sem,simprocAttr]<;>rfl) rfl (λi j hi hj=>?_)) .nil) h2 (by simp only[AH.mark_next,ae,au,av,am,ah,aj,af,ai,ag,List.length_cons,List.length_nil];decide) ?_
 ·skip
  rcases(by omega:i=0\/i=1\/i=2\/i=3) with rfl|rfl|rfl|rfl<;>rcases(by omega:j=0\/j=1\/j=2\/j=3\/j=4) with rfl|rfl|rfl|rfl|rfl<;>rfl
 repeat first|with_reducible refine aw ?_|simp only[go_sem,simprocAttr]
 refine ao [0] (.cons (sW (by simp) (by simp only[go_sem,simprocAttr]<;>rfl) rfl (λi j hi hj=>?_)) (.cons (.rfl (by rfl)) .nil)) h3 (by simp only[AH.mark_next,ae,au,av,am,ah,aj,af,ai,ag,List.length_cons,List.length_nil];decide) ?_
 ·skip
  rcases(by omega:i=0\/i=1\/i=2\/i=3) with rfl|rfl|rfl|rfl<;>rcases(by omega:j=0\/j=1\/j=2\/j=3\/j=4) with rfl|rfl|rfl|rfl|rfl<;>rfl
 simp only[ax]
 repeat first|with_reducible refine aw ?_|simp only[w0,w1,hne0,decide_true,go_sem,simprocAttr]
 refine ao [3,4,5,6] (.cons (.rfl (by rfl)) (.cons (?_) (.cons (.rfl (by rfl)) .nil))) (iE 5 (by omega) Ul (λi=>?_)) (by simp only[AH.mark_next,ae,au,av,am,ah,aj,af,ai,ag,List.length_cons,List.length_nil];decide) ?_
 ·refine .slw (x:=_) (by simp) (by simp only[go_sem,simprocAttr]<;>rfl) (by decide) (by decide) (λi j hi hj=>?_) (λi j _ _=>rfl)
  have hj0:j=0:=by omega
  subst hj0
  rcases(by omega:i=0\/i=1\/i=2\/i=3\/i=4) with rfl|rfl|rfl|rfl|rfl
  ·exact .sl0 _ _
  ·refine .sl (x:=_) (by simp) (by simp only[go_sem,simprocAttr]<;>rfl) (by decide) (by decide) (by decide) (λi j hi hj=>?_) (λi j _ _=>rfl)
   rw[show i=0 by have:i<1:=hi;omega,show j=0 by omega];rfl
  ·refine .sl (x:=_) (by simp) (by simp only[go_sem,simprocAttr]<;>rfl) (by decide) (by decide) (by decide) (λi j hi hj=>?_) (λi j _ _=>rfl)
   have hi2:i<2:=hi
   rcases(by omega:i=0\/i=1) with rfl|rfl<;>rw[show j=0 by omega]<;>rfl
  ·refine .sl (x:=_) (by simp) (by simp only[go_sem,simprocAttr]<;>rfl) (by decide) (by decide) (by decide) (λi j hi hj=>?_) (λi j _ _=>rfl)
   rw[show i=0 by have:i<1:=hi;omega,show j=0 by omega];rfl
  ·exact .sl0 _ _
 ·exact Nat.le_trans (List.length_filter_le _ _) (by simp)
 have hl4:((JT.length:Nat):Int)=4:=rfl
 have hcz:cC JT 2 1= .n .i64 0:=rfl
 have hlt:(2:Int)<4:=by omega
 have h00:(0:Int)<=2:=by omega
 (try simp only[w0,w1,hne0,hl4,hcz,hlt,h00,decide_true,go_sem,simprocAttr])
 iterate 2 (with_reducible refine GA.go aW rfl ?_;try simp only[w0,w1,hne0,hl4,hcz,hlt,h00,decide_true,go_sem,simprocAttr])
 refine GA.wk (Wk.mk (L:=[]) (bl:=[]) [] [] ?_ ?_ ?_) JY
 ·simp only[aX,aV,go_sem,simprocAttr]
  repeat' refine aa ?_ ?_
  all_goals first|exact ba|skip
 ·exact .nil
 ·simp
theorem ig(na:Nat)(ra:Nat->Nat->AV)(regs par:Int)(cs:List In):bA Try.prog 9 [ax na ra regs par cs] [.v (.b (iB na regs cs))]:=by
 have hw:=v6 na ra regs par cs
 refine aB aW NJ ⟨by simp,by decide⟩ ?_
 simp only[bt,ax] at hw ⊢
 repeat first|with_reducible refine aw ?_|simp only[go_sem,simprocAttr]
 refine ao [] (.cons (.rfl (by rfl)) .nil) hw (by simp only[AH.mark_next,ae,au,av,am,ah,aj,af,ai,ag,List.length_cons,List.length_nil];decide) ?_
 unfold iB
 cases qS na cs
 ·repeat first|with_reducible refine aw ?_|simp only[go_sem,simprocAttr]
  exact bW rfl rfl
 ·by_cases h1:regs<=60
  ·repeat first|with_reducible refine aw ?_|simp only[h1,decide_true,go_sem,simprocAttr]
   exact bW rfl rfl
  ·by_cases h2:1024<regs
   ·repeat first|with_reducible refine aw ?_|simp only[h1,h2,decide_true,decide_false,go_sem,simprocAttr]
    exact bW rfl rfl
   ·repeat first|with_reducible refine aw ?_|simp only[h1,h2,decide_true,decide_false,go_sem,simprocAttr]
    exact bW rfl rfl
theorem cvz{H:AH}{r1 r2:Nat->Nat->AV}:Cv [] H iu (.agg [.fs 2 0 r1,.n .i64 0,.n .i64 0,.fs 5 0 r2]):=by
 refine .agg rfl λi v v' h1 h2=>?_
 match i,h1,h2 with
 |0,h1,h2=>cases h1;cases h2;exact .sl0 _ _
 |1,h1,h2=>cases h1;cases h2;exact .rfl rfl
 |2,h1,h2=>cases h1;cases h2;exact .rfl rfl
 |3,h1,h2=>cases h1;cases h2;exact .sl0 _ _
 |i+4,h1,h2=>cases h1
theorem uP:bA Try.prog 19 [.agg [.fs 2 0 (aC []),.n .i64 0,.n .i64 0,.fs 5 0 (cC [])],.agg [.fs 2 0 (aC []),.n .i64 0,.n .i64 0,.fs 5 0 (cC [])]] [.v (.b true)]:=by
 have:=qf [] (by decide) 0 0 [] [] (by decide)
 rw[decide_eq_true rfl] at this
 exact this
theorem uk{la:List (Bool×Int)}{regs:Int}{cs:List In}(hf:iB la.length regs cs=true):la.length<=20/\cs.length<=300:=by
 unfold iB qS at hf
 by_cases h1:(la.length:Int)<=20
 ·by_cases h2:(cs.length:Int)<=300
  ·exact⟨by omega,by omega⟩
  ·simp[h1,h2] at hf
 ·simp[h1] at hf
def rE(v:AV):Prop:=∃v2 v3,(∀H,Cv [] H v v2)/\(∀H,Cv [] H v v3)/\bA Try.prog 19 [v2,v3] [.v (.b true)]
theorem rE.zero:rE iu:=⟨_,_,λH=>cvz,λH=>cvz,uP⟩
theorem rE.code{la:List (Bool×Int)}{regs par:Int}{cs:List In}(hla:la.length<1000000)(hcs:cs.length<1000000):rE (ax la.length (aC la) regs par cs):=by
 have:=qf la hla regs par cs cs hcs
 rw[decide_eq_true rfl] at this
 exact⟨_,_,λH=> .rfl rfl,λH=> .rfl rfl,this⟩
theorem y6{na:Nat}{ra:Nat->Nat->AV}{regs par:Int}{cs:List In}(hf:iB na regs cs=false):bA Try.prog 3 [ax na ra regs par cs] [.v (.b true)]:=by
 have hw:=ig na ra regs par cs
 rw[hf] at hw
 refine aB aW CI ⟨by simp,by decide⟩ ?_
 simp only[bt,ax] at hw ⊢
 repeat first|with_reducible refine aw ?_|simp only[go_sem,simprocAttr]
 refine ao [] (.cons (.rfl (by rfl)) .nil) hw (by simp only[AH.mark_next,ae,au,av,am,ah,aj,af,ai,ag,List.length_cons,List.length_nil];decide) ?_
 repeat first|with_reducible refine aw ?_|simp only[go_sem,simprocAttr]
 refine ao [] .nil ik (by simp only[AH.mark_next,ae,au,av,am,ah,aj,af,ai,ag,List.length_cons,List.length_nil];decide) ?_
 repeat first|with_reducible refine aw ?_|simp only[go_sem,simprocAttr]
 exact bW rfl rfl
theorem vZ{na:Nat}{ra:Nat->Nat->AV}{regs par r:Int}{cs:List In}(hf:iB na regs cs=false):bA Try.prog 4 [ax na ra regs par cs,.n .i64 r] [.v (.b true)]:=by
 have hw:=ig na ra regs par cs
 rw[hf] at hw
 refine aB aW CH ⟨by simp,by decide⟩ ?_
 simp only[bt,ax] at hw ⊢
 repeat first|with_reducible refine aw ?_|simp only[go_sem,simprocAttr]
 refine ao [] (.cons (.rfl (by rfl)) .nil) hw (by simp only[AH.mark_next,ae,au,av,am,ah,aj,af,ai,ag,List.length_cons,List.length_nil];decide) ?_
 repeat first|with_reducible refine aw ?_|simp only[go_sem,simprocAttr]
 refine ao [] .nil ik (by simp only[AH.mark_next,ae,au,av,am,ah,aj,af,ai,ag,List.length_cons,List.length_nil];decide) ?_
 repeat first|with_reducible refine aw ?_|simp only[go_sem,simprocAttr]
 exact bW rfl rfl
theorem nS{na:Nat}{ra:Nat->Nat->AV}{regs par e p:Int}{cs:List In}{n:Nat}{L:Nat->List Nat}(hn:n<=100000)(hL:∀i,(L i).length<=100000)(hf:iB na regs cs=true)(h1:bA Try.prog 11 [ax na ra regs par cs] [.v (.fs 1 n (gC L)),.v (.n .i64 e)])(h2:bA Try.prog 12 [ax na ra regs par cs] [.v (.fs 1 n (gC L)),.v (.n .i64 e)])
  (h3:bA Try.prog 13 [ax na ra regs par cs] [.v (.n .i64 p),.v (.n .i64 e)]) (h4:bA Try.prog 14 [ax na ra regs par cs] [.v (.n .i64 p),.v (.n .i64 e)]):
  bA Try.prog 3 [ax na ra regs par cs] [.v (.b true)]:=by
 have hw:=ig na ra regs par cs
 rw[hf] at hw
 have hee:decide (e=e)=true:=decide_eq_true rfl
 have hpp:decide (p=p)=true:=decide_eq_true rfl
 refine aB aW CI ⟨by simp,by decide⟩ ?_
 simp only[bt,ax] at hw h1 h2 h3 h4 ⊢
 repeat first|with_reducible refine aw ?_|simp only[go_sem,simprocAttr]
 refine ao [] (.cons (.rfl (by rfl)) .nil) hw (by simp only[AH.mark_next,ae,au,av,am,ah,aj,af,ai,ag,List.length_cons,List.length_nil];decide) ?_
 repeat first|with_reducible refine aw ?_|simp only[go_sem,simprocAttr]
 refine ao [] (.cons (.rfl (by rfl)) .nil) h1 (by simp only[AH.mark_next,ae,au,av,am,ah,aj,af,ai,ag,List.length_cons,List.length_nil];decide) ?_
 repeat first|with_reducible refine aw ?_|simp only[go_sem,simprocAttr]
 refine ao [] (.cons (.rfl (by rfl)) .nil) h2 (by simp only[AH.mark_next,ae,au,av,am,ah,aj,af,ai,ag,List.length_cons,List.length_nil];decide) ?_
 repeat first|with_reducible refine aw ?_|simp only[go_sem,simprocAttr]
 refine ao [] (.cons (.rfl (by rfl)) .nil) h3 (by simp only[AH.mark_next,ae,au,av,am,ah,aj,af,ai,ag,List.length_cons,List.length_nil];decide) ?_
 repeat first|with_reducible refine aw ?_|simp only[go_sem,simprocAttr]
 refine ao [] (.cons (.rfl (by rfl)) .nil) h4 (by simp only[AH.mark_next,ae,au,av,am,ah,aj,af,ai,ag,List.length_cons,List.length_nil];decide) ?_
 repeat first|with_reducible refine aw ?_|simp only[go_sem,simprocAttr]
 refine ao [] (.cons (.rfl (by rfl)) (.cons (.rfl (by rfl)) (.cons (.rfl (by rfl)) .nil))) (iE n hn L hL) (by simp only[AH.mark_next,ae,au,av,am,ah,aj,af,ai,ag,List.length_cons,List.length_nil];decide) ?_
 repeat first|with_reducible refine aw ?_|simp only[hee,hpp,decide_true,go_sem,simprocAttr]
 refine ao [] .nil ik (by simp only[AH.mark_next,ae,au,av,am,ah,aj,af,ai,ag,List.length_cons,List.length_nil];decide) ?_
 repeat first|with_reducible refine aw ?_|simp only[go_sem,simprocAttr]
 exact bW rfl rfl
theorem eH{na:Nat}{ra:Nat->Nat->AV}{regs par e r:Int}{cs:List In}{l:List AV}(hf:iB na regs cs=true)(hl:l.length=4)(hp:(AV.agg l).pu 3=true)(ho:l.all AV.one=true)(hS:rE (.agg l))(h1:bA Try.prog 17 [ax na ra regs par cs,.n .i64 r] [.v (.agg l),.v (.n .i64 e)])(h2:bA Try.prog 18 [ax na ra regs par cs,.n .i64 r] [.v (.agg l),.v (.n .i64 e)]):
  bA Try.prog 4 [ax na ra regs par cs,.n .i64 r] [.v (.b true)]:=by
 have hw:=ig na ra regs par cs
 rw[hf] at hw
 have hee:decide (e=e)=true:=decide_eq_true rfl
 obtain⟨v2,v3,c2,c3,hS⟩:=hS
 obtain⟨a0,a1,a2,a3,rfl⟩:∃a0 a1 a2 a3,l=[a0,a1,a2,a3]:=by
  match l,hl with
  |[a0,a1,a2,a3],_=>exact⟨_,_,_,_,rfl⟩
 have ho2:(a0.one=true/\a1.one=true/\a2.one=true/\a3.one=true):=by simpa using ho
 refine aB aW CH ⟨by simp,by decide⟩ ?_
 simp only[bt,ax] at hw h1 h2 ⊢
 repeat first|with_reducible refine aw ?_|simp only[go_sem,simprocAttr]
 refine ao [] (.cons (.rfl (by rfl)) .nil) hw (by simp only[AH.mark_next,ae,au,av,am,ah,aj,af,ai,ag,List.length_cons,List.length_nil];decide) ?_
 repeat first|with_reducible refine aw ?_|simp only[go_sem,simprocAttr]
 refine ao [] (.cons (.rfl (by rfl)) (.cons (.rfl (by rfl)) .nil)) h1 (by simp only[AH.mark_next,ae,au,av,am,ah,aj,af,ai,ag,List.length_cons,List.length_nil];decide) ?_
 repeat first|with_reducible refine aw ?_|simp only[ho2.1,ho2.2.1,ho2.2.2.1,ho2.2.2.2,go_sem,simprocAttr]
 refine ao [] (.cons (.rfl (by rfl)) (.cons (.rfl (by rfl)) .nil)) h2 (by simp only[AH.mark_next,ae,au,av,am,ah,aj,af,ai,ag,List.length_cons,List.length_nil];decide) ?_
 repeat first|with_reducible refine aw ?_|simp only[ho2.1,ho2.2.1,ho2.2.2.1,ho2.2.2.2,go_sem,simprocAttr]
 refine ao [] (.cons (c2 _) (.cons (c3 _) .nil)) hS (by simp only[AH.mark_next,ae,au,av,am,ah,aj,af,ai,ag,List.length_cons,List.length_nil];decide) ?_
 repeat first|with_reducible refine aw ?_|simp only[hee,decide_true,go_sem,simprocAttr]
 refine ao [] .nil ik (by simp only[AH.mark_next,ae,au,av,am,ah,aj,af,ai,ag,List.length_cons,List.length_nil];decide) ?_
 repeat first|with_reducible refine aw ?_|simp only[go_sem,simprocAttr]
 exact bW rfl rfl
section
variable (la:List (Bool×Int)) (regs par:Int) (cs:List In) (ha:oa cs)
include ha
theorem Ru:bA Try.prog 3 [ax la.length (aC la) regs par cs] [.v (.b true)]:=by
 cases hf:iB la.length regs cs
 ·exact y6 hf
 have hfew:=uk hf
 by_cases hz:(gk la regs par cs).2=0
 ·have h:=(bZ hz).nregs
  obtain⟨R,rfl⟩:∃R:Nat,regs=R:=⟨regs.toNat,by omega⟩
  exact nS (by omega) (λi=>by have:=j9 cs (bO cs (dm cs)) R i;omega) hf (Au hz ha) (Ap hz ha) (ol hz ha) (tr hz ha)
 ·have hA:=yy la regs par cs (by omega) (by omega) ha hz (λ_=>[])
  have hB:=uZ la.length (aC la) regs par _ cs _ hz (iM la regs par cs (by omega) (by omega) ha) (λ_=>[])
  have hP:=jk la.length (aC la) regs par cs (λ_=>[]) 0 (by omega) _ (λi=>by simp) hA
  exact nS (by omega) (λi=>by simp) hf hA hB hP (mW la.length (aC la) regs par _ cs _ hz hB)
theorem vJ(r:Int):bA Try.prog 4 [ax la.length (aC la) regs par cs,.n .i64 r] [.v (.b true)]:=by
 cases hf:iB la.length regs cs
 ·exact vZ hf
 have hfew:=uk hf
 by_cases hz:(gk la regs par cs).2=0
 ·have h:=(bZ hz).nregs
  obtain⟨R,rfl⟩:∃R:Nat,regs=R:=⟨regs.toNat,by omega⟩
  by_cases hr:r<4\/1024<r
  ·exact eH hf rfl rfl rfl .zero (rA la.length (aC la) R par r cs _ hr (pP hz ha)) (oK la.length (aC la) R par r cs _ hr (lm hz ha))
  obtain⟨n,rfl⟩:∃n:Nat,r=n:=⟨r.toNat,by omega⟩
  by_cases hn:eU cs R<=n
  ·exact eH hf rfl rfl rfl (.code (by omega) (by rw[List.length_map];omega)) (oq hz ha (by omega) hn) (tv hz ha (by omega) hn)
  ·have h1:=oo hz ha (r:=n) (by omega) (by omega)
   have h2:=tu hz ha (r:=n) (by omega) (by omega)
   have hl:=qh (i4 cs R) ((n:Int)-3) par cs
   split at h1
   ·rename_i hc
    rw[if_pos hc] at h2
    exact eH hf rfl rfl rfl .zero h1 h2
   ·rename_i hc
    rw[if_neg hc] at h2
    exact eH hf rfl rfl rfl (.code (by omega) (by omega)) h1 h2
 ·exact eH hf rfl rfl rfl .zero (wu la.length (aC la) regs par _ r cs _ hz (ij la regs par cs (by omega) (by omega) ha)) (r7 la.length (aC la) regs par _ r cs _ hz (iM la regs par cs (by omega) (by omega) ha))
end
end Go.Proofs.Yteopfmnnhlhbmaa