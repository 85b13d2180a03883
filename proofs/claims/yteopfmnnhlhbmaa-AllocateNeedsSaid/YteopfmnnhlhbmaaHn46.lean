/- A part of the proof of AllocateNeeds: AlE AlF AlG AlH AzA EqA AzB LcA. No condition. -/
import Derived.Test.YteopfmnnhlhbmaaHn17
import Derived.Test.YteopfmnnhlhbmaaHn35
import Derived.Test.YteopfmnnhlhbmaaHn45
import Derived.Test.YteopfmnnhlhbmaaHn33
import Derived.Test.YteopfmnnhlhbmaaHn13
import Derived.Test.YteopfmnnhlhbmaaHn16
set_option linter.unusedSimpArgs false
set_option linter.unusedVariables false
set_option linter.constructorNameAsVariable false
set_option maxRecDepth 100000
set_option maxHeartbeats 4000000
namespace Go.Proofs.Yteopfmnnhlhbmaa
open Go.RowKit
theorem dF{cd:List RI}{pr:List Int}:∀(t:T) (w:Bool) (d k:Nat) (e:Int),t.wf w d->gb cd k t.flat->we pr k (t.rq k e)->(w=true->0<=e)->∀q,k<=q->q<k+t.size->dN (aq cd q)->
  0<=pr.getD q 0/\(aq cd q=27->∃p:Nat,pr.getD q 0=(p:Int)/\(aq cd p=31->pr.getD p 0=(q:Int)))
 |.nil,w,d,k,e,hw,hc,hp,he,q,h1,h2,hb=>by simp only[T.size] at h2;omega
 |.plain i r,w,d,k,e,hw,hc,hp,he,q,h1,h2,hb=>by
  obtain⟨⟨g1,g2,g3,g4⟩,g5,g6⟩:=hw
  simp only[T.size] at h2
  have hi:aq cd k=i.op:=by show(cd.getD k default).op=_;rw[hc.head]
  by_cases eq:q=k
  ·subst eq
   rw[hp.head]
   rw[hi] at hb ⊢
   have h30:i.op=30:=by unfold dN at hb;omega
   rw[if_pos h30]
   exact⟨he (g5 h30),λh=>by omega⟩
  ·exact dF r w d (k+1) e g6 hc.tail hp.tail he q (by omega) (by omega) hb
 |.ite i a j r,w,d,k,e,hw,hc,hp,he,q,h1,h2,hb=>by
  obtain⟨g1,g2,g3,g4,g5⟩:=hw
  simp only[T.size] at h2
  have hi:aq cd k=i.op:=by show(cd.getD k default).op=_;rw[hc.head]
  have hal:a.flat.length=a.size:=a.flat_length
  have hql:(a.rq (k+1) e).length=a.size:=a.rq_length _ _
  have hcr:=hc.tail.right
  have hpr:=hp.tail.right
  rw[hal] at hcr
  rw[hql] at hpr
  have hj:aq cd (k+1+a.size)=j.op:=by show(cd.getD (k+1+a.size) default).op=_;rw[hcr.head]
  have hpk:=hp.head
  have hpj:=hpr.head
  by_cases e1:q=k
  ·subst e1
   rw[hpk]
   refine⟨by omega,λ_=>⟨q+a.size+1,rfl,λ_=>?_⟩⟩
   rw[show q+a.size+1=q+1+a.size by omega,hpj]
  by_cases e2:q<k+1+a.size
  ·exact dF a w _ (k+1) e g4 hc.tail.left hp.tail.left he q (by omega) (by omega) hb
  by_cases e3:q=k+1+a.size
  ·subst e3
   rw[hpj,hj,g2]
   exact⟨by omega,λh=>by omega⟩
  ·have:=hpr.tail
   rw[show k+1+a.size+1=k+a.size+2 by omega] at this
   have hc2:=hcr.tail
   rw[show k+1+a.size+1=k+a.size+2 by omega] at hc2
   exact dF r w d (k+a.size+2) e g5 hc2 this he q (by omega) (by omega) hb
 |.ite2 i a x b j r,w,d,k,e,hw,hc,hp,he,q,h1,h2,hb=>by
  obtain⟨g1,g2,g3,g4,g5,g6,g7⟩:=hw
  simp only[T.size] at h2
  have hal:a.flat.length=a.size:=a.flat_length
  have hbl:b.flat.length=b.size:=b.flat_length
  have hql:(a.rq (k+1) e).length=a.size:=a.rq_length _ _
  have hqb:(b.rq (k+a.size+2) e).length=b.size:=b.rq_length _ _
  have hcr:=hc.tail.right
  have hpr:=hp.tail.right
  rw[hal] at hcr
  rw[hql] at hpr
  have hx:aq cd (k+1+a.size)=x.op:=by show(cd.getD (k+1+a.size) default).op=_;rw[hcr.head]
  have hpk:=hp.head
  have hpx:=hpr.head
  have hcr2:=hcr.tail
  have hpr2:=hpr.tail
  rw[show k+1+a.size+1=k+a.size+2 by omega] at hcr2 hpr2
  have hcr3:=hcr2.right
  have hpr3:=hpr2.right
  rw[hbl] at hcr3
  rw[hqb] at hpr3
  have hj:aq cd (k+a.size+2+b.size)=j.op:=by show(cd.getD (k+a.size+2+b.size) default).op=_;rw[hcr3.head]
  have hpj:=hpr3.head
  by_cases e1:q=k
  ·subst e1
   rw[hpk]
   refine⟨by omega,λ_=>⟨q+a.size+1,rfl,λh=>?_⟩⟩
   rw[show q+a.size+1=q+1+a.size by omega,hx,g2] at h
   omega
  by_cases e2:q<k+1+a.size
  ·exact dF a w _ (k+1) e g5 hc.tail.left hp.tail.left he q (by omega) (by omega) hb
  by_cases e3:q=k+1+a.size
  ·subst e3
   rw[hpx,hx,g2]
   exact⟨by omega,λh=>by omega⟩
  by_cases e4:q<k+a.size+2+b.size
  ·exact dF b w _ (k+a.size+2) e g6 hcr2.left hpr2.left he q (by omega) (by omega) hb
  by_cases e5:q=k+a.size+2+b.size
  ·subst e5
   rw[hpj,hj,g3]
   exact⟨by omega,λh=>by omega⟩
  ·have h3:=hpr3.tail
   rw[show k+a.size+2+b.size+1=k+a.size+b.size+3 by omega] at h3
   have h4:=hcr3.tail
   rw[show k+a.size+2+b.size+1=k+a.size+b.size+3 by omega] at h4
   exact dF r w d (k+a.size+b.size+3) e g7 h4 h3 he q (by omega) (by omega) hb
 |.loop i a j r,w,d,k,e,hw,hc,hp,he,q,h1,h2,hb=>by
  obtain⟨g1,g2,g3,g4,g5⟩:=hw
  simp only[T.size] at h2
  have hi:aq cd k=i.op:=by show(cd.getD k default).op=_;rw[hc.head]
  have hal:a.flat.length=a.size:=a.flat_length
  have hql:(a.rq (k+1) ((k+a.size+1:Nat):Int)).length=a.size:=a.rq_length _ _
  have hcr:=hc.tail.right
  have hpr:=hp.tail.right
  rw[hal] at hcr
  rw[hql] at hpr
  have hj:aq cd (k+1+a.size)=j.op:=by show(cd.getD (k+1+a.size) default).op=_;rw[hcr.head]
  have hpk:=hp.head
  have hpj:=hpr.head
  by_cases e1:q=k
  ·subst e1
   rw[hpk,hi,g1]
   exact⟨by omega,λh=>by omega⟩
  by_cases e2:q<k+1+a.size
  ·exact dF a true _ (k+1) _ g4 hc.tail.left hp.tail.left (λ_=>by omega) q (by omega) (by omega) hb
  by_cases e3:q=k+1+a.size
  ·subst e3
   rw[hpj,hj,g2]
   exact⟨by omega,λh=>by omega⟩
  ·have h3:=hpr.tail
   rw[show k+1+a.size+1=k+a.size+2 by omega] at h3
   have h4:=hcr.tail
   rw[show k+1+a.size+1=k+a.size+2 by omega] at h4
   exact dF r w d (k+a.size+2) e g5 h4 h3 he q (by omega) (by omega) hb
def cL(cs:List In)(i:Nat):Nat:=((jK cs).getD i 0).toNat
structure Pj(cs:List In):Prop where
 len:(jK cs).length=cs.length
 at_:∀i,i<cs.length->dN (bU cs i)->(jK cs).getD i 0=(cL cs i:Int)/\cL cs i<cs.length
 back:∀i,i<cs.length->bU cs i=27->bU cs (cL cs i)=31->cL cs (cL cs i)=i
theorem zZ.pok{la:List (Bool×Int)}{regs par:Int}{cs:List In}(h:zZ la regs par cs):Pj cs:=by
 obtain⟨_,hl,_,t,ht,hw,he⟩:=h.pt
 have hs:cs.length=t.size:=by rw[<-t.flat_length,<-ht,List.length_map]
 have hfact:=dF (cd:=cs.map bq) (pr:=jK cs) t false 8 0 0 hw (by rw[ht];exact λj hj=>by simp) (by rw[he];exact λj hj=>by simp) (λh=>by cases h)
 have hrng:=fM (n:=(cs.length:Int)) t 0 0
 have hat:∀i,i<cs.length->dN (bU cs i)->(jK cs).getD i 0=(cL cs i:Int)/\cL cs i<cs.length:=λi hi hb=>by
  have h1:=(hfact i (Nat.zero_le _) (by omega) (by rw[dW];exact hb)).1
  have hm:(jK cs).getD i 0 ∈ t.rq 0 0:=by rw[<-he,List.getD_eq_getElem?_getD,List.getElem?_eq_getElem (by omega)];exact List.getElem_mem _
  have h2:=hrng ⟨by omega,by omega⟩ (by omega) _ hm
  unfold cL
  omega
 refine⟨hl,hat,λi hi h27 h31=>?_⟩
 obtain⟨p,h1,h2⟩:=(hfact i (Nat.zero_le _) (by omega) (by rw[dW];exact .inl h27)).2 (by rw[dW];exact h27)
 obtain⟨h3,h4⟩:=hat i hi (.inl h27)
 have hpp:cL cs i=p:=by omega
 rw[hpp] at h31 ⊢
 have:=h2 (by rw[dW];exact h31)
 unfold cL
 omega
theorem rL{op a b:Int}(h:op=28\/op=31):aA op a b=[]:=by
 rcases h with rfl|rfl<;>rfl
theorem gm{op to:Int}(h:dN op):a8 op to= -1:=by
 unfold dN at h
 rcases h with rfl|rfl|rfl|rfl|rfl<;>rfl
theorem lI{op a b r:Int}:r ∈ aA op a b↔(F5 op=true/\r=a)\/(F4 op=true/\r=b):=by
 have e:aA op a b=(if F5 op then[a] else[])++(if F4 op then[b] else[]):=rfl
 rw[e,List.mem_append]
 cases F5 op<;>cases F4 op<;>simp
theorem gY{x:In}{r:Int}:r ∈ b8 x↔(F5 x.1=true/\r=x.2.2.1)\/(F4 x.1=true/\r=x.2.2.2.1)\/r=a8 x.1 x.2.1:=by
 unfold b8
 rw[List.mem_append,lI,List.mem_singleton,or_assoc]
theorem te.reads{regs par nA:Int}{x:In}(h:te regs par nA x):∀r ∈ aA x.1 x.2.2.1 x.2.2.2.1,0<=r/\r<regs:=by
 intro r hr
 rcases lI.1 hr with⟨h1,rfl⟩|⟨h1,rfl⟩
 ·have:=h.a;rwa [if_pos h1] at this
 ·have:=h.b;rwa [if_pos h1] at this
theorem te.writes{regs par nA:Int}{x:In}(h:te regs par nA x)(h0:0<=regs):a8 x.1 x.2.1<regs/\ -1<=a8 x.1 x.2.1:=by
 have:=h.to
 unfold a8
 split
 ·rename_i hu;rw[if_pos hu] at this;omega
 ·omega
theorem te.uses{regs par nA:Int}{x:In}(h:te regs par nA x)(h0:0<=regs):∀r ∈ b8 x,r<regs:=by
 intro r hr
 rcases gY.1 hr with⟨h1,rfl⟩|⟨h1,rfl⟩|rfl
 ·have:=h.a;rw[if_pos h1] at this;omega
 ·have:=h.b;rw[if_pos h1] at this;omega
 ·exact(h.writes h0).1
theorem te.regs3{regs par nA:Int}{x:In}(h:te regs par nA x):(x.2.1= -1\/(0<=x.2.1/\x.2.1<regs/\x.2.1 ∈ b8 x))/\(x.2.2.1= -1\/(0<=x.2.2.1/\x.2.2.1<regs/\x.2.2.1 ∈ b8 x))/\(x.2.2.2.1= -1\/(0<=x.2.2.2.1/\x.2.2.2.1<regs/\x.2.2.2.1 ∈ b8 x)):=by
 refine⟨?_,?_,?_⟩
 ·have:=h.to
  split at this
  ·rename_i hu
   refine .inr ⟨this.1,this.2,gY.2 (.inr (.inr ?_))⟩
   unfold a8;rw[if_pos hu]
  ·exact .inl this
 ·have:=h.a
  split at this
  ·rename_i hu;exact .inr ⟨this.1,this.2,gY.2 (.inl ⟨hu,rfl⟩)⟩
  ·exact .inl this
 ·have:=h.b
  split at this
  ·rename_i hu;exact .inr ⟨this.1,this.2,gY.2 (.inr (.inl ⟨hu,rfl⟩))⟩
  ·exact .inl this
/-! ### the same live registers-/
section
variable {cs:List In}
theorem jk{pt:Nat->Nat}{i:Nat}(h:¬bU cs i=27){k:Nat}:k ∈ nxt cs pt i↔k ∈ bE cs pt i:=by
 unfold nxt bE
 generalize bU cs i=op at*
 by_cases h1:op=29
 ·subst h1;simp
 by_cases h2:op=30
 ·subst h2;simp
 by_cases h3:op=28
 ·subst h3;simp
 by_cases h4:op=31
 ·subst h4
  simp only[show ¬(31:Int)=27 by decide,show ¬(31:Int)=29 by decide,show ¬(31:Int)=30 by decide,show ¬(31:Int)=28 by decide,or_self,if_false,if_true]
  split
  ·simp only[List.mem_cons,List.not_mem_nil,or_false]
   exact or_comm
  ·exact Iff.rfl
 ·simp[h,h1,h2,h3,h4]
theorem rV{pt:Nat->Nat}{i:Nat}(h:bU cs i=27):nxt cs pt i=[i+1,if bU cs (pt i)=31 then pt i else pt i+1]/\bE cs pt i=[i+1,pt i+1]:=by
 unfold nxt bE
 constructor
 ·rw[if_pos h]
 ·simp[h]
theorem qv(hp:Pj cs){i:Nat}(hi:i<cs.length)(h27:bU cs i=27)(h31:bU cs (cL cs i)=31){r:Int}(hr:0<=r){nx:Nat->List Nat}(hnx:∀j,bU cs j=31->¬bU cs (cL cs j)=29->nx j=[j+1]):
  bn cs nx (cL cs i) r↔bn cs nx (cL cs i+1) r:=by
 have hb:=hp.back i hi h27 h31
 have hl:=(hp.at_ i hi (.inl h27)).2
 have hn:nx (cL cs i)=[cL cs i+1]:=hnx _ h31 (by rw[hb,h27];decide)
 have hrd:aA (cs.getD (cL cs i) (0,0,0,0,0)).1 (cs.getD (cL cs i) (0,0,0,0,0)).2.2.1 (cs.getD (cL cs i) (0,0,0,0,0)).2.2.2.1=[]:=rL (.inr h31)
 have hwr:a8 (cs.getD (cL cs i) (0,0,0,0,0)).1 (cs.getD (cL cs i) (0,0,0,0,0)).2.1= -1:=gm (.inr (.inr (.inr (.inr h31))))
 constructor
 ·intro h
  generalize hj:cL cs i=j at*
  cases h with
  |read _ h2=>rw[hrd] at h2;cases h2
  |@flow _ k _ _ hk h _=>
   rw[hn] at hk
   simp at hk
   subst hk
   exact h
 ·intro h
  exact .flow hl (by rw[hn];simp) h (by rw[hwr];omega)
theorem GO(pt:Nat->Nat)(j:Nat)(h:bU cs j=31)(h2:¬bU cs (pt j)=29):nxt cs pt j=[j+1]:=by
 unfold nxt
 simp[h,h2]
theorem AR(pt:Nat->Nat)(j:Nat)(h:bU cs j=31)(h2:¬bU cs (pt j)=29):bE cs pt j=[j+1]:=by
 unfold bE
 simp[h,h2]
theorem cV(hp:Pj cs){R:Nat}(hR:∀x ∈ cs,∀r ∈ aA x.1 x.2.2.1 x.2.2.2.1,0<=r/\r<(R:Int)){i:Nat}{r:Int}:bn cs (nxt cs (cL cs)) i r↔bn cs (bE cs (cL cs)) i r:=by
 constructor
 ·intro h
  induction h with
  |read hi h=>exact .read hi h
  |@flow i k r hi hk h hw ih=>
   by_cases h27:bU cs i=27
   ·obtain⟨e1,e2⟩:=rV (pt:=cL cs) h27
    rw[e1] at hk
    by_cases h31:bU cs (cL cs i)=31
    ·rw[if_pos h31] at hk
     simp only[List.mem_cons,List.not_mem_nil,or_false] at hk
     rcases hk with rfl|rfl
     ·exact .flow hi (by rw[e2];simp) ih hw
     ·exact .flow hi (by rw[e2];simp) ((qv hp hi h27 h31 (ih.range hR).1 (λj=>AR _ j)).1 ih) hw
    ·rw[if_neg h31] at hk
     exact .flow hi (by rw[e2];exact hk) ih hw
   ·exact .flow hi ((jk h27).1 hk) ih hw
 ·intro h
  induction h with
  |read hi h=>exact .read hi h
  |@flow i k r hi hk h hw ih=>
   by_cases h27:bU cs i=27
   ·obtain⟨e1,e2⟩:=rV (pt:=cL cs) h27
    rw[e2] at hk
    simp only[List.mem_cons,List.not_mem_nil,or_false] at hk
    rcases hk with rfl|rfl
    ·exact .flow hi (by rw[e1];simp) ih hw
    ·by_cases h31:bU cs (cL cs i)=31
     ·exact .flow hi (by rw[e1,if_pos h31];simp) ((qv hp hi h27 h31 (ih.range hR).1 (λj=>GO _ j)).2 ih) hw
     ·exact .flow hi (by rw[e1,if_neg h31];simp) ih hw
   ·exact .flow hi ((jk h27).2 hk) ih hw
theorem sj(hp:Pj cs){R:Nat}(hR:∀x ∈ cs,∀r ∈ aA x.1 x.2.2.1 x.2.2.2.1,0<=r/\r<(R:Int)):dj cs (nxt cs (cL cs)) R=dj cs (bE cs (cL cs)) R:=by
 funext i
 unfold dj
 congr 1
 funext r
 exact decide_eq_decide.2 (cV hp hR)
theorem vx(hp:Pj cs){R:Nat}(hR:∀x ∈ cs,∀r ∈ aA x.1 x.2.2.1 x.2.2.2.1,0<=r/\r<(R:Int)){p q:Int}:f9 cs (nxt cs (cL cs)) p q↔f9 cs (bE cs (cL cs)) p q:=by
 have hs:∀i k,0<=ni cs i->(k ∈ nxt cs (cL cs) i↔k ∈ bE cs (cL cs) i):=λi k hw=>jk (λh27=>by
  have:ni cs i= -1:=gm (.inl h27)
  omega)
 unfold f9
 constructor
 ·rintro (⟨h1,h2,h3⟩|⟨i,k,h1,h2,h3,h4⟩)
  ·exact .inl ⟨h1,(cV hp hR).1 h2,(cV hp hR).1 h3⟩
  ·refine .inr ⟨i,k,h1,(hs i k h3).1 h2,h3,?_⟩
   rcases h4 with⟨a,b,c⟩|⟨a,b,c⟩
   ·exact .inl ⟨a,b,(cV hp hR).1 c⟩
   ·exact .inr ⟨a,b,(cV hp hR).1 c⟩
 ·rintro (⟨h1,h2,h3⟩|⟨i,k,h1,h2,h3,h4⟩)
  ·exact .inl ⟨h1,(cV hp hR).2 h2,(cV hp hR).2 h3⟩
  ·refine .inr ⟨i,k,h1,(hs i k h3).2 h2,h3,?_⟩
   rcases h4 with⟨a,b,c⟩|⟨a,b,c⟩
   ·exact .inl ⟨a,b,(cV hp hR).2 c⟩
   ·exact .inr ⟨a,b,(cV hp hR).2 c⟩
theorem f9.range{nx:Nat->List Nat}{R:Nat}(hR:∀x ∈ cs,∀r ∈ aA x.1 x.2.2.1 x.2.2.2.1,0<=r/\r<(R:Int))(hW:∀x ∈ cs,a8 x.1 x.2.1<(R:Int)){p q:Int}(h:f9 cs nx p q):(0<=p/\p<(R:Int))/\(0<=q/\q<(R:Int)):=by
 have hw:∀i,i<cs.length->ni cs i<(R:Int):=λi hi=>hW _ (by rw[List.getD_eq_getElem?_getD,List.getElem?_eq_getElem hi];exact List.getElem_mem hi)
 rcases h with⟨_,h2,h3⟩|⟨i,k,h1,h2,h3,⟨h4,h5,h6⟩|⟨h4,h5,h6⟩⟩
 ·exact⟨h2.range hR,h3.range hR⟩
 ·have:=hw i h1;exact⟨by omega,h6.range hR⟩
 ·have:=hw i h1;exact⟨h6.range hR,by omega⟩
/-! ### the same names-/
theorem jV(R:Nat):bL cs (R+1)=if dm cs (R:Int)=true then bL cs R++[R] else bL cs R:=by
 unfold bL
 rw[List.range_succ,List.filter_append]
 cases h:dm cs (R:Int)<;>simp[h]
theorem qZ:∀R,vQ (λr=>dm cs (r:Int)) R=(bL cs R).length
 |0=>rfl
 |R+1=>by
  rw[jV]
  unfold vQ
  rw[qZ R]
  split
  ·rw[List.length_append,List.length_singleton]
  ·rfl
theorem tK{l l2:List Nat}:∀{k:Nat},k<=l.length->mO (l++l2) k=mO l k
 |0,_=>rfl
 |k+1,h=>by
  unfold mO
  rw[tK (by omega),List.getD_eq_getElem?_getD,List.getElem?_append_left (by omega),<-List.getD_eq_getElem?_getD]
theorem tJ:∀(R v:Nat),v<R->dm cs (v:Int)=true->mO (bL cs R) (bL cs R).length (v:Int)=some ((vQ (λr=>dm cs (r:Int)) v:Nat):Int)
 |0,v,h,_=>by omega
 |R+1,v,h,ho=>by
  rw[jV]
  by_cases e:v=R
  ·subst e
   rw[if_pos ho,List.length_append,List.length_singleton]
   unfold mO
   rw[if_pos (by rw[List.getD_eq_getElem?_getD,List.getElem?_append_right (Nat.le_refl _),Nat.sub_self];rfl),qZ]
  ·have ih:=tJ R v (by omega) ho
   split
   ·rw[List.length_append,List.length_singleton]
    unfold mO
    rw[if_neg (by rw[List.getD_eq_getElem?_getD,List.getElem?_append_right (Nat.le_refl _),Nat.sub_self];simp;omega),tK (Nat.le_refl _),ih]
   ·exact ih
theorem A0{l:List Nat}{k:Nat}{v:Int}(hv:v<0):mO l k v=none:=by
 cases hx:mO l k v with
 |none=>rfl
 |some y=>obtain⟨i,h1,h2,_⟩:=lM hx;omega
theorem yZ(f:Nat->Bool)(R r:Nat)(h:r<R):(BK f R).getD r 0=((vQ f r:Nat):Int):=by
 unfold BK
 rw[List.getD_eq_getElem?_getD,List.getElem?_map,List.getElem?_range h]
 rfl
theorem lQ{nm:Int->Option Int}{nl:List Int}{x:In}{regs par nA:Int}(h:te regs par nA x)(hneg:nm (-1)=none)(hyes:∀v:Int,0<=v->v<regs->v ∈ b8 x->nm v=some (nl.getD v.toNat 0)):eM nm x=pW nl x:=by
 obtain⟨h1,h2,h3⟩:=h.regs3
 have key:∀v:Int,(v= -1\/(0<=v/\v<regs/\v ∈ b8 x))->fN nm v=ja nl v:=λv hv=>by
  unfold fN ja
  rcases hv with rfl|⟨g1,g2,g3⟩
  ·rw[hneg,if_pos (by decide)];rfl
  ·rw[hyes v g1 g2 g3,if_neg (by omega)];rfl
 unfold eM pW
 rw[key _ h1,key _ h2,key _ h3]
theorem tF{x:In}(hx:x ∈ cs){r:Int}(h:r ∈ b8 x):dm cs r=true:=by
 unfold dm
 rw[List.any_eq_true]
 exact⟨x,hx,List.contains_iff_mem.2 h⟩
theorem pd{regs:Nat}{par nA:Int}(hin:∀x ∈ cs,te regs par nA x):cs.map (eM (mO (bL cs regs) (bL cs regs).length))=cs.map (pW (BK (λr=>dm cs (r:Int)) regs)):=by
 refine List.map_congr_left (λx hx=>lQ (hin x hx) (A0 (by decide)) (λv h0 h1 hv=>?_))
 obtain⟨n,rfl⟩:∃n:Nat,v=n:=⟨v.toNat,by omega⟩
 rw[tJ regs n (by omega) (tF hx hv),Int.toNat_natCast,yZ _ _ _ (by omega)]
end
end Go.Proofs.Yteopfmnnhlhbmaa
namespace Go.Proofs.Yteopfmnnhlhbmaa
open Go.RowKit
theorem nS{P:Program}{f:FuncId}{args:List AV}{Pr:(Nat->Option OB)->Prop}{Post Post':(Nat->Option OB)->List RT->(Nat->Option OB)->Prop}(h:iw P f args Pr Post)(hp:∀M rs N,Post M rs N->Post' M rs N):iw P f args Pr Post':=λM hM=>
 ⟨(h M hM).1,λφ w args' a b c=>((h M hM).2 φ w args' a b c).mono λe w' hq=>by
  cases e with
  |panicked c=>exact hq.elim
  |outgrown=>exact hq.elim
  |returned u=>
   obtain⟨v,Hc,σ',⟨rs,N,l,q1,q2⟩,q3⟩:=hq
   exact⟨v,Hc,σ',⟨rs,N,l,hp _ _ _ q1,q2⟩,q3⟩⟩
theorem nY{K:Nat->Nat}{l l2:List Nat}:∀{k:Nat},k<=l.length->cK K (l++l2) k=cK K l k
 |0,_=>rfl
 |k+1,h=>by
  unfold cK
  rw[nY (by omega),List.getD_eq_getElem?_getD,List.getElem?_append_left (by omega),<-List.getD_eq_getElem?_getD]
theorem nX{cs:List In}{K:Nat->Nat}:∀R,cK K (bL cs R) (bL cs R).length=mq K (λr=>dm cs (r:Int)) R
 |0=>rfl
 |R+1=>by
  rw[jV]
  unfold mq
  have ih:=nX (cs:=cs) (K:=K) R
  split
  ·rw[List.length_append,List.length_singleton]
   unfold cK
   rw[nY (Nat.le_refl _),ih,List.getD_eq_getElem?_getD,List.getElem?_append_right (Nat.le_refl _),Nat.sub_self]
   rfl
  ·exact ih
theorem iB{cs:List In}{R i:Nat}(h:i<(bL cs R).length):(bL cs R).getD i 0<R/\dm cs (((bL cs R).getD i 0:Nat):Int)=true:=by
 rw[<-gy,List.getD_eq_getElem?_getD,List.getElem?_eq_getElem h]
 exact List.getElem_mem h
theorem u6{cs:List In}{R:Nat}{T:Int->List Int}{nb:Nat->Nat->Prop}(hT:∀a b,a<R->b<R->(((b:Nat):Int) ∈ T (a:Int)↔nb a b)){K K0:Nat->Nat}(h:zT T (bL cs R) K (bL cs R).length)(h0:rB (λr=>dm cs (r:Int)) nb R K0):
  ∀i,i<(bL cs R).length->K ((bL cs R).getD i 0)=K0 ((bL cs R).getD i 0):=by
 intro i
 induction i using Nat.strongRecOn with
 |_ i ih=>
  intro hi
  obtain⟨m1,m2⟩:=iB hi
  refine(h i hi).uniq ((h0.yes _ m1 m2).congr (λc=>?_))
  constructor
  ·rintro ⟨s,h1,h2,h3,h4⟩
   have hm:s ∈ bL cs R:=gy.2 ⟨by omega,h2⟩
   obtain⟨j,hj,e⟩:=List.getElem_of_mem hm
   have e2:(bL cs R).getD j 0=s:=by rw[List.getD_eq_getElem?_getD,List.getElem?_eq_getElem hj,e];rfl
   have hji:j<i:=by
    rcases Nat.lt_trichotomy j i with g|g|g
    ·exact g
    ·subst g;omega
    ·have:=oQ (cM cs R) g hj;omega
   exact⟨j,hji,by rw[e2];exact(hT _ _ m1 (by omega)).2 h3,by rw[ih j hji hj,e2];exact h4⟩
  ·rintro ⟨j,h1,h2,h3⟩
   have hj:j<(bL cs R).length:=by omega
   obtain⟨n1,n2⟩:=iB hj
   exact⟨_,oQ (cM cs R) h1 hi,n2,(hT _ _ m1 n1).1 h2,by rw[<-ih j h1 hj];exact h3⟩
noncomputable def A4(cs:List In)(nx:Nat->List Nat)(R:Nat)(p:Int):List Int:=((List.range R).filter λq:Nat=> @decide (f9 cs nx p (q:Int)) (Classical.propDecidable _)).map λq:Nat=>(q:Int)
theorem tM{cs:List In}{nx:Nat->List Nat}{R:Nat}{p q:Int}:q ∈ A4 cs nx R p↔(0<=q/\q<(R:Int))/\f9 cs nx p q:=by
 unfold A4
 simp only[List.mem_map,List.mem_filter,List.mem_range]
 constructor
 ·rintro ⟨n,⟨h1,h2⟩,rfl⟩
  rw[@decide_eq_true_iff _ (Classical.propDecidable _)] at h2
  exact⟨by omega,h2⟩
 ·rintro ⟨h1,h2⟩
  obtain⟨n,rfl⟩:∃n:Nat,q=n:=⟨q.toNat,by omega⟩
  exact⟨n,⟨by omega,by rw[@decide_eq_true_iff _ (Classical.propDecidable _)];exact h2⟩,rfl⟩
theorem uW(cs:List In)(nx:Nat->List Nat)(R:Nat)(p:Int):(A4 cs nx R p).Nodup:=by
 unfold A4
 exact List.Pairwise.map _ (λa b h e=>h (by omega)) (List.Pairwise.filter _ List.nodup_range)
theorem A3(cs:List In)(nx:Nat->List Nat)(R:Nat)(p:Int):(A4 cs nx R p).length<=R:=by
 unfold A4
 rw[List.length_map]
 have:=List.length_filter_le (λq:Nat=> @decide (f9 cs nx p (q:Int)) (Classical.propDecidable _)) (List.range R)
 rw[List.length_range] at this
 exact this
section
variable {la:List (Bool×Int)} {R:Nat} {par:Int} {cs:List In} (hz:(fy la R par cs).2=0) (ha:gV cs)
include hz
theorem HK:∀x ∈ cs,te R par la.length x:=λx hx=>yg ((cw hz).ins x hx)
theorem aR:R<=1024:=by have:=(cw hz).nregs;omega
theorem RX:0<=par/\par<=1024:=by
 have h:=hz
 unfold fy bA at h
 split at h
 ·simp at h
 split at h
 ·simp at h
 split at h
 ·simp at h
 rename_i hr
 omega
theorem B4:∀x ∈ cs,0<=x.1/\x.1<39:=λx hx=>(HK hz x hx).op
theorem kd:∀x ∈ cs,∀r ∈ aA x.1 x.2.2.1 x.2.2.2.1,0<=r/\r<(R:Int):=λx hx=>(HK hz x hx).reads
theorem B2:∀x ∈ cs,a8 x.1 x.2.1<(R:Int):=λx hx=>((HK hz x hx).writes (by omega)).1
theorem Pe:∀x ∈ cs,∀r ∈ b8 x,r<(R:Int):=λx hx=>(HK hz x hx).uses (by omega)
theorem zQ:bR Try.prog 66 [.fs 5 cs.length (cC cs)] [.v (.fs 1 cs.length (gC (nxt cs (cL cs))))]:=by
 have h:=cw hz
 obtain⟨_,hl,_,t,ht,hw,he⟩:=h.pt
 have hs:cs.length=t.size:=by rw[<-t.flat_length,<-ht,List.length_map]
 refine vA cs h.ncs (cI (cs.map bq) (cs.map bq).length 0 ⟨[],[],λ_=>[],λ_=>none⟩).pm (cL cs) (λi hi hb=>?_) (sX cs h.ncs h.nest)
 obtain⟨g1,g2⟩:=h.pok.at_ i hi hb
 refine⟨?_,g2⟩
 rw[ht,vU t hw,if_pos ⟨by omega,by omega,by rw[Int.toNat_natCast,<-ht,dW];exact hb⟩,Int.toNat_natCast,<-he,g1]
theorem aNx:∀i,i<cs.length->∀k ∈ nxt cs (cL cs) i,k<=cs.length:=λi hi k hk=>by
 have hp:=(cw hz).pok
 by_cases h27:bU cs i=27
 ·rw[(rV h27).1] at hk
  have:=(hp.at_ i hi (.inl h27)).2
  simp only[List.mem_cons,List.not_mem_nil,or_false] at hk
  rcases hk with rfl|rfl
  ·omega
  ·split<;>omega
 ·exact tG hi (λhb=>(hp.at_ i hi hb).2) k ((jk h27).1 hk)
omit hz in
theorem Pg:∀i,(nxt cs (cL cs) i).length<=2:=λi=>by unfold nxt;(repeat' split)<;>simp
omit hz in
theorem aW1:∀i k,i<cs.length->k ∈ nxt cs (cL cs) i->k=i->a8 (cs.getD i (0,0,0,0,0)).1 (cs.getD i (0,0,0,0,0)).2.1= -1:=λi k hi hk e=>by
 by_cases hb:dN (bU cs i)
 ·exact gm hb
 ·unfold dN at hb
  unfold nxt at hk
  rw[if_neg (by omega),if_neg (by omega),if_neg (by omega),if_neg (by omega)] at hk
  simp at hk
  omega
include ha
theorem ur:bR Try.prog 11 [aP la.length (aC la) R par cs] [.v (.fs 1 (cs.length+1) (gC (dj cs (bE cs (cL cs)) R))),.v (.n .i64 0)]:=by
 have h:=cw hz
 have hn:=h.ncs
 have hA:=h.nA
 have hR:=aR hz
 have:=Bj la R par cs (by omega) ha hz (nxt cs (cL cs)) R (by omega) (zQ hz) hn (B4 hz) (aNx hz) Pg (kd hz) aW1
 rw[sj h.pok (kd hz)] at this
 exact this
theorem td:bR Try.prog 27 [aP la.length (aC la) R par cs] [.v (.n .i64 (fy la R par cs).1),.v (.n .i64 0)]:=by
 have h:=cw hz
 have hn:=h.ncs
 have hA:=h.nA
 have:=j9 la R par cs (by omega) (by omega) ha
 rw[hz] at this
 exact this
theorem B3:bR Try.prog 39 [aP la.length (aC la) R par cs] [.v (.n .i64 (qa (la.map jN) R par (cs.map bq)).1),.v (.n .i64 0)]:=by
 have h:=cw hz
 have hn:=h.ncs
 have hA:=h.nA
 have:=rN la R par cs (by omega) (by omega) ha
 rw[hz] at this
 exact this
omit ha in
theorem zP:bR Try.prog 23 [.fs 5 cs.length (cC cs)] [.v (.fs 1 (jK cs).length (iC .i64 (jK cs))),.v (.n .i64 0),.v (.n .i64 0)]:=by
 have h:=cw hz
 obtain⟨_,hl,_,t,ht,hw,he⟩:=h.pt
 rw[he]
 exact nz cs t ht hw h.ncs
omit ha in
theorem HJ:bR Try.prog 40 [aP la.length (aC la) R par cs] [.v (.fs 1 (cs.length+1) (λi _=> .fs 1 R (bC (G7 cs (bE cs (cL cs)) i))))]:=by
 have h:=cw hz
 have hR:=aR hz
 exact uH la par cs R (by omega) h.ncs (jK cs) h.pok.len (cL cs) _ _ rfl rfl (zP hz) h.pok.at_ (B4 hz) (kd hz)
theorem RV:bR Try.prog 12 [aP la.length (aC la) R par cs] [.v (.fs 1 (cs.length+1) (gC (dj cs (bE cs (cL cs)) R))),.v (.n .i64 0)]:=by
 have h:=cw hz
 have hn:=h.ncs
 have hR:=aR hz
 exact xh la.length (aC la) R par cs _ (B3 hz ha) (cs.length+1) R (by omega) (by omega) _ (HJ hz)
theorem vZ:bR Try.prog 13 [aP la.length (aC la) R par cs] [.v (.n .i64 (Cm (dj cs (bE cs (cL cs)) R) (cs.length+1))),.v (.n .i64 0)]:=by
 have hn:=(cw hz).ncs
 have hR:=aR hz
 exact oA la.length (aC la) R par cs _ _ (by omega) 0 (λi=>by have:=nN cs (bE cs (cL cs)) R i;omega) (ur hz ha)
omit ha in
theorem Pf:bR Try.prog 52 [.fs 5 cs.length (cC cs)] [.v (.fs 1 (bL cs R).length (λj _=> .n .i64 (((bL cs R).getD j 0:Nat):Int)))]:=by
 have hR:=aR hz
 exact mV cs R (by omega) (cw hz).ncs (B4 hz) (Pe hz) (λx hx=>by
  rw[jM]
  have:(aA x.1 x.2.2.1 x.2.2.2.1).length<=2:=by unfold aA;(repeat' split)<;>simp
  omega)
omit ha in
def RU(cs:List In)(R:Nat):List In:=cs.map (pW (BK (λr=>dm cs (r:Int)) R))
theorem Ph:bR Try.prog 20 [aP la.length (aC la) R par cs] [.v (aP la.length (aC la) (bL cs R).length par (RU cs R)),.v (.n .i64 0)]:=by
 have h:=cw hz
 have hA:=h.nA
 have hR:=aR hz
 have hl:=qi cs R
 have:=sO la R par cs _ (by omega) h.ncs (bL cs R) (cM cs R) (by omega) (td hz ha) (Pf hz)
 rw[pd (HK hz)] at this
 exact this
noncomputable def clr(cs:List In)(R:Nat):Nat->Nat:=Pa (λr=>dm cs (r:Int)) (λr s=>vw cs (bE cs (cL cs)) r s=true) R
noncomputable def kK(cs:List In)(R:Nat):Nat:=mq (clr cs R) (λr=>dm cs (r:Int)) R
omit hz ha in
theorem lg(cs:List In)(R:Nat):rB (λr=>dm cs (r:Int)) (λr s=>vw cs (bE cs (cL cs)) r s=true) R (clr cs R):=yX _ _ _
omit ha in
theorem ut:iw Try.prog 42 [.fs 5 cs.length (cC cs)] (λ_=>True) (λM rs N=>∃(r1:Nat) (x:dl),rs=[.v (.cv (.map (some r1))),.v (.n .i64 (kK cs R))]/\N r1=some (.mp x)/\x.get=fu (jL (clr cs R) (bL cs R) (bL cs R).length)):=by
 have h:=cw hz
 have hR:=aR hz
 have hl:=qi cs R
 have hi:=j5 cs (nxt cs (cL cs)) R (zQ hz) h.ncs (B4 hz) (aNx hz) Pg (kd hz) aW1
 have hin:=nS hi (Post':=λM rs N=>∃(r0:Nat) (pa:Int->Option Nat) (T':Int->List Int),rs=[.v (.cv (.map (some r0)))]/\gk r0 pa T' N/\(∀p,(T' p).Nodup)/\(∀p q,q ∈ T' p↔q ∈ A4 cs (bE cs (cL cs)) R p)) (λM rs N ⟨r0,pa,T',e1,e2,e3,e4⟩=>⟨r0,pa,T',e1,e2,e3,λp q=>by
  rw[e4,tM,vx h.pok (kd hz)]
  exact⟨λg=>⟨(f9.range (kd hz) (B2 hz) g).2,g⟩,λg=>g.2⟩⟩)
 refine nS (sP cs (A4 cs (bE cs (cL cs)) R) (bL cs R) (cM cs R) (by omega) (uW _ _ _) (λp=>by have:=A3 cs (bE cs (cL cs)) R p;omega) hin (Pf hz)) (λM rs N ⟨r1,x,K,e1,e2,e3,e4⟩=>?_)
 have hu:=u6 (cs:=cs) (R:=R) (T:=A4 cs (bE cs (cL cs)) R) (nb:=λr s=>vw cs (bE cs (cL cs)) r s=true) (λa b ha hb=>by
  rw[tM,lY]
  exact⟨λg=>g.2,λg=>⟨by omega,g⟩⟩) e4 (lg cs R)
 rw[gN hu,nX] at e1
 rw[jW hu] at e3
 exact⟨r1,x,e1,e2,e3⟩
omit ha in
end
end Go.Proofs.Yteopfmnnhlhbmaa
namespace Go.Proofs.Yteopfmnnhlhbmaa
open Go.RowKit
noncomputable def pC(cs:List In)(R:Nat):List Int:=kL (clr cs R) R
theorem Hu{cs:List In}{R v:Nat}(h:v<R):clr cs R v<R:=by
 have:=(lg cs R).le v h
 omega
theorem BL(cs:List In)(R:Nat):kK cs R<=R:=ud (λr hr=>(lg cs R).le r hr)
section
variable {la:List (Bool×Int)} {R:Nat} {par:Int} {cs:List In} (hz:(fy la R par cs).2=0) (ha:gV cs)
include hz
theorem jY:∀x ∈ cs,eM (jL (clr cs R) (bL cs R) (bL cs R).length) x=pW (pC cs R) x:=λx hx=>by
 refine lQ (HK hz x hx) ?_ (λv h0 h1 hv=>?_)
 ·cases h:jL (clr cs R) (bL cs R) (bL cs R).length (-1) with
  |none=>rfl
  |some y=>
   obtain⟨i,_,h2,_⟩:=(jm (cM cs R) (Nat.le_refl _) _ _).1 h
   omega
 ·obtain⟨n,rfl⟩:∃n:Nat,v=n:=⟨v.toNat,by omega⟩
  have hm:n ∈ bL cs R:=gy.2 ⟨by omega,tF hx hv⟩
  obtain⟨i,hi,e⟩:=List.getElem_of_mem hm
  have e2:(bL cs R).getD i 0=n:=by rw[List.getD_eq_getElem?_getD,List.getElem?_eq_getElem hi,e];rfl
  refine(jm (cM cs R) (Nat.le_refl _) _ _).2 ⟨i,hi,by rw[e2],?_⟩
  rw[e2,Int.toNat_natCast]
  exact yc _ _ _ (by omega)
theorem An:∀x ∈ cs,(-1<=ja (pC cs R) x.2.1/\ja (pC cs R) x.2.1<100000)/\(-1<=ja (pC cs R) x.2.2.1/\ja (pC cs R) x.2.2.1<100000)/\(-1<=ja (pC cs R) x.2.2.2.1/\ja (pC cs R) x.2.2.2.1<100000):=λx hx=>by
 have hR:=aR hz
 have key:∀v:Int,(v= -1\/(0<=v/\v<(R:Int)/\v ∈ b8 x))-> -1<=ja (pC cs R) v/\ja (pC cs R) v<100000:=λv hv=>by
  unfold ja
  rcases hv with rfl|⟨h0,h1,_⟩
  ·rw[if_pos (by decide)];omega
  ·rw[if_neg (by omega)]
   have hv:v.toNat<R:=by omega
   have e:(pC cs R).getD v.toNat 0=((clr cs R v.toNat:Nat):Int):=yc _ _ _ hv
   rw[e]
   have:=Hu (cs:=cs) hv
   omega
 obtain⟨h1,h2,h3⟩:=(HK hz x hx).regs3
 exact⟨key _ h1,key _ h2,key _ h3⟩
include ha
theorem v7{r:Nat}(hr:4<=r/\r<=1024)(hn:kK cs R<=r):bR Try.prog 17 [aP la.length (aC la) R par cs,.n .i64 r] [.v (aP la.length (aC la) (kK cs R) par (cs.map (pW (pC cs R)))),.v (.n .i64 0)]:=by
 have h:=cw hz
 have hA:=h.nA
 have:=zJ la R par cs _ (by omega) h.ncs r (kK cs R) hr _ (td hz ha) (ut hz) hn
 rw[List.map_congr_left (jY hz)] at this
 exact this
theorem v6{r:Nat}(hr:4<=r/\r<=1024)(hn:r<kK cs R):bR Try.prog 17 [aP la.length (aC la) R par cs,.n .i64 r] (if 1024<par+(kK cs R:Int)-((r:Int)-3)\/16384<(w6 (pC cs R) ((r:Int)-3) par cs).length then[.v B7,.v (.n .i64 6)] else[.v (aP la.length (aC la) r (par+(kK cs R:Int)-((r:Int)-3)) (w6 (pC cs R) ((r:Int)-3) par cs)),.v (.n .i64 0)]):=by
 have h:=cw hz
 have hA:=h.nA
 have hR:=aR hz
 have hcl:=BL cs R
 have e:oo (jL (clr cs R) (bL cs R) (bL cs R).length) ((r:Int)-3) par cs=w6 (pC cs R) ((r:Int)-3) par cs:=by
  unfold oo w6
  rw[List.map_congr_left (λx hx=>by rw[jY hz x hx])]
 have hg:∀y ∈ cs,(-1<=fN (jL (clr cs R) (bL cs R) (bL cs R).length) y.2.1/\fN (jL (clr cs R) (bL cs R) (bL cs R).length) y.2.1<100000)/\(-1<=fN (jL (clr cs R) (bL cs R) (bL cs R).length) y.2.2.1/\fN (jL (clr cs R) (bL cs R) (bL cs R).length) y.2.2.1<100000)/\(-1<=fN (jL (clr cs R) (bL cs R) (bL cs R).length) y.2.2.2.1/\fN (jL (clr cs R) (bL cs R) (bL cs R).length) y.2.2.2.1<100000):=λy hy=>by
  have e1:=jY hz y hy
  unfold eM pW at e1
  simp only[Prod.mk.injEq,true_and] at e1
  obtain⟨e1,e2,e3,_⟩:=e1
  rw[e1,e2,e3]
  exact An hz y hy
 have:=zI la R par cs _ (by omega) h.ncs r (kK cs R) hr _ (td hz ha) (ut hz) hn (by omega) (RX hz) hg
 rw[e] at this
 exact this
end
end Go.Proofs.Yteopfmnnhlhbmaa
namespace Go.Proofs.Yteopfmnnhlhbmaa
open Go.RowKit
def ws:List In->Int->Bool
 |[],_=>false
 |x::l,r=>(aA x.1 x.2.2.1 x.2.2.2.1).contains r||(!decide (r=a8 x.1 x.2.1)&&ws l r)
def mg(cs:List In):Bool:=cs.all λx=>decide (¬dN x.1)
theorem Bv{cs:List In}(h:mg cs=true){i:Nat}(hi:i<cs.length):¬dN (bU cs i):=by
 have:=List.all_eq_true.1 h (cs.getD i (0,0,0,0,0)) (by rw[List.getD_eq_getElem?_getD,List.getElem?_eq_getElem hi];exact List.getElem_mem hi)
 exact of_decide_eq_true this
theorem tX{cs:List In}(h:mg cs=true)(pt:Nat->Nat){i:Nat}(hi:i<cs.length):bE cs pt i=[i+1]:=by
 have:=Bv h hi
 unfold dN at this
 unfold bE
 rw[if_neg (by omega),if_neg (by omega),if_neg (by omega)]
theorem sg{cs:List In}{nx:Nat->List Nat}(hnx:∀i,i<cs.length->nx i=[i+1]){i:Nat}{r:Int}:bn cs nx i r↔ws (cs.drop i) r=true:=by
 constructor
 ·intro h
  induction h with
  |@read i r hi h=>
   rw[List.drop_eq_getElem_cons hi]
   have e:cs.getD i (0,0,0,0,0)=cs[i]:=by rw[List.getD_eq_getElem?_getD,List.getElem?_eq_getElem hi];rfl
   rw[e] at h
   unfold ws
   rw[List.contains_iff_mem.2 h];rfl
  |@flow i k r hi hk h hw ih=>
   rw[hnx i hi] at hk
   simp at hk
   subst hk
   rw[List.drop_eq_getElem_cons hi]
   have e:cs.getD i (0,0,0,0,0)=cs[i]:=by rw[List.getD_eq_getElem?_getD,List.getElem?_eq_getElem hi];rfl
   rw[e] at hw
   unfold ws
   rw[ih,decide_eq_false hw]
   simp
 ·intro h
  by_cases hi:i<cs.length
  ·have e:cs.getD i (0,0,0,0,0)=cs[i]:=by rw[List.getD_eq_getElem?_getD,List.getElem?_eq_getElem hi];rfl
   have ih:ws (cs.drop (i+1)) r=true->bn cs nx (i+1) r:=λh=>(sg hnx).2 h
   rw[List.drop_eq_getElem_cons hi] at h
   unfold ws at h
   simp only[Bool.or_eq_true,Bool.and_eq_true,Bool.not_eq_true',decide_eq_false_iff_not] at h
   rcases h with h|⟨h1,h2⟩
   ·exact .read hi (by rw[e];exact List.contains_iff_mem.1 h)
   ·exact .flow hi (by rw[hnx i hi];simp) (ih h2) (by rw[e];exact h1)
  ·rw[List.drop_eq_nil_of_le (by omega)] at h
   cases h
termination_by cs.length-i
decreasing_by omega
theorem Bk{cs:List In}{nx:Nat->List Nat}(hnx:∀i,i<cs.length->nx i=[i+1])(R i:Nat):dj cs nx R i=(List.range R).filter λr:Nat=>ws (cs.drop i) (r:Int):=by
 unfold dj
 congr 1
 funext r
 rw[Bool.eq_iff_iff,@decide_eq_true_iff _ (Classical.propDecidable _)]
 exact sg hnx
def Pq(cs:List In)(p q:Int):Bool:=(!decide (p=q)&&(ws cs p&&ws cs q))||(List.range cs.length).any λi=>decide (0<=ni cs i)&&((decide (p=ni cs i)&&(!decide (q=p)&&ws (cs.drop (i+1)) q))||(decide (q=ni cs i)&&(!decide (p=q)&&ws (cs.drop (i+1)) p)))
theorem yf{cs:List In}{nx:Nat->List Nat}(hnx:∀i,i<cs.length->nx i=[i+1]){p q:Int}:f9 cs nx p q↔Pq cs p q=true:=by
 unfold f9 Pq
 simp only[Bool.or_eq_true,Bool.and_eq_true,Bool.not_eq_true',decide_eq_false_iff_not,decide_eq_true_eq,List.any_eq_true,List.mem_range,sg hnx,List.drop_zero]
 constructor
 ·rintro (h|⟨i,k,h1,h2,h3,h4⟩)
  ·exact .inl h
  ·rw[hnx i h1] at h2
   simp at h2
   subst h2
   exact .inr ⟨i,h1,h3,h4⟩
 ·rintro (h|⟨i,h1,h3,h4⟩)
  ·exact .inl h
  ·exact .inr ⟨i,i+1,h1,by rw[hnx i h1];simp,h3,h4⟩
def A7(l:List Nat):Nat:=((List.range (l.length+1)).find? λc=> !l.contains c).getD 0
def iU(cs:List In):Nat->List Nat
 |0=>[]
 |r+1=>iU cs r++[if dm cs (r:Int)=true then A7 (((List.range r).filter λs:Nat=>dm cs (s:Int)&&Pq cs (r:Int) (s:Int)).map λs=>(iU cs r).getD s 0) else 0]
theorem jB(cs:List In):∀n,(iU cs n).length=n
 |0=>rfl
 |n+1=>by unfold iU;rw[List.length_append,List.length_singleton,jB cs n]
theorem jC(cs:List In):∀(n r:Nat),r<n->(iU cs n).getD r 0=(iU cs (r+1)).getD r 0
 |0,r,h=>by omega
 |n+1,r,h=>by
  by_cases e:r=n
  ·subst e;rfl
  ·conv=>lhs;unfold iU
   rw[List.getD_eq_getElem?_getD,List.getElem?_append_left (by rw[jB];omega),<-List.getD_eq_getElem?_getD]
   exact jC cs n r (by omega)
theorem xJ(l:List Nat):eg (λc=>c ∈ l) (A7 l):=by
 unfold A7
 cases h:(List.range (l.length+1)).find? (λc=> !l.contains c) with
 |none=>
  exfalso
  have h1:=List.find?_eq_none.1 h
  have:=fI (l:=List.range (l.length+1)) (l':=l) List.nodup_range (λc hc=>by
   have:=h1 c hc
   simpa using this)
  rw[List.length_range] at this
  omega
 |some c=>
  rw[Option.getD_some]
  obtain⟨h1,l1,l2,h2,h3⟩:=List.find?_eq_some_iff_append.1 h
  refine⟨by simpa using h1,λc' hc'=>?_⟩
  have hlen:l1.length=c:=by
   have e1:(List.range (l.length+1))[l1.length]? =some c:=by rw[h2,List.getElem?_append_right (Nat.le_refl _),Nat.sub_self];rfl
   obtain⟨q1,q2⟩:=List.getElem?_eq_some_iff.1 e1
   rw[List.getElem_range] at q2
   exact q2
  have hm:c' ∈ l1:=by
   have e1:(List.range (l.length+1))[c']? =some c':=List.getElem?_range (by
    have:=congrArg List.length h2
    simp at this
    omega)
   rw[h2,List.getElem?_append_left (by omega)] at e1
   exact List.mem_of_getElem? e1
  have:=h3 c' hm
  simpa using this
theorem yW(cs:List In){nx:Nat->List Nat}(hnx:∀i,i<cs.length->nx i=[i+1])(n:Nat):rB (λr=>dm cs (r:Int)) (λr s=>vw cs nx r s=true) n (λr=>(iU cs n).getD r 0):=by
 have key:∀r,r<n->(iU cs n).getD r 0=if dm cs (r:Int)=true then A7 (((List.range r).filter λs:Nat=>dm cs (s:Int)&&Pq cs (r:Int) (s:Int)).map λs=>(iU cs n).getD s 0) else 0:=λr hr=>by
  rw[jC cs n r hr]
  conv=>lhs;unfold iU
  rw[List.getD_eq_getElem?_getD,List.getElem?_append_right (by rw[jB];exact Nat.le_refl _),jB,Nat.sub_self,List.getElem?_cons_zero,Option.getD_some]
  split
  ·congr 1
   refine List.map_congr_left (λs hs=>?_)
   have hs:=List.mem_range.1 (List.mem_filter.1 hs).1
   rw[jC cs n s (by omega),jC cs r s hs]
  ·rfl
 refine⟨λr hr ho=>?_,λr hr ho=>?_⟩
 ·have e:=key r hr
  rw[if_pos ho] at e
  show eg _ ((iU cs n).getD r 0)
  rw[e]
  refine(xJ _).congr (λc=>?_)
  simp only[List.mem_map,List.mem_filter,List.mem_range,Bool.and_eq_true]
  constructor
  ·rintro ⟨s,⟨h1,h2,h3⟩,h4⟩
   exact⟨s,h1,h2,lY.2 ((yf hnx).2 h3),h4⟩
  ·rintro ⟨s,h1,h2,h3,h4⟩
   exact⟨s,⟨h1,h2,(yf hnx).1 (lY.1 h3)⟩,h4⟩
 ·have e:=key r hr
  rw[if_neg (by show ¬_;rw[show dm cs (r:Int)=false from ho];decide)] at e
  exact e
theorem Cx{cs:List In}(h:mg cs=true)(R:Nat):∀r,r<R->clr cs R r=(iU cs R).getD r 0:=
 (lg cs R).uniq (yW cs (λi hi=>tX h _ hi) R) (λ_ _=>Iff.rfl)
theorem Cq{cs:List In}(h:mg cs=true)(R:Nat):pC cs R=(List.range R).map λr=>(((iU cs R).getD r 0:Nat):Int):=by
 unfold pC kL
 exact List.map_congr_left (λr hr=>by rw[Cx h R r (List.mem_range.1 hr)])
theorem y6{cs:List In}(h:mg cs=true)(R:Nat):kK cs R=mq (λr=>(iU cs R).getD r 0) (λr=>dm cs (r:Int)) R:=ml (Cx h R)
theorem ntG(l:List Nat)(i j:Nat):fe l i j= .n .i64 ((l.getD i 0:Nat):Int):=rfl
theorem vM(l:List Nat)(hl:l.length<=100000):bR Try.prog 16 [.fs 1 l.length (fe l),.fs 1 l.length (fe l)] [.v (.b true)]:=by
 have hadd:∀j:Nat,j<200000->IntKind.wrap .i64 ((j:Int)+1)=((j+1:Nat):Int):=λj hj=>by rw[aU (by omega)];omega
 have hll:decide ((l.length:Int)=(l.length:Int))=true:=decide_eq_true rfl
 refine aK bf J6 ⟨by simp,by decide⟩ ?_
 simp only[bI]
 repeat first|with_reducible refine aw ?_|simp only[hll,decide_true,go_sem,simprocAttr]
 refine GA.loop (I:=λmm e H=>∃(k:Nat),mm=l.length-k/\k<=l.length/\e=aE [(0,.fs 1 l.length (fe l)),(1,.fs 1 l.length (fe l)),(12,.n .i64 l.length),(13,.n .i64 k)]/\H=aN []) (Wk.mk [] [] ?_ ?_ ?_) ⟨0,rfl,Nat.zero_le _,rfl,rfl⟩ ?_
 ·simp only[bk,bh,go_sem,simprocAttr]
  repeat' refine ab ?_ ?_
  all_goals first|exact bu|skip
 ·exact .nil
 ·simp
 rintro mm e H ⟨k,rfl,hk,rfl,rfl⟩
 repeat first|with_reducible refine aw ?_|simp only[go_sem,simprocAttr]
 refine⟨λh=>?_,λh=>?_⟩
 ·have hkl:k<l.length:=by omega
  have hk0:(0:Int)<=(k:Int):=by omega
  have ha:=hadd k (by omega)
  have hg:=ntG l k 0
  have hvv:decide (((l.getD k 0:Nat):Int)=((l.getD k 0:Nat):Int))=true:=decide_eq_true rfl
  repeat first|with_reducible refine aw ?_|simp only[hk0,h,hg,hvv,ha,decide_true,go_sem,simprocAttr]
  refine⟨_,_,_,?_,Wk.mk [] [] ?_ ?_ ?_,k+1,rfl,by omega,rfl,rfl⟩
  ·omega
  ·simp only[bk,bh,go_sem,simprocAttr]
   repeat' refine ab ?_ ?_
   all_goals first|exact bu|skip
  ·exact .nil
  ·simp
 ·repeat first|with_reducible refine aw ?_|simp only[go_sem,simprocAttr]
  exact⟨[_],rfl,dS.v rfl rfl .nil⟩
theorem ng(n:Nat)(hn:n<=100000)(L:Nat->List Nat)(hL:∀i,(L i).length<=100000):bR Try.prog 15 [.fs 1 n (gC L),.fs 1 n (gC L),.f 16 [] []] [.v (.b true)]:=by
 have hadd:∀j:Nat,j<200000->IntKind.wrap .i64 ((j:Int)+1)=((j+1:Nat):Int):=λj hj=>by rw[aU (by omega)];omega
 have hll:decide ((n:Int)=(n:Int))=true:=decide_eq_true rfl
 refine aK bf Kj ⟨by simp,by decide⟩ ?_
 simp only[bI]
 repeat first|with_reducible refine aw ?_|simp only[hll,decide_true,go_sem,simprocAttr]
 refine GA.loop (I:=λmm e H=>∃(k:Nat),mm=n-k/\k<=n/\e=aE [(1,.fs 1 n (gC L)),(2,.f 16 [] []),(15,.fs 1 n (gC L)),(16,.n .i64 n),(17,.n .i64 k)]/\H=aN []) (Wk.mk [] [] ?_ ?_ ?_) ⟨0,rfl,Nat.zero_le _,rfl,rfl⟩ ?_
 ·simp only[bk,bh,go_sem,simprocAttr]
  repeat' refine ab ?_ ?_
  all_goals first|exact bu|skip
 ·exact .nil
 ·simp
 rintro mm e H ⟨k,rfl,hk,rfl,rfl⟩
 repeat first|with_reducible refine aw ?_|simp only[go_sem,simprocAttr]
 refine⟨λh=>?_,λh=>?_⟩
 ·have hkl:k<n:=by omega
  have hk0:(0:Int)<=(k:Int):=by omega
  have ha:=hadd k (by omega)
  have hg:gC L k 0= .fs 1 (L k).length (fe (L k)):=rfl
  repeat first|with_reducible refine aw ?_|simp only[hk0,h,hg,decide_true,go_sem,simprocAttr]
  refine Hi (vM (L k) (hL k)) ?_
  repeat first|with_reducible refine aw ?_|simp only[ha,go_sem,simprocAttr]
  refine⟨_,_,_,?_,Wk.mk [] [] ?_ ?_ ?_,k+1,rfl,by omega,rfl,rfl⟩
  ·omega
  ·simp only[bk,bh,go_sem,simprocAttr]
   repeat' refine ab ?_ ?_
   all_goals first|exact bu|skip
  ·exact .nil
  ·simp
 ·repeat first|with_reducible refine aw ?_|simp only[go_sem,simprocAttr]
  exact⟨[_],rfl,dS.v rfl rfl .nil⟩
def dV(k:Nat):In:=(0,(k:Int),-1,-1,((k+5:Nat):Int))
def fw(k:Nat):In:=(34,-1,(k:Int),-1,0)
theorem jf(k:Nat)(hk:k<=1000):bR Try.prog 34 [.n .i64 k] [.v (iP (dV k))]:=by
 have h1:IntKind.wrap .i64 ((k:Int)+5)=((k+5:Nat):Int):=by rw[aU (by omega)];omega
 have h2:IntKind.wrap .u32 (((k+5:Nat)):Int)=((k+5:Nat):Int):=z8 (by omega)
 refine aK bf KN ⟨by simp,by decide⟩ ?_
 simp only[bI]
 repeat first|with_reducible refine aw ?_|simp only[h1,h2,go_sem,simprocAttr]
 exact⟨[_],rfl,dS.v rfl rfl .nil⟩
theorem qR(k:Nat):bR Try.prog 35 [.n .i64 k] [.v (iP (fw k))]:=by
 refine aK bf KK ⟨by simp,by decide⟩ ?_
 simp only[bI]
 repeat first|with_reducible refine aw ?_|simp only[go_sem,simprocAttr]
 exact⟨[_],rfl,dS.v rfl rfl .nil⟩
def pF:List In:=[dV 0,dV 1,(8,2,0,1,0),fw 2]
def oX:List In:=[dV 0,dV 1,dV 2,dV 3,dV 4,fw 0,fw 1,fw 2,fw 3,fw 4]
def RS(i:Nat):List Nat:=(List.range 3).filter λr:Nat=>ws (pF.drop i) (r:Int)
theorem mi:mg pF=true:=by rfl
theorem qN:mg oX=true:=by rfl
theorem sH:(fy [] ((3:Nat):Int) 0 pF).2=0:=by rfl
theorem Hq:(fy [] ((5:Nat):Int) 0 oX).2=0:=by rfl
theorem oZ:gV pF:=by
 intro x hx
 simp only[pF,dV,fw,List.mem_cons,List.not_mem_nil,or_false] at hx
 rcases hx with rfl|rfl|rfl|rfl<;>simp
theorem BA:gV oX:=by
 intro x hx
 simp only[oX,dV,fw,List.mem_cons,List.not_mem_nil,or_false] at hx
 rcases hx with rfl|rfl|rfl|rfl|rfl|rfl|rfl|rfl|rfl|rfl<;>simp
theorem qO:dj pF (bE pF (cL pF)) 3=RS:=by
 funext i
 exact Bk (λj hj=>tX mi _ hj) 3 i
theorem Hp:bR Try.prog 11 [aP 0 (aC []) 3 0 pF] [.v (.fs 1 5 (gC RS)),.v (.n .i64 0)]:=by
 have:=ur (la:=[]) (R:=3) (par:=0) (cs:=pF) sH oZ
 rw[qO] at this
 exact this
theorem sF:bR Try.prog 13 [aP 0 (aC []) 3 0 pF] [.v (.n .i64 2),.v (.n .i64 0)]:=by
 have:=vZ (la:=[]) (R:=3) (par:=0) (cs:=pF) sH oZ
 rw[qO] at this
 exact this
theorem oY:kK pF 3=2/\pC pF 3=[0,1,0]:=by
 rw[y6 mi,Cq mi]
 exact⟨by rfl,by rfl⟩
theorem oW:kK oX 5=5/\pC oX 5=[0,1,2,3,4]:=by
 rw[y6 qN,Cq qN]
 exact⟨by rfl,by rfl⟩
def Hr:List In:=[dV 0,dV 1,(8,0,0,1,0),fw 0]
theorem yF:bR Try.prog 17 [aP 0 (aC []) 3 0 pF,.n .i64 4] [.v (aP 0 (aC []) 2 0 Hr),.v (.n .i64 0)]:=by
 have:=v7 (la:=[]) (R:=3) (par:=0) (cs:=pF) sH oZ (r:=4) (by omega) (by rw[oY.1];omega)
 rw[oY.1,oY.2] at this
 exact this
def sG:List In:=w6 [0,1,2,3,4] 1 0 oX
theorem qM:bR Try.prog 17 [aP 0 (aC []) 5 0 oX,.n .i64 4] [.v (aP 0 (aC []) 4 4 sG),.v (.n .i64 0)]:=by
 have:=v6 (la:=[]) (R:=5) (par:=0) (cs:=oX) Hq BA (r:=4) (by omega) (by rw[oW.1];omega)
 rw[oW.1,oW.2] at this
 exact this
def yE(k:Nat):List In:=oX.take k
theorem qL(k:Nat)(hk:k<10):yE (k+1)=yE k++[oX.getD k (0,0,0,0,0)]:=by
 unfold yE
 rw[List.take_add_one,List.getD_eq_getElem?_getD,List.getElem?_eq_getElem (show k<oX.length from hk)]
 rfl
theorem oV(k:Nat)(hk:k<=10):(yE k).length=k:=by
 unfold yE
 rw[List.length_take]
 exact Nat.min_eq_left hk
theorem sJ{M:List Nat}{H:AH}{b:Nat}{x:AB}(hm:b ∈ M)(hx:H.at b=some x)(hs:x.size=20)(hg:∀i j,i<4->j<5->x.get (0+i*5+j)=cC pF i j):Cv M H (.agg [.sl0,.n .i64 3,.n .i64 0,.sl b 0 4 4]) (aP 0 (aC []) 3 0 pF):=by
 refine .agg rfl λi v v' h1 h2=>?_
 match i,h1,h2 with
 |0,h1,h2=>cases h1;cases h2;exact .sl0 _ _
 |1,h1,h2=>cases h1;cases h2;exact .rfl rfl
 |2,h1,h2=>cases h1;cases h2;exact .rfl rfl
 |3,h1,h2=>cases h1;cases h2;exact .sl (x:=x) hm hx (by rw[hs];decide) (by decide) (by rw[hs];decide) hg (λi j _ hj=>cj i hj)
 |i+4,h1,h2=>cases h1
theorem Ht{M:List Nat}{H:AH}:Cv M H (.agg [.sl0,.n .i64 5,.n .i64 0,.fs 5 10 (cC oX)]) (.agg [.fs 2 0 (aC []),.n .i64 5,.n .i64 0,.fs 5 10 (cC oX)]):=by
 refine .agg rfl λi v v' h1 h2=>?_
 match i,h1,h2 with
 |0,h1,h2=>cases h1;cases h2;exact .sl0 _ _
 |1,h1,h2=>cases h1;cases h2;exact .rfl rfl
 |2,h1,h2=>cases h1;cases h2;exact .rfl rfl
 |3,h1,h2=>cases h1;cases h2;exact .rfl rfl
 |i+4,h1,h2=>cases h1
theorem Hw:GA Try.prog 126 (aB Try.prog 10) (.seq (.reg Ch) (.seq (.seq (.reg Cg) (.block 0 wD)) (.seq (.seq (.reg wA) (.block 2 wC)) (.seq (.reg wy) (.seq (.mix wB) .ret))))) (aE []) (aN []) (gL [.mv (.t 0)] λv H=>∃l,v=bB l/\dS [.v (.b true)] l H):=by
 have h4:=qM
 have hadd:∀j:Nat,j<200000->IntKind.wrap .i64 ((j:Int)+1)=((j+1:Nat):Int):=λj hj=>by rw[aU (by omega)];omega
 have sl:∀k:Nat,k<10->(k+1)*5<1099511627776/\(k+1)*40<=140737488355328/\k<=9223372036854775806:=λk h=>by omega
 have cD:∀k i j,i<k->k<10->cC (yE (k+1)) i j=cC (yE k) i j:=λk i j hi hk=>by
  unfold cC
  rw[qL k hk,List.getD_eq_getElem?_getD,List.getD_eq_getElem?_getD,List.getElem?_append_left (by rw[oV k (by omega)];exact hi),<-List.getD_eq_getElem?_getD]
 have cE:∀k j,k<10->cC (yE (k+1)) k j=cC oX k j:=λk j hk=>by
  unfold cC
  rw[qL k hk,List.getD_eq_getElem?_getD,List.getElem?_append_right (by rw[oV k (by omega)];exact Nat.le_refl _),oV k (by omega),Nat.sub_self]
  rfl
 have dP:∀k,k<5->oX.getD k (0,0,0,0,0)=dV k:=λk hk=>by
  rcases(by omega:k=0\/k=1\/k=2\/k=3\/k=4) with rfl|rfl|rfl|rfl|rfl<;>rfl
 have dE:∀k,k<5->oX.getD (5+k) (0,0,0,0,0)=fw k:=λk hk=>by
  rcases(by omega:k=0\/k=1\/k=2\/k=3\/k=4) with rfl|rfl|rfl|rfl|rfl<;>rfl
 (try simp only[go_sem,simprocAttr])
 iterate 3 (with_reducible refine GA.go bf rfl ?_;try simp only[go_sem,simprocAttr])
 refine GA.wk (Wk.mk (L:=[(8,.p 0 0)]) (bl:=[bg 0 25 [.sl0,.n .i64 5,.n .i64 0,.sl0]]) [0] [] ?_ ?_ ?_) ?_
 ·simp only[bk,bh,go_sem,simprocAttr]
  repeat' refine ab ?_ ?_
  all_goals first|exact bu|skip
 ·exact .cons rfl (.lstw (x:=_) (by simp only[go_sem,simprocAttr]<;>rfl) (by rfl) (by rfl) (by rfl) (by rfl) (by rfl) (by rfl) (by simp) (λi hi=>(by rcases iu hi with rfl|rfl|rfl|rfl<;>(simp only[go_sem,simprocAttr];first|exact Wv.same rfl|exact Wv.os rfl)))) .nil
 ·simp
 refine GA.wk (Wk.nilb 0 3 5 60 (x:=bg 0 25 [.sl0,.n .i64 5,.n .i64 0,.sl0]) (by simp only[go_sem,simprocAttr]) (by simp only[go_sem,simprocAttr]) (by decide) (by decide) (by simp only[go_sem,simprocAttr]) rfl (by simp only[go_sem,simprocAttr])) ?_
 repeat first|with_reducible refine aw ?_|simp only[go_sem,simprocAttr]
 refine GA.loop (I:=λmm e H=>∃(k m:Nat),mm=5-k/\k<=5/\m=0+k/\e=aE [(8,.p 0 0),(73,.n .i64 k)]/\H=aN [aH 60 5 m 0 (cC (yE m)),bg 0 25 [.sl0,.n .i64 5,.n .i64 0,.os 1 m]]) (Wk.mk [1,0] [] ?_ ?_ ?_) ⟨0,0,rfl,Nat.zero_le _,rfl,rfl,rfl⟩ ?_
 ·simp only[bk,bh,go_sem,simprocAttr]
  repeat' refine ab ?_ ?_
  all_goals first|exact bu|skip
 ·exact .cons rfl (.rows (x:=_) (by simp only[go_sem,simprocAttr];rfl) (by rfl) (by rfl) (by rfl) (by show 0*5<=0;decide) (by exact Nat.le_refl _) (by decide) (λi j hi=>absurd (show i<0 from hi) (Nat.not_lt_zero _)) (λi j hi=>absurd (show i<0 from hi) (Nat.not_lt_zero _))) (.cons rfl (.lstw (x:=_) (by simp only[go_sem,simprocAttr]<;>rfl) (by rfl) (by rfl) (by rfl) (by rfl) (by rfl) (by rfl) (by simp) (λi hi=>(by rcases iu hi with rfl|rfl|rfl|rfl<;>(simp only[go_sem,simprocAttr];first|exact Wv.same rfl|exact Wv.os rfl)))) .nil)
 ·simp
 rintro mm e H ⟨k,m,rfl,hk,hm,rfl,rfl⟩
 repeat first|with_reducible refine aw ?_|simp only[go_sem,simprocAttr]
 refine⟨λh=>?_,λh=>?_⟩
 ·have hkl:k<5:=by omega
  have ha:=hadd k (by omega)
  obtain⟨s1,s2,s3⟩:=sl m (by omega)
  repeat first|with_reducible refine aw ?_|simp only[h,s1,s2,s3,decide_true,go_sem,simprocAttr]
  refine ao [] (.cons (.rfl (by rfl)) .nil) (jf k (by omega)) (by simp only[AH.mark_next,ah,ay,az,am,ai,av,af,au,ag,List.length_cons,List.length_nil];decide) ?_
  simp only[iP,dV,go_sem,simprocAttr]
  repeat first|with_reducible refine aw ?_|simp only[ha,s1,s2,s3,decide_true,go_sem,simprocAttr]
  refine⟨_,_,_,?_,Wk.mk [3,0] [] ?_ ?_ ?_,k+1,m+1,rfl,by omega,by omega,rfl,rfl⟩
  ·omega
  ·simp only[bk,bh,go_sem,simprocAttr]
   repeat' refine ab ?_ ?_
   all_goals first|exact bu|skip
  ·exact .cons rfl (.snoc (by simp only[go_sem,simprocAttr]<;>rfl) (by simp) (by rfl) rfl (by decide) (by omega) (λi j hi _=>cD m i j hi (by omega)) (λj hj=>by
    rw[cE m j (by omega)];unfold cC;rw[show m=k by omega,dP k (by omega)];rcases iL hj with rfl|rfl|rfl|rfl|rfl<;>rfl) (λi j _ hj=>by rcases iL hj with rfl|rfl|rfl|rfl|rfl<;>rfl)) (.cons rfl (.lstw (x:=_) (by simp only[go_sem,simprocAttr]<;>rfl) (by rfl) (by rfl) (by rfl) (by rfl) (by rfl) (by rfl) (by simp) (λi hi=>(by rcases iu hi with rfl|rfl|rfl|rfl<;>(simp only[go_sem,simprocAttr];first|exact Wv.same rfl|exact Wv.os rfl)))) .nil)
  ·simp
 have hk5:m=5:=by omega
 subst hk5
 repeat first|with_reducible refine aw ?_|simp only[go_sem,simprocAttr]
 refine GA.loop (I:=λmm e H=>∃(k m:Nat),mm=5-k/\k<=5/\m=5+k/\e=aE [(8,.p 0 0),(84,.n .i64 k)]/\H=aN [aH 60 5 m 0 (cC (yE m)),bg 0 25 [.sl0,.n .i64 5,.n .i64 0,.os 1 m]]) (Wk.mk [1,0] [] ?_ ?_ ?_) ⟨0,5,rfl,Nat.zero_le _,rfl,rfl,rfl⟩ ?_
 ·simp only[bk,bh,go_sem,simprocAttr]
  repeat' refine ab ?_ ?_
  all_goals first|exact bu|skip
 ·exact .cons rfl .k5 (.cons rfl (.lstw (x:=_) (by simp only[go_sem,simprocAttr]<;>rfl) (by rfl) (by rfl) (by rfl) (by rfl) (by rfl) (by rfl) (by simp) (λi hi=>(by rcases iu hi with rfl|rfl|rfl|rfl<;>(simp only[go_sem,simprocAttr];first|exact Wv.same rfl|exact Wv.os rfl)))) .nil)
 ·simp
 rintro mm e H ⟨k,m,rfl,hk,hm,rfl,rfl⟩
 repeat first|with_reducible refine aw ?_|simp only[go_sem,simprocAttr]
 refine⟨λh=>?_,λh=>?_⟩
 ·have hkl:k<5:=by omega
  have ha:=hadd k (by omega)
  obtain⟨s1,s2,s3⟩:=sl m (by omega)
  repeat first|with_reducible refine aw ?_|simp only[h,s1,s2,s3,decide_true,go_sem,simprocAttr]
  refine ao [] (.cons (.rfl (by rfl)) .nil) (qR k) (by simp only[AH.mark_next,ah,ay,az,am,ai,av,af,au,ag,List.length_cons,List.length_nil];decide) ?_
  simp only[iP,fw,go_sem,simprocAttr]
  repeat first|with_reducible refine aw ?_|simp only[ha,s1,s2,s3,decide_true,go_sem,simprocAttr]
  refine⟨_,_,_,?_,Wk.mk [3,0] [] ?_ ?_ ?_,k+1,m+1,rfl,by omega,by omega,rfl,rfl⟩
  ·omega
  ·simp only[bk,bh,go_sem,simprocAttr]
   repeat' refine ab ?_ ?_
   all_goals first|exact bu|skip
  ·exact .cons rfl (.snoc (by simp only[go_sem,simprocAttr]<;>rfl) (by simp) (by rfl) rfl (by decide) (by omega) (λi j hi _=>cD m i j hi (by omega)) (λj hj=>by
    rw[cE m j (by omega)];unfold cC;rw[show m=5+k by omega,dE k (by omega)];rcases iL hj with rfl|rfl|rfl|rfl|rfl<;>rfl) (λi j _ hj=>by rcases iL hj with rfl|rfl|rfl|rfl|rfl<;>rfl)) (.cons rfl (.lstw (x:=_) (by simp only[go_sem,simprocAttr]<;>rfl) (by rfl) (by rfl) (by rfl) (by rfl) (by rfl) (by rfl) (by simp) (λi hi=>(by rcases iu hi with rfl|rfl|rfl|rfl<;>(simp only[go_sem,simprocAttr];first|exact Wv.same rfl|exact Wv.os rfl)))) .nil)
  ·simp
 have hk5:m=10:=by omega
 subst hk5
 refine GA.wk (Wk.mk (L:=[(8,.p 0 0)]) (bl:=[bg 0 25 [.sl0,.n .i64 5,.n .i64 0,.fs 5 10 (cC oX)]]) [0] [1] ?_ ?_ ?_) ?_
 ·simp only[bk,bh,go_sem,simprocAttr]
  repeat' refine ab ?_ ?_
  all_goals first|exact bu|skip
 ·exact .cons rfl (.lstw (x:=_) (by simp only[go_sem,simprocAttr]<;>rfl) (by rfl) (by rfl) (by rfl) (by rfl) (by rfl) (by rfl) (by simp) (λi hi=>(by rcases iu hi with rfl|rfl|rfl|rfl<;>(simp only[go_sem,simprocAttr];first|exact Wv.same rfl|exact Wv.cv (Cv.own (ty:=60) (z:=0) (row:=cC (yE 10)) (by simp) (by simp only[go_sem,simprocAttr]) (λi j _ hj=>cj i hj)))))) .nil
 ·simp
 have hl18:((sG.length:Nat):Int)=18:=rfl
 have hc0:cC sG 0 0= .n .i64 0:=rfl
 have hc1:cC sG 0 1= .n .i64 0:=rfl
 have hc2:cC sG 0 2= .n .i64 (-1):=rfl
 have hc3:cC sG 0 3= .n .i64 (-1):=rfl
 have hc4:cC sG 0 4= .n .u32 5:=rfl
 have hlt:(0:Int)<18:=by omega
 have h00:(0:Int)<=0:=by omega
 have d1:decide ((0:Int)=0)=true:=decide_eq_true rfl
 have d2:decide ((4:Int)=4)=true:=decide_eq_true rfl
 have d3:decide ((18:Int)=18)=true:=decide_eq_true rfl
 have d4:decide ((5:Int)=5)=true:=decide_eq_true rfl
 have d5:decide ((-1:Int)= -1)=true:=decide_eq_true rfl
 have hx10:oX.length=10:=rfl
 simp only[aP,hx10] at h4
 repeat first|with_reducible refine aw ?_|simp only[go_sem,simprocAttr]
 refine ao [] (.cons Ht (.cons (.rfl (by rfl)) .nil)) h4 (by simp only[AH.mark_next,ah,ay,az,am,ai,av,af,au,ag,List.length_cons,List.length_nil];decide) ?_
 repeat first|with_reducible refine aw ?_|simp only[d1,d2,d3,hl18,hlt,h00,hc0,hc1,hc2,hc3,hc4,decide_true,go_sem,simprocAttr]
 refine ao [] (.cons (.rfl (by rfl)) .nil) (jf 0 (by omega)) (by simp only[AH.mark_next,ah,ay,az,am,ai,av,af,au,ag,List.length_cons,List.length_nil];decide) ?_
 simp only[iP,dV,go_sem,simprocAttr]
 repeat first|with_reducible refine aw ?_|simp only[t8,vN,qf,HH,SH.row,d1,d2,d3,d4,d5,hl18,hlt,h00,hc0,hc1,hc2,hc3,hc4,decide_true,go_sem,simprocAttr]
 exact⟨[_],rfl,dS.v rfl rfl .nil⟩
theorem fB:bR Try.prog 10 [] [.v (.b true)]:=by
 have h1:=Hp
 have h2:=sF
 have h3:=yF
 have h4:=qM
 have w0:IntKind.wrap .i64 0=0:=rfl
 have w1:IntKind.wrap .i64 (0+0)=0:=rfl
 have hne0:decide ((0:Int)=0)=true:=decide_eq_true rfl
 refine aK bf KH ⟨by simp,by decide⟩ ?_
 simp only[bI]
 repeat first|with_reducible refine aw ?_|simp only[go_sem,simprocAttr]
 refine ao [] (.cons (.rfl (by rfl)) .nil) (jf 0 (by omega)) (by simp only[AH.mark_next,ah,ay,az,am,ai,av,af,au,ag,List.length_cons,List.length_nil];decide) ?_
 simp only[iP,dV]
 repeat first|with_reducible refine aw ?_|simp only[go_sem,simprocAttr]
 refine ao [] (.cons (.rfl (by rfl)) .nil) (jf 1 (by omega)) (by simp only[AH.mark_next,ah,ay,az,am,ai,av,af,au,ag,List.length_cons,List.length_nil];decide) ?_
 simp only[iP,dV]
 repeat first|with_reducible refine aw ?_|simp only[go_sem,simprocAttr]
 refine ao [] (.cons (.rfl (by rfl)) .nil) (qR 2) (by simp only[AH.mark_next,ah,ay,az,am,ai,av,af,au,ag,List.length_cons,List.length_nil];decide) ?_
 simp only[iP,fw]
 repeat first|with_reducible refine aw ?_|simp only[go_sem,simprocAttr]
 refine ao [0] (.cons (sJ (by simp) (by simp only[go_sem,simprocAttr]<;>rfl) rfl (λi j hi hj=>?_)) .nil) h1 (by simp only[AH.mark_next,ah,ay,az,am,ai,av,af,au,ag,List.length_cons,List.length_nil];decide) ?_
 ·skip
  rcases(by omega:i=0\/i=1\/i=2\/i=3) with rfl|rfl|rfl|rfl<;>rcases(by omega:j=0\/j=1\/j=2\/j=3\/j=4) with rfl|rfl|rfl|rfl|rfl<;>rfl
 repeat first|with_reducible refine aw ?_|simp only[go_sem,simprocAttr]
 refine ao [0] (.cons (sJ (by simp) (by simp only[go_sem,simprocAttr]<;>rfl) rfl (λi j hi hj=>?_)) .nil) h2 (by simp only[AH.mark_next,ah,ay,az,am,ai,av,af,au,ag,List.length_cons,List.length_nil];decide) ?_
 ·skip
  rcases(by omega:i=0\/i=1\/i=2\/i=3) with rfl|rfl|rfl|rfl<;>rcases(by omega:j=0\/j=1\/j=2\/j=3\/j=4) with rfl|rfl|rfl|rfl|rfl<;>rfl
 repeat first|with_reducible refine aw ?_|simp only[go_sem,simprocAttr]
 refine ao [0] (.cons (sJ (by simp) (by simp only[go_sem,simprocAttr]<;>rfl) rfl (λi j hi hj=>?_)) (.cons (.rfl (by rfl)) .nil)) h3 (by simp only[AH.mark_next,ah,ay,az,am,ai,av,af,au,ag,List.length_cons,List.length_nil];decide) ?_
 ·skip
  rcases(by omega:i=0\/i=1\/i=2\/i=3) with rfl|rfl|rfl|rfl<;>rcases(by omega:j=0\/j=1\/j=2\/j=3\/j=4) with rfl|rfl|rfl|rfl|rfl<;>rfl
 simp only[aP]
 repeat first|with_reducible refine aw ?_|simp only[w0,w1,hne0,decide_true,go_sem,simprocAttr]
 refine ao [3,4,5,6] (.cons (.rfl (by rfl)) (.cons (?_) (.cons (.rfl (by rfl)) .nil))) (ng 5 (by omega) RS (λi=>?_)) (by simp only[AH.mark_next,ah,ay,az,am,ai,av,af,au,ag,List.length_cons,List.length_nil];decide) ?_
 ·refine .slw (x:=_) (by simp) (by simp only[go_sem,simprocAttr]<;>rfl) (by decide) (by decide) (λi j hi hj=>?_) (λi j _ _=>rfl)
  have hj0:j=0:=by omega
  subst hj0
  rcases(by omega:i=0\/i=1\/i=2\/i=3\/i=4) with rfl|rfl|rfl|rfl|rfl
  ·exact .sl0 _ _
  ·refine .sl (x:=_) (by simp) (by simp only[go_sem,simprocAttr]<;>rfl) (by decide) (by decide) (by decide) (λi j hi hj=>?_) (λi j _ _=>rfl)
   rw[show i=0 by have:i<1:=hi;omega,show j=0 by omega];rfl
  ·refine .sl (x:=_) (by simp) (by simp only[go_sem,simprocAttr]<;>rfl) (by decide) (by decide) (by decide) (λi j hi hj=>?_) (λi j _ _=>rfl)
   have hi2:i<2:=hi
   rcases(by omega:i=0\/i=1) with rfl|rfl<;>rw[show j=0 by omega]<;>rfl
  ·refine .sl (x:=_) (by simp) (by simp only[go_sem,simprocAttr]<;>rfl) (by decide) (by decide) (by decide) (λi j hi hj=>?_) (λi j _ _=>rfl)
   rw[show i=0 by have:i<1:=hi;omega,show j=0 by omega];rfl
  ·exact .sl0 _ _
 ·exact Nat.le_trans (List.length_filter_le _ _) (by simp)
 have hl4:((Hr.length:Nat):Int)=4:=rfl
 have hcz:cC Hr 2 1= .n .i64 0:=rfl
 have hlt:(2:Int)<4:=by omega
 have h00:(0:Int)<=2:=by omega
 (try simp only[w0,w1,hne0,hl4,hcz,hlt,h00,decide_true,go_sem,simprocAttr])
 iterate 2 (with_reducible refine GA.go bf rfl ?_;try simp only[w0,w1,hne0,hl4,hcz,hlt,h00,decide_true,go_sem,simprocAttr])
 refine GA.wk (Wk.mk (L:=[]) (bl:=[]) [] [] ?_ ?_ ?_) Hw
 ·simp only[bk,bh,go_sem,simprocAttr]
  repeat' refine ab ?_ ?_
  all_goals first|exact bu|skip
 ·exact .nil
 ·simp
theorem j7(na:Nat)(ra:Nat->Nat->AV)(regs par:Int)(cs:List In):bR Try.prog 9 [aP na ra regs par cs] [.v (.b (kt na regs cs))]:=by
 have hw:=vK na ra regs par cs
 refine aK bf LP ⟨by simp,by decide⟩ ?_
 simp only[bI,aP] at hw ⊢
 repeat first|with_reducible refine aw ?_|simp only[go_sem,simprocAttr]
 refine ao [] (.cons (.rfl (by rfl)) .nil) hw (by simp only[AH.mark_next,ah,ay,az,am,ai,av,af,au,ag,List.length_cons,List.length_nil];decide) ?_
 unfold kt
 cases qJ na cs
 ·repeat first|with_reducible refine aw ?_|simp only[go_sem,simprocAttr]
  exact bJ rfl rfl
 ·by_cases h1:regs<=60
  ·repeat first|with_reducible refine aw ?_|simp only[h1,decide_true,go_sem,simprocAttr]
   exact bJ rfl rfl
  ·by_cases h2:1024<regs
   ·repeat first|with_reducible refine aw ?_|simp only[h1,h2,decide_true,decide_false,go_sem,simprocAttr]
    exact bJ rfl rfl
   ·repeat first|with_reducible refine aw ?_|simp only[h1,h2,decide_true,decide_false,go_sem,simprocAttr]
    exact bJ rfl rfl
theorem Bx{la:List (Bool×Int)}{regs:Int}{cs:List In}(hf:kt la.length regs cs=true):la.length<=20/\cs.length<=300:=by
 unfold kt qJ at hf
 by_cases h1:(la.length:Int)<=20
 ·by_cases h2:(cs.length:Int)<=300
  ·exact⟨by omega,by omega⟩
  ·simp[h1,h2] at hf
 ·simp[h1] at hf
section
variable (la:List (Bool×Int)) (regs par:Int) (cs:List In) (ha:gV cs)
include ha
end
end Go.Proofs.Yteopfmnnhlhbmaa