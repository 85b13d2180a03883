/- A part of the proof of AllocateLives: AlE AlF AlG AlH AzA EqA AzB LcA. No condition. -/
import Derived.Test.YteopfmnnhlhbmaaHl17
import Derived.Test.YteopfmnnhlhbmaaHl35
import Derived.Test.YteopfmnnhlhbmaaHl45
import Derived.Test.YteopfmnnhlhbmaaHl33
import Derived.Test.YteopfmnnhlhbmaaHl13
import Derived.Test.YteopfmnnhlhbmaaHl16
set_option linter.unusedSimpArgs false
set_option linter.unusedVariables false
set_option linter.constructorNameAsVariable false
set_option maxRecDepth 100000
set_option maxHeartbeats 4000000
namespace Go.Proofs.Yteopfmnnhlhbmaa
open Go.RowKit
theorem dq{cd:List RI}{pr:List Int}:∀(t:T) (w:Bool) (d k:Nat) (e:Int),t.wf w d->fC cd k t.flat->uX pr k (t.rq k e)->(w=true->0<=e)->∀q,k<=q->q<k+t.size->dC (aj cd q)->
  0<=pr.getD q 0/\(aj cd q=27->∃p:Nat,pr.getD q 0=(p:Int)/\(aj cd p=31->pr.getD p 0=(q:Int)))
 |.nil,w,d,k,e,hw,hc,hp,he,q,h1,h2,hb=>by simp only[T.size] at h2;omega
 |.plain i r,w,d,k,e,hw,hc,hp,he,q,h1,h2,hb=>by
  obtain⟨⟨g1,g2,g3,g4⟩,g5,g6⟩:=hw
  simp only[T.size] at h2
  have hi:aj cd k=i.op:=by show(cd.getD k default).op=_;rw[hc.head]
  by_cases eq:q=k
  ·subst eq
   rw[hp.head]
   rw[hi] at hb ⊢
   have h30:i.op=30:=by unfold dC at hb;omega
   rw[if_pos h30]
   exact⟨he (g5 h30),λh=>by omega⟩
  ·exact dq r w d (k+1) e g6 hc.tail hp.tail he q (by omega) (by omega) hb
 |.ite i a j r,w,d,k,e,hw,hc,hp,he,q,h1,h2,hb=>by
  obtain⟨g1,g2,g3,g4,g5⟩:=hw
  simp only[T.size] at h2
  have hi:aj cd k=i.op:=by show(cd.getD k default).op=_;rw[hc.head]
  have hal:a.flat.length=a.size:=a.flat_length
  have hql:(a.rq (k+1) e).length=a.size:=a.rq_length _ _
  have hcr:=hc.tail.right
  have hpr:=hp.tail.right
  rw[hal] at hcr
  rw[hql] at hpr
  have hj:aj cd (k+1+a.size)=j.op:=by show(cd.getD (k+1+a.size) default).op=_;rw[hcr.head]
  have hpk:=hp.head
  have hpj:=hpr.head
  by_cases e1:q=k
  ·subst e1
   rw[hpk]
   refine⟨by omega,λ_=>⟨q+a.size+1,rfl,λ_=>?_⟩⟩
   rw[show q+a.size+1=q+1+a.size by omega,hpj]
  by_cases e2:q<k+1+a.size
  ·exact dq a w _ (k+1) e g4 hc.tail.left hp.tail.left he q (by omega) (by omega) hb
  by_cases e3:q=k+1+a.size
  ·subst e3
   rw[hpj,hj,g2]
   exact⟨by omega,λh=>by omega⟩
  ·have:=hpr.tail
   rw[show k+1+a.size+1=k+a.size+2 by omega] at this
   have hc2:=hcr.tail
   rw[show k+1+a.size+1=k+a.size+2 by omega] at hc2
   exact dq r w d (k+a.size+2) e g5 hc2 this he q (by omega) (by omega) hb
 |.ite2 i a x b j r,w,d,k,e,hw,hc,hp,he,q,h1,h2,hb=>by
  obtain⟨g1,g2,g3,g4,g5,g6,g7⟩:=hw
  simp only[T.size] at h2
  have hal:a.flat.length=a.size:=a.flat_length
  have hbl:b.flat.length=b.size:=b.flat_length
  have hql:(a.rq (k+1) e).length=a.size:=a.rq_length _ _
  have hqb:(b.rq (k+a.size+2) e).length=b.size:=b.rq_length _ _
  have hcr:=hc.tail.right
  have hpr:=hp.tail.right
  rw[hal] at hcr
  rw[hql] at hpr
  have hx:aj cd (k+1+a.size)=x.op:=by show(cd.getD (k+1+a.size) default).op=_;rw[hcr.head]
  have hpk:=hp.head
  have hpx:=hpr.head
  have hcr2:=hcr.tail
  have hpr2:=hpr.tail
  rw[show k+1+a.size+1=k+a.size+2 by omega] at hcr2 hpr2
  have hcr3:=hcr2.right
  have hpr3:=hpr2.right
  rw[hbl] at hcr3
  rw[hqb] at hpr3
  have hj:aj cd (k+a.size+2+b.size)=j.op:=by show(cd.getD (k+a.size+2+b.size) default).op=_;rw[hcr3.head]
  have hpj:=hpr3.head
  by_cases e1:q=k
  ·subst e1
   rw[hpk]
   refine⟨by omega,λ_=>⟨q+a.size+1,rfl,λh=>?_⟩⟩
   rw[show q+a.size+1=q+1+a.size by omega,hx,g2] at h
   omega
  by_cases e2:q<k+1+a.size
  ·exact dq a w _ (k+1) e g5 hc.tail.left hp.tail.left he q (by omega) (by omega) hb
  by_cases e3:q=k+1+a.size
  ·subst e3
   rw[hpx,hx,g2]
   exact⟨by omega,λh=>by omega⟩
  by_cases e4:q<k+a.size+2+b.size
  ·exact dq b w _ (k+a.size+2) e g6 hcr2.left hpr2.left he q (by omega) (by omega) hb
  by_cases e5:q=k+a.size+2+b.size
  ·subst e5
   rw[hpj,hj,g3]
   exact⟨by omega,λh=>by omega⟩
  ·have h3:=hpr3.tail
   rw[show k+a.size+2+b.size+1=k+a.size+b.size+3 by omega] at h3
   have h4:=hcr3.tail
   rw[show k+a.size+2+b.size+1=k+a.size+b.size+3 by omega] at h4
   exact dq r w d (k+a.size+b.size+3) e g7 h4 h3 he q (by omega) (by omega) hb
 |.loop i a j r,w,d,k,e,hw,hc,hp,he,q,h1,h2,hb=>by
  obtain⟨g1,g2,g3,g4,g5⟩:=hw
  simp only[T.size] at h2
  have hi:aj cd k=i.op:=by show(cd.getD k default).op=_;rw[hc.head]
  have hal:a.flat.length=a.size:=a.flat_length
  have hql:(a.rq (k+1) ((k+a.size+1:Nat):Int)).length=a.size:=a.rq_length _ _
  have hcr:=hc.tail.right
  have hpr:=hp.tail.right
  rw[hal] at hcr
  rw[hql] at hpr
  have hj:aj cd (k+1+a.size)=j.op:=by show(cd.getD (k+1+a.size) default).op=_;rw[hcr.head]
  have hpk:=hp.head
  have hpj:=hpr.head
  by_cases e1:q=k
  ·subst e1
   rw[hpk,hi,g1]
   exact⟨by omega,λh=>by omega⟩
  by_cases e2:q<k+1+a.size
  ·exact dq a true _ (k+1) _ g4 hc.tail.left hp.tail.left (λ_=>by omega) q (by omega) (by omega) hb
  by_cases e3:q=k+1+a.size
  ·subst e3
   rw[hpj,hj,g2]
   exact⟨by omega,λh=>by omega⟩
  ·have h3:=hpr.tail
   rw[show k+1+a.size+1=k+a.size+2 by omega] at h3
   have h4:=hcr.tail
   rw[show k+1+a.size+1=k+a.size+2 by omega] at h4
   exact dq r w d (k+a.size+2) e g5 h4 h3 he q (by omega) (by omega) hb
def dt(cs:List In)(i:Nat):Nat:=((qG cs).getD i 0).toNat
structure Nc(cs:List In):Prop where
 len:(qG cs).length=cs.length
 at_:∀i,i<cs.length->dC (bR cs i)->(qG cs).getD i 0=(dt cs i:Int)/\dt cs i<cs.length
 back:∀i,i<cs.length->bR cs i=27->bR cs (dt cs i)=31->dt cs (dt cs i)=i
theorem Gv.pok{la:List (Bool×Int)}{regs par:Int}{cs:List In}(h:Gv la regs par cs):Nc cs:=by
 obtain⟨_,hl,_,t,ht,hw,he⟩:=h.pt
 have hs:cs.length=t.size:=by rw[<-t.flat_length,<-ht,List.length_map]
 have hfact:=dq (cd:=cs.map bu) (pr:=qG cs) t false 8 0 0 hw (by rw[ht];exact λj hj=>by simp) (by rw[he];exact λj hj=>by simp) (λh=>by cases h)
 have hrng:=fi (n:=(cs.length:Int)) t 0 0
 have hat:∀i,i<cs.length->dC (bR cs i)->(qG cs).getD i 0=(dt cs i:Int)/\dt cs i<cs.length:=λi hi hb=>by
  have h1:=(hfact i (Nat.zero_le _) (by omega) (by rw[dK];exact hb)).1
  have hm:(qG cs).getD i 0 ∈ t.rq 0 0:=by rw[<-he,List.getD_eq_getElem?_getD,List.getElem?_eq_getElem (by omega)];exact List.getElem_mem _
  have h2:=hrng ⟨by omega,by omega⟩ (by omega) _ hm
  unfold dt
  omega
 refine⟨hl,hat,λi hi h27 h31=>?_⟩
 obtain⟨p,h1,h2⟩:=(hfact i (Nat.zero_le _) (by omega) (by rw[dK];exact .inl h27)).2 (by rw[dK];exact h27)
 obtain⟨h3,h4⟩:=hat i hi (.inl h27)
 have hpp:dt cs i=p:=by omega
 rw[hpp] at h31 ⊢
 have:=h2 (by rw[dK];exact h31)
 unfold dt
 omega
theorem qE{op a b:Int}(h:op=28\/op=31):ax op a b=[]:=by
 rcases h with rfl|rfl<;>rfl
theorem fL{op to:Int}(h:dC op):a7 op to= -1:=by
 unfold dC at h
 rcases h with rfl|rfl|rfl|rfl|rfl<;>rfl
theorem kM{op a b r:Int}:r ∈ ax op a b↔(Gy op=true/\r=a)\/(Gx op=true/\r=b):=by
 have e:ax op a b=(if Gy op then[a] else[])++(if Gx op then[b] else[]):=rfl
 rw[e,List.mem_append]
 cases Gy op<;>cases Gx op<;>simp
theorem gm{x:In}{r:Int}:r ∈ bW x↔(Gy x.1=true/\r=x.2.2.1)\/(Gx x.1=true/\r=x.2.2.2.1)\/r=a7 x.1 x.2.1:=by
 unfold bW
 rw[List.mem_append,kM,List.mem_singleton,or_assoc]
theorem vg.reads{regs par nA:Int}{x:In}(h:vg regs par nA x):∀r ∈ ax x.1 x.2.2.1 x.2.2.2.1,0<=r/\r<regs:=by
 intro r hr
 rcases kM.1 hr with⟨h1,rfl⟩|⟨h1,rfl⟩
 ·have:=h.a;rwa [if_pos h1] at this
 ·have:=h.b;rwa [if_pos h1] at this
theorem vg.writes{regs par nA:Int}{x:In}(h:vg regs par nA x)(h0:0<=regs):a7 x.1 x.2.1<regs/\ -1<=a7 x.1 x.2.1:=by
 have:=h.to
 unfold a7
 split
 ·rename_i hu;rw[if_pos hu] at this;omega
 ·omega
theorem vg.uses{regs par nA:Int}{x:In}(h:vg regs par nA x)(h0:0<=regs):∀r ∈ bW x,r<regs:=by
 intro r hr
 rcases gm.1 hr with⟨h1,rfl⟩|⟨h1,rfl⟩|rfl
 ·have:=h.a;rw[if_pos h1] at this;omega
 ·have:=h.b;rw[if_pos h1] at this;omega
 ·exact(h.writes h0).1
theorem vg.regs3{regs par nA:Int}{x:In}(h:vg regs par nA x):(x.2.1= -1\/(0<=x.2.1/\x.2.1<regs/\x.2.1 ∈ bW x))/\(x.2.2.1= -1\/(0<=x.2.2.1/\x.2.2.1<regs/\x.2.2.1 ∈ bW x))/\(x.2.2.2.1= -1\/(0<=x.2.2.2.1/\x.2.2.2.1<regs/\x.2.2.2.1 ∈ bW x)):=by
 refine⟨?_,?_,?_⟩
 ·have:=h.to
  split at this
  ·rename_i hu
   refine .inr ⟨this.1,this.2,gm.2 (.inr (.inr ?_))⟩
   unfold a7;rw[if_pos hu]
  ·exact .inl this
 ·have:=h.a
  split at this
  ·rename_i hu;exact .inr ⟨this.1,this.2,gm.2 (.inl ⟨hu,rfl⟩)⟩
  ·exact .inl this
 ·have:=h.b
  split at this
  ·rename_i hu;exact .inr ⟨this.1,this.2,gm.2 (.inr (.inl ⟨hu,rfl⟩))⟩
  ·exact .inl this
/-! ### the same live registers-/
section
variable {cs:List In}
theorem iP{pt:Nat->Nat}{i:Nat}(h:¬bR cs i=27){k:Nat}:k ∈ nxt cs pt i↔k ∈ bM cs pt i:=by
 unfold nxt bM
 generalize bR cs i=op at*
 by_cases h1:op=29
 ·subst h1;simp
 by_cases h2:op=30
 ·subst h2;simp
 by_cases h3:op=28
 ·subst h3;simp
 by_cases h4:op=31
 ·subst h4
  simp only[show ¬(31:Int)=27 by decide,show ¬(31:Int)=29 by decide,show ¬(31:Int)=30 by decide,show ¬(31:Int)=28 by decide,or_self,if_false,if_true]
  split
  ·simp only[List.mem_cons,List.not_mem_nil,or_false]
   exact or_comm
  ·exact Iff.rfl
 ·simp[h,h1,h2,h3,h4]
theorem qN{pt:Nat->Nat}{i:Nat}(h:bR cs i=27):nxt cs pt i=[i+1,if bR cs (pt i)=31 then pt i else pt i+1]/\bM cs pt i=[i+1,pt i+1]:=by
 unfold nxt bM
 constructor
 ·rw[if_pos h]
 ·simp[h]
theorem pA(hp:Nc cs){i:Nat}(hi:i<cs.length)(h27:bR cs i=27)(h31:bR cs (dt cs i)=31){r:Int}(hr:0<=r){nx:Nat->List Nat}(hnx:∀j,bR cs j=31->¬bR cs (dt cs j)=29->nx j=[j+1]):
  bp cs nx (dt cs i) r↔bp cs nx (dt cs i+1) r:=by
 have hb:=hp.back i hi h27 h31
 have hl:=(hp.at_ i hi (.inl h27)).2
 have hn:nx (dt cs i)=[dt cs i+1]:=hnx _ h31 (by rw[hb,h27];decide)
 have hrd:ax (cs.getD (dt cs i) (0,0,0,0,0)).1 (cs.getD (dt cs i) (0,0,0,0,0)).2.2.1 (cs.getD (dt cs i) (0,0,0,0,0)).2.2.2.1=[]:=qE (.inr h31)
 have hwr:a7 (cs.getD (dt cs i) (0,0,0,0,0)).1 (cs.getD (dt cs i) (0,0,0,0,0)).2.1= -1:=fL (.inr (.inr (.inr (.inr h31))))
 constructor
 ·intro h
  generalize hj:dt cs i=j at*
  cases h with
  |read _ h2=>rw[hrd] at h2;cases h2
  |@flow _ k _ _ hk h _=>
   rw[hn] at hk
   simp at hk
   subst hk
   exact h
 ·intro h
  exact .flow hl (by rw[hn];simp) h (by rw[hwr];omega)
theorem FC(pt:Nat->Nat)(j:Nat)(h:bR cs j=31)(h2:¬bR cs (pt j)=29):nxt cs pt j=[j+1]:=by
 unfold nxt
 simp[h,h2]
theorem zv(pt:Nat->Nat)(j:Nat)(h:bR cs j=31)(h2:¬bR cs (pt j)=29):bM cs pt j=[j+1]:=by
 unfold bM
 simp[h,h2]
theorem cL(hp:Nc cs){R:Nat}(hR:∀x ∈ cs,∀r ∈ ax x.1 x.2.2.1 x.2.2.2.1,0<=r/\r<(R:Int)){i:Nat}{r:Int}:bp cs (nxt cs (dt cs)) i r↔bp cs (bM cs (dt cs)) i r:=by
 constructor
 ·intro h
  induction h with
  |read hi h=>exact .read hi h
  |@flow i k r hi hk h hw ih=>
   by_cases h27:bR cs i=27
   ·obtain⟨e1,e2⟩:=qN (pt:=dt cs) h27
    rw[e1] at hk
    by_cases h31:bR cs (dt cs i)=31
    ·rw[if_pos h31] at hk
     simp only[List.mem_cons,List.not_mem_nil,or_false] at hk
     rcases hk with rfl|rfl
     ·exact .flow hi (by rw[e2];simp) ih hw
     ·exact .flow hi (by rw[e2];simp) ((pA hp hi h27 h31 (ih.range hR).1 (λj=>zv _ j)).1 ih) hw
    ·rw[if_neg h31] at hk
     exact .flow hi (by rw[e2];exact hk) ih hw
   ·exact .flow hi ((iP h27).1 hk) ih hw
 ·intro h
  induction h with
  |read hi h=>exact .read hi h
  |@flow i k r hi hk h hw ih=>
   by_cases h27:bR cs i=27
   ·obtain⟨e1,e2⟩:=qN (pt:=dt cs) h27
    rw[e2] at hk
    simp only[List.mem_cons,List.not_mem_nil,or_false] at hk
    rcases hk with rfl|rfl
    ·exact .flow hi (by rw[e1];simp) ih hw
    ·by_cases h31:bR cs (dt cs i)=31
     ·exact .flow hi (by rw[e1,if_pos h31];simp) ((pA hp hi h27 h31 (ih.range hR).1 (λj=>FC _ j)).2 ih) hw
     ·exact .flow hi (by rw[e1,if_neg h31];simp) ih hw
   ·exact .flow hi ((iP h27).2 hk) ih hw
theorem re(hp:Nc cs){R:Nat}(hR:∀x ∈ cs,∀r ∈ ax x.1 x.2.2.1 x.2.2.2.1,0<=r/\r<(R:Int)):cY cs (nxt cs (dt cs)) R=cY cs (bM cs (dt cs)) R:=by
 funext i
 unfold cY
 congr 1
 funext r
 exact decide_eq_decide.2 (cL hp hR)
theorem uu(hp:Nc cs){R:Nat}(hR:∀x ∈ cs,∀r ∈ ax x.1 x.2.2.1 x.2.2.2.1,0<=r/\r<(R:Int)){p q:Int}:fB cs (nxt cs (dt cs)) p q↔fB cs (bM cs (dt cs)) p q:=by
 have hs:∀i k,0<=qw cs i->(k ∈ nxt cs (dt cs) i↔k ∈ bM cs (dt cs) i):=λi k hw=>iP (λh27=>by
  have:qw cs i= -1:=fL (.inl h27)
  omega)
 unfold fB
 constructor
 ·rintro (⟨h1,h2,h3⟩|⟨i,k,h1,h2,h3,h4⟩)
  ·exact .inl ⟨h1,(cL hp hR).1 h2,(cL hp hR).1 h3⟩
  ·refine .inr ⟨i,k,h1,(hs i k h3).1 h2,h3,?_⟩
   rcases h4 with⟨a,b,c⟩|⟨a,b,c⟩
   ·exact .inl ⟨a,b,(cL hp hR).1 c⟩
   ·exact .inr ⟨a,b,(cL hp hR).1 c⟩
 ·rintro (⟨h1,h2,h3⟩|⟨i,k,h1,h2,h3,h4⟩)
  ·exact .inl ⟨h1,(cL hp hR).2 h2,(cL hp hR).2 h3⟩
  ·refine .inr ⟨i,k,h1,(hs i k h3).2 h2,h3,?_⟩
   rcases h4 with⟨a,b,c⟩|⟨a,b,c⟩
   ·exact .inl ⟨a,b,(cL hp hR).2 c⟩
   ·exact .inr ⟨a,b,(cL hp hR).2 c⟩
theorem fB.range{nx:Nat->List Nat}{R:Nat}(hR:∀x ∈ cs,∀r ∈ ax x.1 x.2.2.1 x.2.2.2.1,0<=r/\r<(R:Int))(hW:∀x ∈ cs,a7 x.1 x.2.1<(R:Int)){p q:Int}(h:fB cs nx p q):(0<=p/\p<(R:Int))/\(0<=q/\q<(R:Int)):=by
 have hw:∀i,i<cs.length->qw cs i<(R:Int):=λi hi=>hW _ (by rw[List.getD_eq_getElem?_getD,List.getElem?_eq_getElem hi];exact List.getElem_mem hi)
 rcases h with⟨_,h2,h3⟩|⟨i,k,h1,h2,h3,⟨h4,h5,h6⟩|⟨h4,h5,h6⟩⟩
 ·exact⟨h2.range hR,h3.range hR⟩
 ·have:=hw i h1;exact⟨by omega,h6.range hR⟩
 ·have:=hw i h1;exact⟨h6.range hR,by omega⟩
/-! ### the same names-/
theorem jt(R:Nat):bF cs (R+1)=if da cs (R:Int)=true then bF cs R++[R] else bF cs R:=by
 unfold bF
 rw[List.range_succ,List.filter_append]
 cases h:da cs (R:Int)<;>simp[h]
theorem qa:∀R,uL (λr=>da cs (r:Int)) R=(bF cs R).length
 |0=>rfl
 |R+1=>by
  rw[jt]
  unfold uL
  rw[qa R]
  split
  ·rw[List.length_append,List.length_singleton]
  ·rfl
theorem sD{l l2:List Nat}:∀{k:Nat},k<=l.length->lY (l++l2) k=lY l k
 |0,_=>rfl
 |k+1,h=>by
  unfold lY
  rw[sD (by omega),List.getD_eq_getElem?_getD,List.getElem?_append_left (by omega),<-List.getD_eq_getElem?_getD]
theorem sC:∀(R v:Nat),v<R->da cs (v:Int)=true->lY (bF cs R) (bF cs R).length (v:Int)=some ((uL (λr=>da cs (r:Int)) v:Nat):Int)
 |0,v,h,_=>by omega
 |R+1,v,h,ho=>by
  rw[jt]
  by_cases e:v=R
  ·subst e
   rw[if_pos ho,List.length_append,List.length_singleton]
   unfold lY
   rw[if_pos (by rw[List.getD_eq_getElem?_getD,List.getElem?_append_right (Nat.le_refl _),Nat.sub_self];rfl),qa]
  ·have ih:=sC R v (by omega) ho
   split
   ·rw[List.length_append,List.length_singleton]
    unfold lY
    rw[if_neg (by rw[List.getD_eq_getElem?_getD,List.getElem?_append_right (Nat.le_refl _),Nat.sub_self];simp;omega),sD (Nat.le_refl _),ih]
   ·exact ih
theorem zA{l:List Nat}{k:Nat}{v:Int}(hv:v<0):lY l k v=none:=by
 cases hx:lY l k v with
 |none=>rfl
 |some y=>obtain⟨i,h1,h2,_⟩:=kQ hx;omega
theorem xN(f:Nat->Bool)(R r:Nat)(h:r<R):(Aq f R).getD r 0=((uL f r:Nat):Int):=by
 unfold Aq
 rw[List.getD_eq_getElem?_getD,List.getElem?_map,List.getElem?_range h]
 rfl
theorem kU{nm:Int->Option Int}{nl:List Int}{x:In}{regs par nA:Int}(h:vg regs par nA x)(hneg:nm (-1)=none)(hyes:∀v:Int,0<=v->v<regs->v ∈ bW x->nm v=some (nl.getD v.toNat 0)):ew nm x=oY nl x:=by
 obtain⟨h1,h2,h3⟩:=h.regs3
 have key:∀v:Int,(v= -1\/(0<=v/\v<regs/\v ∈ bW x))->fj nm v=iA nl v:=λv hv=>by
  unfold fj iA
  rcases hv with rfl|⟨g1,g2,g3⟩
  ·rw[hneg,if_pos (by decide)];rfl
  ·rw[hyes v g1 g2 g3,if_neg (by omega)];rfl
 unfold ew oY
 rw[key _ h1,key _ h2,key _ h3]
theorem sx{x:In}(hx:x ∈ cs){r:Int}(h:r ∈ bW x):da cs r=true:=by
 unfold da
 rw[List.any_eq_true]
 exact⟨x,hx,List.contains_iff_mem.2 h⟩
theorem ow{regs:Nat}{par nA:Int}(hin:∀x ∈ cs,vg regs par nA x):cs.map (ew (lY (bF cs regs) (bF cs regs).length))=cs.map (oY (Aq (λr=>da cs (r:Int)) regs)):=by
 refine List.map_congr_left (λx hx=>kU (hin x hx) (zA (by decide)) (λv h0 h1 hv=>?_))
 obtain⟨n,rfl⟩:∃n:Nat,v=n:=⟨v.toNat,by omega⟩
 rw[sC regs n (by omega) (sx hx hv),Int.toNat_natCast,xN _ _ _ (by omega)]
end
end Go.Proofs.Yteopfmnnhlhbmaa
namespace Go.Proofs.Yteopfmnnhlhbmaa
open Go.RowKit
theorem mT{P:Program}{f:FuncId}{args:List AV}{Pr:(Nat->Option OB)->Prop}{Post Post':(Nat->Option OB)->List RT->(Nat->Option OB)->Prop}(h:gF P f args Pr Post)(hp:∀M rs N,Post M rs N->Post' M rs N):gF P f args Pr Post':=λM hM=>
 ⟨(h M hM).1,λφ w args' a b c=>((h M hM).2 φ w args' a b c).mono λe w' hq=>by
  cases e with
  |panicked c=>exact hq.elim
  |outgrown=>exact hq.elim
  |returned u=>
   obtain⟨v,Hc,σ',⟨rs,N,l,q1,q2⟩,q3⟩:=hq
   exact⟨v,Hc,σ',⟨rs,N,l,hp _ _ _ q1,q2⟩,q3⟩⟩
theorem m7{K:Nat->Nat}{l l2:List Nat}:∀{k:Nat},k<=l.length->cF K (l++l2) k=cF K l k
 |0,_=>rfl
 |k+1,h=>by
  unfold cF
  rw[m7 (by omega),List.getD_eq_getElem?_getD,List.getElem?_append_left (by omega),<-List.getD_eq_getElem?_getD]
theorem m6{cs:List In}{K:Nat->Nat}:∀R,cF K (bF cs R) (bF cs R).length=lC K (λr=>da cs (r:Int)) R
 |0=>rfl
 |R+1=>by
  rw[jt]
  unfold lC
  have ih:=m6 (cs:=cs) (K:=K) R
  split
  ·rw[List.length_append,List.length_singleton]
   unfold cF
   rw[m7 (Nat.le_refl _),ih,List.getD_eq_getElem?_getD,List.getElem?_append_right (Nat.le_refl _),Nat.sub_self]
   rfl
  ·exact ih
theorem gI{cs:List In}{R i:Nat}(h:i<(bF cs R).length):(bF cs R).getD i 0<R/\da cs (((bF cs R).getD i 0:Nat):Int)=true:=by
 rw[<-fU,List.getD_eq_getElem?_getD,List.getElem?_eq_getElem h]
 exact List.getElem_mem h
theorem t6{cs:List In}{R:Nat}{T:Int->List Int}{nb:Nat->Nat->Prop}(hT:∀a b,a<R->b<R->(((b:Nat):Int) ∈ T (a:Int)↔nb a b)){K K0:Nat->Nat}(h:yI T (bF cs R) K (bF cs R).length)(h0:qu (λr=>da cs (r:Int)) nb R K0):
  ∀i,i<(bF cs R).length->K ((bF cs R).getD i 0)=K0 ((bF cs R).getD i 0):=by
 intro i
 induction i using Nat.strongRecOn with
 |_ i ih=>
  intro hi
  obtain⟨m1,m2⟩:=gI hi
  refine(h i hi).uniq ((h0.yes _ m1 m2).congr (λc=>?_))
  constructor
  ·rintro ⟨s,h1,h2,h3,h4⟩
   have hm:s ∈ bF cs R:=fU.2 ⟨by omega,h2⟩
   obtain⟨j,hj,e⟩:=List.getElem_of_mem hm
   have e2:(bF cs R).getD j 0=s:=by rw[List.getD_eq_getElem?_getD,List.getElem?_eq_getElem hj,e];rfl
   have hji:j<i:=by
    rcases Nat.lt_trichotomy j i with g|g|g
    ·exact g
    ·subst g;omega
    ·have:=nZ (cG cs R) g hj;omega
   exact⟨j,hji,by rw[e2];exact(hT _ _ m1 (by omega)).2 h3,by rw[ih j hji hj,e2];exact h4⟩
  ·rintro ⟨j,h1,h2,h3⟩
   have hj:j<(bF cs R).length:=by omega
   obtain⟨n1,n2⟩:=gI hj
   exact⟨_,nZ (cG cs R) h1 hi,n2,(hT _ _ m1 n1).1 h2,by rw[<-ih j h1 hj];exact h3⟩
noncomputable def zE(cs:List In)(nx:Nat->List Nat)(R:Nat)(p:Int):List Int:=((List.range R).filter λq:Nat=> @decide (fB cs nx p (q:Int)) (Classical.propDecidable _)).map λq:Nat=>(q:Int)
theorem sF{cs:List In}{nx:Nat->List Nat}{R:Nat}{p q:Int}:q ∈ zE cs nx R p↔(0<=q/\q<(R:Int))/\fB cs nx p q:=by
 unfold zE
 simp only[List.mem_map,List.mem_filter,List.mem_range]
 constructor
 ·rintro ⟨n,⟨h1,h2⟩,rfl⟩
  rw[@decide_eq_true_iff _ (Classical.propDecidable _)] at h2
  exact⟨by omega,h2⟩
 ·rintro ⟨h1,h2⟩
  obtain⟨n,rfl⟩:∃n:Nat,q=n:=⟨q.toNat,by omega⟩
  exact⟨n,⟨by omega,by rw[@decide_eq_true_iff _ (Classical.propDecidable _)];exact h2⟩,rfl⟩
theorem tV(cs:List In)(nx:Nat->List Nat)(R:Nat)(p:Int):(zE cs nx R p).Nodup:=by
 unfold zE
 exact List.Pairwise.map _ (λa b h e=>h (by omega)) (List.Pairwise.filter _ List.nodup_range)
theorem zD(cs:List In)(nx:Nat->List Nat)(R:Nat)(p:Int):(zE cs nx R p).length<=R:=by
 unfold zE
 rw[List.length_map]
 have:=List.length_filter_le (λq:Nat=> @decide (fB cs nx p (q:Int)) (Classical.propDecidable _)) (List.range R)
 rw[List.length_range] at this
 exact this
section
variable {la:List (Bool×Int)} {R:Nat} {par:Int} {cs:List In} (hz:(gh la R par cs).2=0) (ha:nk cs)
include hz
theorem Gr:∀x ∈ cs,vg R par la.length x:=λx hx=>FX ((cy hz).ins x hx)
theorem aR:R<=1024:=by have:=(cy hz).nregs;omega
theorem PP:0<=par/\par<=1024:=by
 have h:=hz
 unfold gh br at h
 split at h
 ·simp at h
 split at h
 ·simp at h
 split at h
 ·simp at h
 rename_i hr
 omega
theorem AR:∀x ∈ cs,0<=x.1/\x.1<39:=λx hx=>(Gr hz x hx).op
theorem jK:∀x ∈ cs,∀r ∈ ax x.1 x.2.2.1 x.2.2.2.1,0<=r/\r<(R:Int):=λx hx=>(Gr hz x hx).reads
theorem AN:∀x ∈ cs,a7 x.1 x.2.1<(R:Int):=λx hx=>((Gr hz x hx).writes (by omega)).1
theorem M7:∀x ∈ cs,∀r ∈ bW x,r<(R:Int):=λx hx=>(Gr hz x hx).uses (by omega)
theorem yE:bO Try.prog 66 [.fs 5 cs.length (cC cs)] [.v (.fs 1 cs.length (gC (nxt cs (dt cs))))]:=by
 have h:=cy hz
 obtain⟨_,hl,_,t,ht,hw,he⟩:=h.pt
 have hs:cs.length=t.size:=by rw[<-t.flat_length,<-ht,List.length_map]
 refine uw cs h.ncs (cz (cs.map bu) (cs.map bu).length 0 ⟨[],[],λ_=>[],λ_=>none⟩).pm (dt cs) (λi hi hb=>?_) (rP cs h.ncs h.nest)
 obtain⟨g1,g2⟩:=h.pok.at_ i hi hb
 refine⟨?_,g2⟩
 rw[ht,uP t hw,if_pos ⟨by omega,by omega,by rw[Int.toNat_natCast,<-ht,dK];exact hb⟩,Int.toNat_natCast,<-he,g1]
theorem aNx:∀i,i<cs.length->∀k ∈ nxt cs (dt cs) i,k<=cs.length:=λi hi k hk=>by
 have hp:=(cy hz).pok
 by_cases h27:bR cs i=27
 ·rw[(qN h27).1] at hk
  have:=(hp.at_ i hi (.inl h27)).2
  simp only[List.mem_cons,List.not_mem_nil,or_false] at hk
  rcases hk with rfl|rfl
  ·omega
  ·split<;>omega
 ·exact zt hi (λhb=>(hp.at_ i hi hb).2) k ((iP h27).1 hk)
omit hz in
theorem Na:∀i,(nxt cs (dt cs) i).length<=2:=λi=>by unfold nxt;(repeat' split)<;>simp
omit hz in
theorem aW1:∀i k,i<cs.length->k ∈ nxt cs (dt cs) i->k=i->a7 (cs.getD i (0,0,0,0,0)).1 (cs.getD i (0,0,0,0,0)).2.1= -1:=λi k hi hk e=>by
 by_cases hb:dC (bR cs i)
 ·exact fL hb
 ·unfold dC at hb
  unfold nxt at hk
  rw[if_neg (by omega),if_neg (by omega),if_neg (by omega),if_neg (by omega)] at hk
  simp at hk
  omega
include ha
theorem yD:bO Try.prog 11 [aH la.length (aC la) R par cs] [.v (.fs 1 (cs.length+1) (gC (cY cs (bM cs (dt cs)) R))),.v (.n .i64 0)]:=by
 have h:=cy hz
 have hn:=h.ncs
 have hA:=h.nA
 have hR:=aR hz
 have:=zT la R par cs (by omega) ha hz (nxt cs (dt cs)) R (by omega) (yE hz) hn (AR hz) (aNx hz) Na (jK hz) aW1
 rw[re h.pok (jK hz)] at this
 exact this
theorem rZ:bO Try.prog 27 [aH la.length (aC la) R par cs] [.v (.n .i64 (gh la R par cs).1),.v (.n .i64 0)]:=by
 have h:=cy hz
 have hn:=h.ncs
 have hA:=h.nA
 have:=jF la R par cs (by omega) (by omega) ha
 rw[hz] at this
 exact this
theorem AQ:bO Try.prog 39 [aH la.length (aC la) R par cs] [.v (.n .i64 (o7 (la.map jl) R par (cs.map bu)).1),.v (.n .i64 0)]:=by
 have h:=cy hz
 have hn:=h.ncs
 have hA:=h.nA
 have:=kN la R par cs (by omega) (by omega) ha
 rw[hz] at this
 exact this
omit ha in
theorem M8:bO Try.prog 23 [.fs 5 cs.length (cC cs)] [.v (.fs 1 (qG cs).length (iC .i64 (qG cs))),.v (.n .i64 0),.v (.n .i64 0)]:=by
 have h:=cy hz
 obtain⟨_,hl,_,t,ht,hw,he⟩:=h.pt
 rw[he]
 exact tz cs t ht hw h.ncs
omit ha in
theorem Gq:bO Try.prog 40 [aH la.length (aC la) R par cs] [.v (.fs 1 (cs.length+1) (λi _=> .fs 1 R (bC (FR cs (bM cs (dt cs)) i))))]:=by
 have h:=cy hz
 have hR:=aR hz
 exact tD la par cs R (by omega) h.ncs (qG cs) h.pok.len (dt cs) _ _ rfl rfl (M8 hz) h.pok.at_ (AR hz) (jK hz)
theorem yC:bO Try.prog 12 [aH la.length (aC la) R par cs] [.v (.fs 1 (cs.length+1) (gC (cY cs (bM cs (dt cs)) R))),.v (.n .i64 0)]:=by
 have h:=cy hz
 have hn:=h.ncs
 have hR:=aR hz
 exact vS la.length (aC la) R par cs _ (AQ hz ha) (cs.length+1) R (by omega) (by omega) _ (Gq hz)
theorem ns:bO Try.prog 13 [aH la.length (aC la) R par cs] [.v (.n .i64 (qH (cY cs (bM cs (dt cs)) R) (cs.length+1))),.v (.n .i64 0)]:=by
 have hn:=(cy hz).ncs
 have hR:=aR hz
 exact iI la.length (aC la) R par cs _ _ (by omega) 0 (λi=>by have:=jA cs (bM cs (dt cs)) R i;omega) (yD hz ha)
theorem rY:bO Try.prog 14 [aH la.length (aC la) R par cs] [.v (.n .i64 (qH (cY cs (bM cs (dt cs)) R) (cs.length+1))),.v (.n .i64 0)]:=by
 have hn:=(cy hz).ncs
 have hR:=aR hz
 exact nH la.length (aC la) R par cs _ _ (by omega) (λi=>by have:=jA cs (bM cs (dt cs)) R i;omega) (yC hz ha)
omit ha in
theorem M9:bO Try.prog 52 [.fs 5 cs.length (cC cs)] [.v (.fs 1 (bF cs R).length (λj _=> .n .i64 (((bF cs R).getD j 0:Nat):Int)))]:=by
 have hR:=aR hz
 exact mc cs R (by omega) (cy hz).ncs (AR hz) (M7 hz) (λx hx=>by
  rw[jk]
  have:(ax x.1 x.2.2.1 x.2.2.2.1).length<=2:=by unfold ax;(repeat' split)<;>simp
  omega)
omit ha in
def PO(cs:List In)(R:Nat):List In:=cs.map (oY (Aq (λr=>da cs (r:Int)) R))
theorem Nb:bO Try.prog 20 [aH la.length (aC la) R par cs] [.v (aH la.length (aC la) (bF cs R).length par (PO cs R)),.v (.n .i64 0)]:=by
 have h:=cy hz
 have hA:=h.nA
 have hR:=aR hz
 have hl:=pg cs R
 have:=rH la R par cs _ (by omega) h.ncs (bF cs R) (cG cs R) (by omega) (rZ hz ha) (M9 hz)
 rw[ow (Gr hz)] at this
 exact this
noncomputable def clr(cs:List In)(R:Nat):Nat->Nat:=M3 (λr=>da cs (r:Int)) (λr s=>ut cs (bM cs (dt cs)) r s=true) R
noncomputable def kf(cs:List In)(R:Nat):Nat:=lC (clr cs R) (λr=>da cs (r:Int)) R
omit hz ha in
theorem kw(cs:List In)(R:Nat):qu (λr=>da cs (r:Int)) (λr s=>ut cs (bM cs (dt cs)) r s=true) R (clr cs R):=xL _ _ _
omit ha in
theorem tf:gF Try.prog 42 [.fs 5 cs.length (cC cs)] (λ_=>True) (λM rs N=>∃(r1:Nat) (x:c9),rs=[.v (.cv (.map (some r1))),.v (.n .i64 (kf cs R))]/\N r1=some (.mp x)/\x.get=eR (jj (clr cs R) (bF cs R) (bF cs R).length)):=by
 have h:=cy hz
 have hR:=aR hz
 have hl:=pg cs R
 have hi:=jB cs (nxt cs (dt cs)) R (yE hz) h.ncs (AR hz) (aNx hz) Na (jK hz) aW1
 have hin:=mT hi (Post':=λM rs N=>∃(r0:Nat) (pa:Int->Option Nat) (T':Int->List Int),rs=[.v (.cv (.map (some r0)))]/\fJ r0 pa T' N/\(∀p,(T' p).Nodup)/\(∀p q,q ∈ T' p↔q ∈ zE cs (bM cs (dt cs)) R p)) (λM rs N ⟨r0,pa,T',e1,e2,e3,e4⟩=>⟨r0,pa,T',e1,e2,e3,λp q=>by
  rw[e4,sF,uu h.pok (jK hz)]
  exact⟨λg=>⟨(fB.range (jK hz) (AN hz) g).2,g⟩,λg=>g.2⟩⟩)
 refine mT (rI cs (zE cs (bM cs (dt cs)) R) (bF cs R) (cG cs R) (by omega) (tV _ _ _) (λp=>by have:=zD cs (bM cs (dt cs)) R p;omega) hin (M9 hz)) (λM rs N ⟨r1,x,K,e1,e2,e3,e4⟩=>?_)
 have hu:=t6 (cs:=cs) (R:=R) (T:=zE cs (bM cs (dt cs)) R) (nb:=λr s=>ut cs (bM cs (dt cs)) r s=true) (λa b ha hb=>by
  rw[sF,lc]
  exact⟨λg=>g.2,λg=>⟨by omega,g⟩⟩) e4 (kw cs R)
 rw[gg hu,m6] at e1
 rw[ju hu] at e3
 exact⟨r1,x,e1,e2,e3⟩
omit ha in
end
end Go.Proofs.Yteopfmnnhlhbmaa
namespace Go.Proofs.Yteopfmnnhlhbmaa
open Go.RowKit
noncomputable def oK(cs:List In)(R:Nat):List Int:=kL (clr cs R) R
theorem Gc{cs:List In}{R v:Nat}(h:v<R):clr cs R v<R:=by
 have:=(kw cs R).le v h
 omega
theorem Au(cs:List In)(R:Nat):kf cs R<=R:=sX (λr hr=>(kw cs R).le r hr)
section
variable {la:List (Bool×Int)} {R:Nat} {par:Int} {cs:List In} (hz:(gh la R par cs).2=0) (ha:nk cs)
include hz
theorem jw:∀x ∈ cs,ew (jj (clr cs R) (bF cs R) (bF cs R).length) x=oY (oK cs R) x:=λx hx=>by
 refine kU (Gr hz x hx) ?_ (λv h0 h1 hv=>?_)
 ·cases h:jj (clr cs R) (bF cs R) (bF cs R).length (-1) with
  |none=>rfl
  |some y=>
   obtain⟨i,_,h2,_⟩:=(iR (cG cs R) (Nat.le_refl _) _ _).1 h
   omega
 ·obtain⟨n,rfl⟩:∃n:Nat,v=n:=⟨v.toNat,by omega⟩
  have hm:n ∈ bF cs R:=fU.2 ⟨by omega,sx hx hv⟩
  obtain⟨i,hi,e⟩:=List.getElem_of_mem hm
  have e2:(bF cs R).getD i 0=n:=by rw[List.getD_eq_getElem?_getD,List.getElem?_eq_getElem hi,e];rfl
  refine(iR (cG cs R) (Nat.le_refl _) _ _).2 ⟨i,hi,by rw[e2],?_⟩
  rw[e2,Int.toNat_natCast]
  exact wT _ _ _ (by omega)
theorem zb:∀x ∈ cs,(-1<=iA (oK cs R) x.2.1/\iA (oK cs R) x.2.1<100000)/\(-1<=iA (oK cs R) x.2.2.1/\iA (oK cs R) x.2.2.1<100000)/\(-1<=iA (oK cs R) x.2.2.2.1/\iA (oK cs R) x.2.2.2.1<100000):=λx hx=>by
 have hR:=aR hz
 have key:∀v:Int,(v= -1\/(0<=v/\v<(R:Int)/\v ∈ bW x))-> -1<=iA (oK cs R) v/\iA (oK cs R) v<100000:=λv hv=>by
  unfold iA
  rcases hv with rfl|⟨h0,h1,_⟩
  ·rw[if_pos (by decide)];omega
  ·rw[if_neg (by omega)]
   have hv:v.toNat<R:=by omega
   have e:(oK cs R).getD v.toNat 0=((clr cs R v.toNat:Nat):Int):=wT _ _ _ hv
   rw[e]
   have:=Gc (cs:=cs) hv
   omega
 obtain⟨h1,h2,h3⟩:=(Gr hz x hx).regs3
 exact⟨key _ h1,key _ h2,key _ h3⟩
include ha
theorem uV{r:Nat}(hr:4<=r/\r<=1024)(hn:kf cs R<=r):bO Try.prog 17 [aH la.length (aC la) R par cs,.n .i64 r] [.v (aH la.length (aC la) (kf cs R) par (cs.map (oY (oK cs R)))),.v (.n .i64 0)]:=by
 have h:=cy hz
 have hA:=h.nA
 have:=yw la R par cs _ (by omega) h.ncs r (kf cs R) hr _ (rZ hz ha) (tf hz) hn
 rw[List.map_congr_left (jw hz)] at this
 exact this
theorem uU{r:Nat}(hr:4<=r/\r<=1024)(hn:r<kf cs R):bO Try.prog 17 [aH la.length (aC la) R par cs,.n .i64 r] (if 1024<par+(kf cs R:Int)-((r:Int)-3)\/16384<(vJ (oK cs R) ((r:Int)-3) par cs).length then[.v AZ,.v (.n .i64 6)] else[.v (aH la.length (aC la) r (par+(kf cs R:Int)-((r:Int)-3)) (vJ (oK cs R) ((r:Int)-3) par cs)),.v (.n .i64 0)]):=by
 have h:=cy hz
 have hA:=h.nA
 have hR:=aR hz
 have hcl:=Au cs R
 have e:nw (jj (clr cs R) (bF cs R) (bF cs R).length) ((r:Int)-3) par cs=vJ (oK cs R) ((r:Int)-3) par cs:=by
  unfold nw vJ
  rw[List.map_congr_left (λx hx=>by rw[jw hz x hx])]
 have hg:∀y ∈ cs,(-1<=fj (jj (clr cs R) (bF cs R) (bF cs R).length) y.2.1/\fj (jj (clr cs R) (bF cs R) (bF cs R).length) y.2.1<100000)/\(-1<=fj (jj (clr cs R) (bF cs R) (bF cs R).length) y.2.2.1/\fj (jj (clr cs R) (bF cs R) (bF cs R).length) y.2.2.1<100000)/\(-1<=fj (jj (clr cs R) (bF cs R) (bF cs R).length) y.2.2.2.1/\fj (jj (clr cs R) (bF cs R) (bF cs R).length) y.2.2.2.1<100000):=λy hy=>by
  have e1:=jw hz y hy
  unfold ew oY at e1
  simp only[Prod.mk.injEq,true_and] at e1
  obtain⟨e1,e2,e3,_⟩:=e1
  rw[e1,e2,e3]
  exact zb hz y hy
 have:=yu la R par cs _ (by omega) h.ncs r (kf cs R) hr _ (rZ hz ha) (tf hz) hn (by omega) (PP hz) hg
 rw[e] at this
 exact this
end
end Go.Proofs.Yteopfmnnhlhbmaa
namespace Go.Proofs.Yteopfmnnhlhbmaa
open Go.RowKit
def vd:List In->Int->Bool
 |[],_=>false
 |x::l,r=>(ax x.1 x.2.2.1 x.2.2.2.1).contains r||(!decide (r=a7 x.1 x.2.1)&&vd l r)
def lu(cs:List In):Bool:=cs.all λx=>decide (¬dC x.1)
theorem Ac{cs:List In}(h:lu cs=true){i:Nat}(hi:i<cs.length):¬dC (bR cs i):=by
 have:=List.all_eq_true.1 h (cs.getD i (0,0,0,0,0)) (by rw[List.getD_eq_getElem?_getD,List.getElem?_eq_getElem hi];exact List.getElem_mem hi)
 exact of_decide_eq_true this
theorem sQ{cs:List In}(h:lu cs=true)(pt:Nat->Nat){i:Nat}(hi:i<cs.length):bM cs pt i=[i+1]:=by
 have:=Ac h hi
 unfold dC at this
 unfold bM
 rw[if_neg (by omega),if_neg (by omega),if_neg (by omega)]
theorem qZ{cs:List In}{nx:Nat->List Nat}(hnx:∀i,i<cs.length->nx i=[i+1]){i:Nat}{r:Int}:bp cs nx i r↔vd (cs.drop i) r=true:=by
 constructor
 ·intro h
  induction h with
  |@read i r hi h=>
   rw[List.drop_eq_getElem_cons hi]
   have e:cs.getD i (0,0,0,0,0)=cs[i]:=by rw[List.getD_eq_getElem?_getD,List.getElem?_eq_getElem hi];rfl
   rw[e] at h
   unfold vd
   rw[List.contains_iff_mem.2 h];rfl
  |@flow i k r hi hk h hw ih=>
   rw[hnx i hi] at hk
   simp at hk
   subst hk
   rw[List.drop_eq_getElem_cons hi]
   have e:cs.getD i (0,0,0,0,0)=cs[i]:=by rw[List.getD_eq_getElem?_getD,List.getElem?_eq_getElem hi];rfl
   rw[e] at hw
   unfold vd
   rw[ih,decide_eq_false hw]
   simp
 ·intro h
  by_cases hi:i<cs.length
  ·have e:cs.getD i (0,0,0,0,0)=cs[i]:=by rw[List.getD_eq_getElem?_getD,List.getElem?_eq_getElem hi];rfl
   have ih:vd (cs.drop (i+1)) r=true->bp cs nx (i+1) r:=λh=>(qZ hnx).2 h
   rw[List.drop_eq_getElem_cons hi] at h
   unfold vd at h
   simp only[Bool.or_eq_true,Bool.and_eq_true,Bool.not_eq_true',decide_eq_false_iff_not] at h
   rcases h with h|⟨h1,h2⟩
   ·exact .read hi (by rw[e];exact List.contains_iff_mem.1 h)
   ·exact .flow hi (by rw[hnx i hi];simp) (ih h2) (by rw[e];exact h1)
  ·rw[List.drop_eq_nil_of_le (by omega)] at h
   cases h
termination_by cs.length-i
decreasing_by omega
theorem zU{cs:List In}{nx:Nat->List Nat}(hnx:∀i,i<cs.length->nx i=[i+1])(R i:Nat):cY cs nx R i=(List.range R).filter λr:Nat=>vd (cs.drop i) (r:Int):=by
 unfold cY
 congr 1
 funext r
 rw[Bool.eq_iff_iff,@decide_eq_true_iff _ (Classical.propDecidable _)]
 exact qZ hnx
def Nj(cs:List In)(p q:Int):Bool:=(!decide (p=q)&&(vd cs p&&vd cs q))||(List.range cs.length).any λi=>decide (0<=qw cs i)&&((decide (p=qw cs i)&&(!decide (q=p)&&vd (cs.drop (i+1)) q))||(decide (q=qw cs i)&&(!decide (p=q)&&vd (cs.drop (i+1)) p)))
theorem wW{cs:List In}{nx:Nat->List Nat}(hnx:∀i,i<cs.length->nx i=[i+1]){p q:Int}:fB cs nx p q↔Nj cs p q=true:=by
 unfold fB Nj
 simp only[Bool.or_eq_true,Bool.and_eq_true,Bool.not_eq_true',decide_eq_false_iff_not,decide_eq_true_eq,List.any_eq_true,List.mem_range,qZ hnx,List.drop_zero]
 constructor
 ·rintro (h|⟨i,k,h1,h2,h3,h4⟩)
  ·exact .inl h
  ·rw[hnx i h1] at h2
   simp at h2
   subst h2
   exact .inr ⟨i,h1,h3,h4⟩
 ·rintro (h|⟨i,h1,h3,h4⟩)
  ·exact .inl h
  ·exact .inr ⟨i,i+1,h1,by rw[hnx i h1];simp,h3,h4⟩
def zH(l:List Nat):Nat:=((List.range (l.length+1)).find? λc=> !l.contains c).getD 0
def hZ(cs:List In):Nat->List Nat
 |0=>[]
 |r+1=>hZ cs r++[if da cs (r:Int)=true then zH (((List.range r).filter λs:Nat=>da cs (s:Int)&&Nj cs (r:Int) (s:Int)).map λs=>(hZ cs r).getD s 0) else 0]
theorem i9(cs:List In):∀n,(hZ cs n).length=n
 |0=>rfl
 |n+1=>by unfold hZ;rw[List.length_append,List.length_singleton,i9 cs n]
theorem ja(cs:List In):∀(n r:Nat),r<n->(hZ cs n).getD r 0=(hZ cs (r+1)).getD r 0
 |0,r,h=>by omega
 |n+1,r,h=>by
  by_cases e:r=n
  ·subst e;rfl
  ·conv=>lhs;unfold hZ
   rw[List.getD_eq_getElem?_getD,List.getElem?_append_left (by rw[i9];omega),<-List.getD_eq_getElem?_getD]
   exact ja cs n r (by omega)
theorem wu(l:List Nat):dW (λc=>c ∈ l) (zH l):=by
 unfold zH
 cases h:(List.range (l.length+1)).find? (λc=> !l.contains c) with
 |none=>
  exfalso
  have h1:=List.find?_eq_none.1 h
  have:=fe (l:=List.range (l.length+1)) (l':=l) List.nodup_range (λc hc=>by
   have:=h1 c hc
   simpa using this)
  rw[List.length_range] at this
  omega
 |some c=>
  rw[Option.getD_some]
  obtain⟨h1,l1,l2,h2,h3⟩:=List.find?_eq_some_iff_append.1 h
  refine⟨by simpa using h1,λc' hc'=>?_⟩
  have hlen:l1.length=c:=by
   have e1:(List.range (l.length+1))[l1.length]? =some c:=by rw[h2,List.getElem?_append_right (Nat.le_refl _),Nat.sub_self];rfl
   obtain⟨q1,q2⟩:=List.getElem?_eq_some_iff.1 e1
   rw[List.getElem_range] at q2
   exact q2
  have hm:c' ∈ l1:=by
   have e1:(List.range (l.length+1))[c']? =some c':=List.getElem?_range (by
    have:=congrArg List.length h2
    simp at this
    omega)
   rw[h2,List.getElem?_append_left (by omega)] at e1
   exact List.mem_of_getElem? e1
  have:=h3 c' hm
  simpa using this
theorem xK(cs:List In){nx:Nat->List Nat}(hnx:∀i,i<cs.length->nx i=[i+1])(n:Nat):qu (λr=>da cs (r:Int)) (λr s=>ut cs nx r s=true) n (λr=>(hZ cs n).getD r 0):=by
 have key:∀r,r<n->(hZ cs n).getD r 0=if da cs (r:Int)=true then zH (((List.range r).filter λs:Nat=>da cs (s:Int)&&Nj cs (r:Int) (s:Int)).map λs=>(hZ cs n).getD s 0) else 0:=λr hr=>by
  rw[ja cs n r hr]
  conv=>lhs;unfold hZ
  rw[List.getD_eq_getElem?_getD,List.getElem?_append_right (by rw[i9];exact Nat.le_refl _),i9,Nat.sub_self,List.getElem?_cons_zero,Option.getD_some]
  split
  ·congr 1
   refine List.map_congr_left (λs hs=>?_)
   have hs:=List.mem_range.1 (List.mem_filter.1 hs).1
   rw[ja cs n s (by omega),ja cs r s hs]
  ·rfl
 refine⟨λr hr ho=>?_,λr hr ho=>?_⟩
 ·have e:=key r hr
  rw[if_pos ho] at e
  show dW _ ((hZ cs n).getD r 0)
  rw[e]
  refine(wu _).congr (λc=>?_)
  simp only[List.mem_map,List.mem_filter,List.mem_range,Bool.and_eq_true]
  constructor
  ·rintro ⟨s,⟨h1,h2,h3⟩,h4⟩
   exact⟨s,h1,h2,lc.2 ((wW hnx).2 h3),h4⟩
  ·rintro ⟨s,h1,h2,h3,h4⟩
   exact⟨s,⟨h1,h2,(wW hnx).1 (lc.1 h3)⟩,h4⟩
 ·have e:=key r hr
  rw[if_neg (by show ¬_;rw[show da cs (r:Int)=false from ho];decide)] at e
  exact e
theorem Br{cs:List In}(h:lu cs=true)(R:Nat):∀r,r<R->clr cs R r=(hZ cs R).getD r 0:=
 (kw cs R).uniq (xK cs (λi hi=>sQ h _ hi) R) (λ_ _=>Iff.rfl)
theorem Bk{cs:List In}(h:lu cs=true)(R:Nat):oK cs R=(List.range R).map λr=>(((hZ cs R).getD r 0:Nat):Int):=by
 unfold oK kL
 exact List.map_congr_left (λr hr=>by rw[Br h R r (List.mem_range.1 hr)])
theorem xO{cs:List In}(h:lu cs=true)(R:Nat):kf cs R=lC (λr=>(hZ cs R).getD r 0) (λr=>da cs (r:Int)) R:=lB (Br h R)
theorem ntG(l:List Nat)(i j:Nat):eJ l i j= .n .i64 ((l.getD i 0:Nat):Int):=rfl
theorem uH(l:List Nat)(hl:l.length<=100000):bO Try.prog 16 [.fs 1 l.length (eJ l),.fs 1 l.length (eJ l)] [.v (.b true)]:=by
 have hadd:∀j:Nat,j<200000->IntKind.wrap .i64 ((j:Int)+1)=((j+1:Nat):Int):=λj hj=>by rw[aX (by omega)];omega
 have hll:decide ((l.length:Int)=(l.length:Int))=true:=decide_eq_true rfl
 refine aN bc Ia ⟨by simp,by decide⟩ ?_
 simp only[bJ]
 repeat first|with_reducible refine ao ?_|simp only[hll,decide_true,go_sem,simprocAttr]
 refine GA.loop (I:=λmm e H=>∃(k:Nat),mm=l.length-k/\k<=l.length/\e=aF [(0,.fs 1 l.length (eJ l)),(1,.fs 1 l.length (eJ l)),(12,.n .i64 l.length),(13,.n .i64 k)]/\H=bg []) (Wk.mk [] [] ?_ ?_ ?_) ⟨0,rfl,Nat.zero_le _,rfl,rfl⟩ ?_
 ·simp only[bj,ba,go_sem,simprocAttr]
  repeat' refine ab ?_ ?_
  all_goals first|exact bq|skip
 ·exact .nil
 ·simp
 rintro mm e H ⟨k,rfl,hk,rfl,rfl⟩
 repeat first|with_reducible refine ao ?_|simp only[go_sem,simprocAttr]
 refine⟨λh=>?_,λh=>?_⟩
 ·have hkl:k<l.length:=by omega
  have hk0:(0:Int)<=(k:Int):=by omega
  have ha:=hadd k (by omega)
  have hg:=ntG l k 0
  have hvv:decide (((l.getD k 0:Nat):Int)=((l.getD k 0:Nat):Int))=true:=decide_eq_true rfl
  repeat first|with_reducible refine ao ?_|simp only[hk0,h,hg,hvv,ha,decide_true,go_sem,simprocAttr]
  refine⟨_,_,_,?_,Wk.mk [] [] ?_ ?_ ?_,k+1,rfl,by omega,rfl,rfl⟩
  ·omega
  ·simp only[bj,ba,go_sem,simprocAttr]
   repeat' refine ab ?_ ?_
   all_goals first|exact bq|skip
  ·exact .nil
  ·simp
 ·repeat first|with_reducible refine ao ?_|simp only[go_sem,simprocAttr]
  exact⟨[_],rfl,du.v rfl rfl .nil⟩
theorem gM(n:Nat)(hn:n<=100000)(L:Nat->List Nat)(hL:∀i,(L i).length<=100000):bO Try.prog 15 [.fs 1 n (gC L),.fs 1 n (gC L),.f 16 [] []] [.v (.b true)]:=by
 have hadd:∀j:Nat,j<200000->IntKind.wrap .i64 ((j:Int)+1)=((j+1:Nat):Int):=λj hj=>by rw[aX (by omega)];omega
 have hll:decide ((n:Int)=(n:Int))=true:=decide_eq_true rfl
 refine aN bc Iq ⟨by simp,by decide⟩ ?_
 simp only[bJ]
 repeat first|with_reducible refine ao ?_|simp only[hll,decide_true,go_sem,simprocAttr]
 refine GA.loop (I:=λmm e H=>∃(k:Nat),mm=n-k/\k<=n/\e=aF [(1,.fs 1 n (gC L)),(2,.f 16 [] []),(15,.fs 1 n (gC L)),(16,.n .i64 n),(17,.n .i64 k)]/\H=bg []) (Wk.mk [] [] ?_ ?_ ?_) ⟨0,rfl,Nat.zero_le _,rfl,rfl⟩ ?_
 ·simp only[bj,ba,go_sem,simprocAttr]
  repeat' refine ab ?_ ?_
  all_goals first|exact bq|skip
 ·exact .nil
 ·simp
 rintro mm e H ⟨k,rfl,hk,rfl,rfl⟩
 repeat first|with_reducible refine ao ?_|simp only[go_sem,simprocAttr]
 refine⟨λh=>?_,λh=>?_⟩
 ·have hkl:k<n:=by omega
  have hk0:(0:Int)<=(k:Int):=by omega
  have ha:=hadd k (by omega)
  have hg:gC L k 0= .fs 1 (L k).length (eJ (L k)):=rfl
  repeat first|with_reducible refine ao ?_|simp only[hk0,h,hg,decide_true,go_sem,simprocAttr]
  refine MT (uH (L k) (hL k)) ?_
  repeat first|with_reducible refine ao ?_|simp only[ha,go_sem,simprocAttr]
  refine⟨_,_,_,?_,Wk.mk [] [] ?_ ?_ ?_,k+1,rfl,by omega,rfl,rfl⟩
  ·omega
  ·simp only[bj,ba,go_sem,simprocAttr]
   repeat' refine ab ?_ ?_
   all_goals first|exact bq|skip
  ·exact .nil
  ·simp
 ·repeat first|with_reducible refine ao ?_|simp only[go_sem,simprocAttr]
  exact⟨[_],rfl,du.v rfl rfl .nil⟩
def dJ(k:Nat):In:=(0,(k:Int),-1,-1,((k+5:Nat):Int))
def eV(k:Nat):In:=(34,-1,(k:Int),-1,0)
theorem iH(k:Nat)(hk:k<=1000):bO Try.prog 34 [.n .i64 k] [.v (gX (dJ k))]:=by
 have h1:IntKind.wrap .i64 ((k:Int)+5)=((k+5:Nat):Int):=by rw[aX (by omega)];omega
 have h2:IntKind.wrap .u32 (((k+5:Nat)):Int)=((k+5:Nat):Int):=yQ (by omega)
 refine aN bc IJ ⟨by simp,by decide⟩ ?_
 simp only[bJ]
 repeat first|with_reducible refine ao ?_|simp only[h1,h2,go_sem,simprocAttr]
 exact⟨[_],rfl,du.v rfl rfl .nil⟩
theorem pT(k:Nat):bO Try.prog 35 [.n .i64 k] [.v (gX (eV k))]:=by
 refine aN bc IG ⟨by simp,by decide⟩ ?_
 simp only[bJ]
 repeat first|with_reducible refine ao ?_|simp only[go_sem,simprocAttr]
 exact⟨[_],rfl,du.v rfl rfl .nil⟩
def oM:List In:=[dJ 0,dJ 1,(8,2,0,1,0),eV 2]
def oe:List In:=[dJ 0,dJ 1,dJ 2,dJ 3,dJ 4,eV 0,eV 1,eV 2,eV 3,eV 4]
def PN(i:Nat):List Nat:=(List.range 3).filter λr:Nat=>vd (oM.drop i) (r:Int)
theorem ly:lu oM=true:=by rfl
theorem pQ:lu oe=true:=by rfl
theorem rA:(gh [] ((3:Nat):Int) 0 oM).2=0:=by rfl
theorem F8:(gh [] ((5:Nat):Int) 0 oe).2=0:=by rfl
theorem oh:nk oM:=by
 intro x hx
 simp only[oM,dJ,eV,List.mem_cons,List.not_mem_nil,or_false] at hx
 rcases hx with rfl|rfl|rfl|rfl<;>simp
theorem Ag:nk oe:=by
 intro x hx
 simp only[oe,dJ,eV,List.mem_cons,List.not_mem_nil,or_false] at hx
 rcases hx with rfl|rfl|rfl|rfl|rfl|rfl|rfl|rfl|rfl|rfl<;>simp
theorem pR:cY oM (bM oM (dt oM)) 3=PN:=by
 funext i
 exact zU (λj hj=>sQ ly _ hj) 3 i
theorem F7:bO Try.prog 11 [aH 0 (aC []) 3 0 oM] [.v (.fs 1 5 (gC PN)),.v (.n .i64 0)]:=by
 have:=yD (la:=[]) (R:=3) (par:=0) (cs:=oM) rA oh
 rw[pR] at this
 exact this
theorem rx:bO Try.prog 13 [aH 0 (aC []) 3 0 oM] [.v (.n .i64 2),.v (.n .i64 0)]:=by
 have:=ns (la:=[]) (R:=3) (par:=0) (cs:=oM) rA oh
 rw[pR] at this
 exact this
theorem og:kf oM 3=2/\oK oM 3=[0,1,0]:=by
 rw[xO ly,Bk ly]
 exact⟨by rfl,by rfl⟩
theorem oa:kf oe 5=5/\oK oe 5=[0,1,2,3,4]:=by
 rw[xO pQ,Bk pQ]
 exact⟨by rfl,by rfl⟩
def F9:List In:=[dJ 0,dJ 1,(8,0,0,1,0),eV 0]
theorem xq:bO Try.prog 17 [aH 0 (aC []) 3 0 oM,.n .i64 4] [.v (aH 0 (aC []) 2 0 F9),.v (.n .i64 0)]:=by
 have:=uV (la:=[]) (R:=3) (par:=0) (cs:=oM) rA oh (r:=4) (by omega) (by rw[og.1];omega)
 rw[og.1,og.2] at this
 exact this
def ry:List In:=vJ [0,1,2,3,4] 1 0 oe
theorem pP:bO Try.prog 17 [aH 0 (aC []) 5 0 oe,.n .i64 4] [.v (aH 0 (aC []) 4 4 ry),.v (.n .i64 0)]:=by
 have:=uU (la:=[]) (R:=5) (par:=0) (cs:=oe) F8 Ag (r:=4) (by omega) (by rw[oa.1];omega)
 rw[oa.1,oa.2] at this
 exact this
def xp(k:Nat):List In:=oe.take k
theorem pO(k:Nat)(hk:k<10):xp (k+1)=xp k++[oe.getD k (0,0,0,0,0)]:=by
 unfold xp
 rw[List.take_add_one,List.getD_eq_getElem?_getD,List.getElem?_eq_getElem (show k<oe.length from hk)]
 rfl
theorem n9(k:Nat)(hk:k<=10):(xp k).length=k:=by
 unfold xp
 rw[List.length_take]
 exact Nat.min_eq_left hk
theorem rC{M:List Nat}{H:AH}{b:Nat}{x:AB}(hm:b ∈ M)(hx:H.at b=some x)(hs:x.size=20)(hg:∀i j,i<4->j<5->x.get (0+i*5+j)=cC oM i j):Cv M H (.agg [.sl0,.n .i64 3,.n .i64 0,.sl b 0 4 4]) (aH 0 (aC []) 3 0 oM):=by
 refine .agg rfl λi v v' h1 h2=>?_
 match i,h1,h2 with
 |0,h1,h2=>cases h1;cases h2;exact .sl0 _ _
 |1,h1,h2=>cases h1;cases h2;exact .rfl rfl
 |2,h1,h2=>cases h1;cases h2;exact .rfl rfl
 |3,h1,h2=>cases h1;cases h2;exact .sl (x:=x) hm hx (by rw[hs];decide) (by decide) (by rw[hs];decide) hg (λi j _ hj=>b8 i hj)
 |i+4,h1,h2=>cases h1
theorem Gb{M:List Nat}{H:AH}:Cv M H (.agg [.sl0,.n .i64 5,.n .i64 0,.fs 5 10 (cC oe)]) (.agg [.fs 2 0 (aC []),.n .i64 5,.n .i64 0,.fs 5 10 (cC oe)]):=by
 refine .agg rfl λi v v' h1 h2=>?_
 match i,h1,h2 with
 |0,h1,h2=>cases h1;cases h2;exact .sl0 _ _
 |1,h1,h2=>cases h1;cases h2;exact .rfl rfl
 |2,h1,h2=>cases h1;cases h2;exact .rfl rfl
 |3,h1,h2=>cases h1;cases h2;exact .rfl rfl
 |i+4,h1,h2=>cases h1
theorem Gj:GA Try.prog 126 (aK Try.prog 10) (.seq (.reg Ba) (.seq (.seq (.reg A9) (.block 0 vl)) (.seq (.seq (.reg vi) (.block 2 vk)) (.seq (.reg vh) (.seq (.mix vj) .ret))))) (aF []) (bg []) (i8 [.mv (.t 0)] λv H=>∃l,v=bD l/\du [.v (.b true)] l H):=by
 have h4:=pP
 have hadd:∀j:Nat,j<200000->IntKind.wrap .i64 ((j:Int)+1)=((j+1:Nat):Int):=λj hj=>by rw[aX (by omega)];omega
 have sl:∀k:Nat,k<10->(k+1)*5<1099511627776/\(k+1)*40<=140737488355328/\k<=9223372036854775806:=λk h=>by omega
 have cD:∀k i j,i<k->k<10->cC (xp (k+1)) i j=cC (xp k) i j:=λk i j hi hk=>by
  unfold cC
  rw[pO k hk,List.getD_eq_getElem?_getD,List.getD_eq_getElem?_getD,List.getElem?_append_left (by rw[n9 k (by omega)];exact hi),<-List.getD_eq_getElem?_getD]
 have cE:∀k j,k<10->cC (xp (k+1)) k j=cC oe k j:=λk j hk=>by
  unfold cC
  rw[pO k hk,List.getD_eq_getElem?_getD,List.getElem?_append_right (by rw[n9 k (by omega)];exact Nat.le_refl _),n9 k (by omega),Nat.sub_self]
  rfl
 have dP:∀k,k<5->oe.getD k (0,0,0,0,0)=dJ k:=λk hk=>by
  rcases(by omega:k=0\/k=1\/k=2\/k=3\/k=4) with rfl|rfl|rfl|rfl|rfl<;>rfl
 have dE:∀k,k<5->oe.getD (5+k) (0,0,0,0,0)=eV k:=λk hk=>by
  rcases(by omega:k=0\/k=1\/k=2\/k=3\/k=4) with rfl|rfl|rfl|rfl|rfl<;>rfl
 (try simp only[go_sem,simprocAttr])
 iterate 3 (with_reducible refine GA.go bc rfl ?_;try simp only[go_sem,simprocAttr])
 refine GA.wk (Wk.mk (L:=[(8,.p 0 0)]) (bl:=[bh 0 25 [.sl0,.n .i64 5,.n .i64 0,.sl0]]) [0] [] ?_ ?_ ?_) ?_
 ·simp only[bj,ba,go_sem,simprocAttr]
  repeat' refine ab ?_ ?_
  all_goals first|exact bq|skip
 ·exact .cons rfl (.lstw (x:=_) (by simp only[go_sem,simprocAttr]<;>rfl) (by rfl) (by rfl) (by rfl) (by rfl) (by rfl) (by rfl) (by simp) (λi hi=>(by rcases iX hi with rfl|rfl|rfl|rfl<;>(simp only[go_sem,simprocAttr];first|exact Wv.same rfl|exact Wv.os rfl)))) .nil
 ·simp
 refine GA.wk (Wk.nilb 0 3 5 60 (x:=bh 0 25 [.sl0,.n .i64 5,.n .i64 0,.sl0]) (by simp only[go_sem,simprocAttr]) (by simp only[go_sem,simprocAttr]) (by decide) (by decide) (by simp only[go_sem,simprocAttr]) rfl (by simp only[go_sem,simprocAttr])) ?_
 repeat first|with_reducible refine ao ?_|simp only[go_sem,simprocAttr]
 refine GA.loop (I:=λmm e H=>∃(k m:Nat),mm=5-k/\k<=5/\m=0+k/\e=aF [(8,.p 0 0),(73,.n .i64 k)]/\H=bg [aI 60 5 m 0 (cC (xp m)),bh 0 25 [.sl0,.n .i64 5,.n .i64 0,.os 1 m]]) (Wk.mk [1,0] [] ?_ ?_ ?_) ⟨0,0,rfl,Nat.zero_le _,rfl,rfl,rfl⟩ ?_
 ·simp only[bj,ba,go_sem,simprocAttr]
  repeat' refine ab ?_ ?_
  all_goals first|exact bq|skip
 ·exact .cons rfl (.rows (x:=_) (by simp only[go_sem,simprocAttr];rfl) (by rfl) (by rfl) (by rfl) (by show 0*5<=0;decide) (by exact Nat.le_refl _) (by decide) (λi j hi=>absurd (show i<0 from hi) (Nat.not_lt_zero _)) (λi j hi=>absurd (show i<0 from hi) (Nat.not_lt_zero _))) (.cons rfl (.lstw (x:=_) (by simp only[go_sem,simprocAttr]<;>rfl) (by rfl) (by rfl) (by rfl) (by rfl) (by rfl) (by rfl) (by simp) (λi hi=>(by rcases iX hi with rfl|rfl|rfl|rfl<;>(simp only[go_sem,simprocAttr];first|exact Wv.same rfl|exact Wv.os rfl)))) .nil)
 ·simp
 rintro mm e H ⟨k,m,rfl,hk,hm,rfl,rfl⟩
 repeat first|with_reducible refine ao ?_|simp only[go_sem,simprocAttr]
 refine⟨λh=>?_,λh=>?_⟩
 ·have hkl:k<5:=by omega
  have ha:=hadd k (by omega)
  obtain⟨s1,s2,s3⟩:=sl m (by omega)
  repeat first|with_reducible refine ao ?_|simp only[h,s1,s2,s3,decide_true,go_sem,simprocAttr]
  refine au [] (.cons (.rfl (by rfl)) .nil) (iH k (by omega)) (by simp only[AH.mark_next,ag,ay,az,aq,am,aw,af,av,ah,List.length_cons,List.length_nil];decide) ?_
  simp only[gX,dJ,go_sem,simprocAttr]
  repeat first|with_reducible refine ao ?_|simp only[ha,s1,s2,s3,decide_true,go_sem,simprocAttr]
  refine⟨_,_,_,?_,Wk.mk [3,0] [] ?_ ?_ ?_,k+1,m+1,rfl,by omega,by omega,rfl,rfl⟩
  ·omega
  ·simp only[bj,ba,go_sem,simprocAttr]
   repeat' refine ab ?_ ?_
   all_goals first|exact bq|skip
  ·exact .cons rfl (.snoc (by simp only[go_sem,simprocAttr]<;>rfl) (by simp) (by rfl) rfl (by decide) (by omega) (λi j hi _=>cD m i j hi (by omega)) (λj hj=>by
    rw[cE m j (by omega)];unfold cC;rw[show m=k by omega,dP k (by omega)];rcases gV hj with rfl|rfl|rfl|rfl|rfl<;>rfl) (λi j _ hj=>by rcases gV hj with rfl|rfl|rfl|rfl|rfl<;>rfl)) (.cons rfl (.lstw (x:=_) (by simp only[go_sem,simprocAttr]<;>rfl) (by rfl) (by rfl) (by rfl) (by rfl) (by rfl) (by rfl) (by simp) (λi hi=>(by rcases iX hi with rfl|rfl|rfl|rfl<;>(simp only[go_sem,simprocAttr];first|exact Wv.same rfl|exact Wv.os rfl)))) .nil)
  ·simp
 have hk5:m=5:=by omega
 subst hk5
 repeat first|with_reducible refine ao ?_|simp only[go_sem,simprocAttr]
 refine GA.loop (I:=λmm e H=>∃(k m:Nat),mm=5-k/\k<=5/\m=5+k/\e=aF [(8,.p 0 0),(84,.n .i64 k)]/\H=bg [aI 60 5 m 0 (cC (xp m)),bh 0 25 [.sl0,.n .i64 5,.n .i64 0,.os 1 m]]) (Wk.mk [1,0] [] ?_ ?_ ?_) ⟨0,5,rfl,Nat.zero_le _,rfl,rfl,rfl⟩ ?_
 ·simp only[bj,ba,go_sem,simprocAttr]
  repeat' refine ab ?_ ?_
  all_goals first|exact bq|skip
 ·exact .cons rfl .k5 (.cons rfl (.lstw (x:=_) (by simp only[go_sem,simprocAttr]<;>rfl) (by rfl) (by rfl) (by rfl) (by rfl) (by rfl) (by rfl) (by simp) (λi hi=>(by rcases iX hi with rfl|rfl|rfl|rfl<;>(simp only[go_sem,simprocAttr];first|exact Wv.same rfl|exact Wv.os rfl)))) .nil)
 ·simp
 rintro mm e H ⟨k,m,rfl,hk,hm,rfl,rfl⟩
 repeat first|with_reducible refine ao ?_|simp only[go_sem,simprocAttr]
 refine⟨λh=>?_,λh=>?_⟩
 ·have hkl:k<5:=by omega
  have ha:=hadd k (by omega)
  obtain⟨s1,s2,s3⟩:=sl m (by omega)
  repeat first|with_reducible refine ao ?_|simp only[h,s1,s2,s3,decide_true,go_sem,simprocAttr]
  refine au [] (.cons (.rfl (by rfl)) .nil) (pT k) (by simp only[AH.mark_next,ag,ay,az,aq,am,aw,af,av,ah,List.length_cons,List.length_nil];decide) ?_
  simp only[gX,eV,go_sem,simprocAttr]
  repeat first|with_reducible refine ao ?_|simp only[ha,s1,s2,s3,decide_true,go_sem,simprocAttr]
  refine⟨_,_,_,?_,Wk.mk [3,0] [] ?_ ?_ ?_,k+1,m+1,rfl,by omega,by omega,rfl,rfl⟩
  ·omega
  ·simp only[bj,ba,go_sem,simprocAttr]
   repeat' refine ab ?_ ?_
   all_goals first|exact bq|skip
  ·exact .cons rfl (.snoc (by simp only[go_sem,simprocAttr]<;>rfl) (by simp) (by rfl) rfl (by decide) (by omega) (λi j hi _=>cD m i j hi (by omega)) (λj hj=>by
    rw[cE m j (by omega)];unfold cC;rw[show m=5+k by omega,dE k (by omega)];rcases gV hj with rfl|rfl|rfl|rfl|rfl<;>rfl) (λi j _ hj=>by rcases gV hj with rfl|rfl|rfl|rfl|rfl<;>rfl)) (.cons rfl (.lstw (x:=_) (by simp only[go_sem,simprocAttr]<;>rfl) (by rfl) (by rfl) (by rfl) (by rfl) (by rfl) (by rfl) (by simp) (λi hi=>(by rcases iX hi with rfl|rfl|rfl|rfl<;>(simp only[go_sem,simprocAttr];first|exact Wv.same rfl|exact Wv.os rfl)))) .nil)
  ·simp
 have hk5:m=10:=by omega
 subst hk5
 refine GA.wk (Wk.mk (L:=[(8,.p 0 0)]) (bl:=[bh 0 25 [.sl0,.n .i64 5,.n .i64 0,.fs 5 10 (cC oe)]]) [0] [1] ?_ ?_ ?_) ?_
 ·simp only[bj,ba,go_sem,simprocAttr]
  repeat' refine ab ?_ ?_
  all_goals first|exact bq|skip
 ·exact .cons rfl (.lstw (x:=_) (by simp only[go_sem,simprocAttr]<;>rfl) (by rfl) (by rfl) (by rfl) (by rfl) (by rfl) (by rfl) (by simp) (λi hi=>(by rcases iX hi with rfl|rfl|rfl|rfl<;>(simp only[go_sem,simprocAttr];first|exact Wv.same rfl|exact Wv.cv (Cv.own (ty:=60) (z:=0) (row:=cC (xp 10)) (by simp) (by simp only[go_sem,simprocAttr]) (λi j _ hj=>b8 i hj)))))) .nil
 ·simp
 have hl18:((ry.length:Nat):Int)=18:=rfl
 have hc0:cC ry 0 0= .n .i64 0:=rfl
 have hc1:cC ry 0 1= .n .i64 0:=rfl
 have hc2:cC ry 0 2= .n .i64 (-1):=rfl
 have hc3:cC ry 0 3= .n .i64 (-1):=rfl
 have hc4:cC ry 0 4= .n .u32 5:=rfl
 have hlt:(0:Int)<18:=by omega
 have h00:(0:Int)<=0:=by omega
 have d1:decide ((0:Int)=0)=true:=decide_eq_true rfl
 have d2:decide ((4:Int)=4)=true:=decide_eq_true rfl
 have d3:decide ((18:Int)=18)=true:=decide_eq_true rfl
 have d4:decide ((5:Int)=5)=true:=decide_eq_true rfl
 have d5:decide ((-1:Int)= -1)=true:=decide_eq_true rfl
 have hx10:oe.length=10:=rfl
 simp only[aH,hx10] at h4
 repeat first|with_reducible refine ao ?_|simp only[go_sem,simprocAttr]
 refine au [] (.cons Gb (.cons (.rfl (by rfl)) .nil)) h4 (by simp only[AH.mark_next,ag,ay,az,aq,am,aw,af,av,ah,List.length_cons,List.length_nil];decide) ?_
 repeat first|with_reducible refine ao ?_|simp only[d1,d2,d3,hl18,hlt,h00,hc0,hc1,hc2,hc3,hc4,decide_true,go_sem,simprocAttr]
 refine au [] (.cons (.rfl (by rfl)) .nil) (iH 0 (by omega)) (by simp only[AH.mark_next,ag,ay,az,aq,am,aw,af,av,ah,List.length_cons,List.length_nil];decide) ?_
 simp only[gX,dJ,go_sem,simprocAttr]
 repeat first|with_reducible refine ao ?_|simp only[yN,uI,pc,Gp,SH.row,d1,d2,d3,d4,d5,hl18,hlt,h00,hc0,hc1,hc2,hc3,hc4,decide_true,go_sem,simprocAttr]
 exact⟨[_],rfl,du.v rfl rfl .nil⟩
theorem ng:bO Try.prog 10 [] [.v (.b true)]:=by
 have h1:=F7
 have h2:=rx
 have h3:=xq
 have h4:=pP
 have w0:IntKind.wrap .i64 0=0:=rfl
 have w1:IntKind.wrap .i64 (0+0)=0:=rfl
 have hne0:decide ((0:Int)=0)=true:=decide_eq_true rfl
 refine aN bc IB ⟨by simp,by decide⟩ ?_
 simp only[bJ]
 repeat first|with_reducible refine ao ?_|simp only[go_sem,simprocAttr]
 refine au [] (.cons (.rfl (by rfl)) .nil) (iH 0 (by omega)) (by simp only[AH.mark_next,ag,ay,az,aq,am,aw,af,av,ah,List.length_cons,List.length_nil];decide) ?_
 simp only[gX,dJ]
 repeat first|with_reducible refine ao ?_|simp only[go_sem,simprocAttr]
 refine au [] (.cons (.rfl (by rfl)) .nil) (iH 1 (by omega)) (by simp only[AH.mark_next,ag,ay,az,aq,am,aw,af,av,ah,List.length_cons,List.length_nil];decide) ?_
 simp only[gX,dJ]
 repeat first|with_reducible refine ao ?_|simp only[go_sem,simprocAttr]
 refine au [] (.cons (.rfl (by rfl)) .nil) (pT 2) (by simp only[AH.mark_next,ag,ay,az,aq,am,aw,af,av,ah,List.length_cons,List.length_nil];decide) ?_
 simp only[gX,eV]
 repeat first|with_reducible refine ao ?_|simp only[go_sem,simprocAttr]
 refine au [0] (.cons (rC (by simp) (by simp only[go_sem,simprocAttr]<;>rfl) rfl (λi j hi hj=>?_)) .nil) h1 (by simp only[AH.mark_next,ag,ay,az,aq,am,aw,af,av,ah,List.length_cons,List.length_nil];decide) ?_
 ·skip
  rcases(by omega:i=0\/i=1\/i=2\/i=3) with rfl|rfl|rfl|rfl<;>rcases(by omega:j=0\/j=1\/j=2\/j=3\/j=4) with rfl|rfl|rfl|rfl|rfl<;>rfl
 repeat first|with_reducible refine ao ?_|simp only[go_sem,simprocAttr]
 refine au [0] (.cons (rC (by simp) (by simp only[go_sem,simprocAttr]<;>rfl) rfl (λi j hi hj=>?_)) .nil) h2 (by simp only[AH.mark_next,ag,ay,az,aq,am,aw,af,av,ah,List.length_cons,List.length_nil];decide) ?_
 ·skip
  rcases(by omega:i=0\/i=1\/i=2\/i=3) with rfl|rfl|rfl|rfl<;>rcases(by omega:j=0\/j=1\/j=2\/j=3\/j=4) with rfl|rfl|rfl|rfl|rfl<;>rfl
 repeat first|with_reducible refine ao ?_|simp only[go_sem,simprocAttr]
 refine au [0] (.cons (rC (by simp) (by simp only[go_sem,simprocAttr]<;>rfl) rfl (λi j hi hj=>?_)) (.cons (.rfl (by rfl)) .nil)) h3 (by simp only[AH.mark_next,ag,ay,az,aq,am,aw,af,av,ah,List.length_cons,List.length_nil];decide) ?_
 ·skip
  rcases(by omega:i=0\/i=1\/i=2\/i=3) with rfl|rfl|rfl|rfl<;>rcases(by omega:j=0\/j=1\/j=2\/j=3\/j=4) with rfl|rfl|rfl|rfl|rfl<;>rfl
 simp only[aH]
 repeat first|with_reducible refine ao ?_|simp only[w0,w1,hne0,decide_true,go_sem,simprocAttr]
 refine au [3,4,5,6] (.cons (.rfl (by rfl)) (.cons (?_) (.cons (.rfl (by rfl)) .nil))) (gM 5 (by omega) PN (λi=>?_)) (by simp only[AH.mark_next,ag,ay,az,aq,am,aw,af,av,ah,List.length_cons,List.length_nil];decide) ?_
 ·refine .slw (x:=_) (by simp) (by simp only[go_sem,simprocAttr]<;>rfl) (by decide) (by decide) (λi j hi hj=>?_) (λi j _ _=>rfl)
  have hj0:j=0:=by omega
  subst hj0
  rcases(by omega:i=0\/i=1\/i=2\/i=3\/i=4) with rfl|rfl|rfl|rfl|rfl
  ·exact .sl0 _ _
  ·refine .sl (x:=_) (by simp) (by simp only[go_sem,simprocAttr]<;>rfl) (by decide) (by decide) (by decide) (λi j hi hj=>?_) (λi j _ _=>rfl)
   rw[show i=0 by have:i<1:=hi;omega,show j=0 by omega];rfl
  ·refine .sl (x:=_) (by simp) (by simp only[go_sem,simprocAttr]<;>rfl) (by decide) (by decide) (by decide) (λi j hi hj=>?_) (λi j _ _=>rfl)
   have hi2:i<2:=hi
   rcases(by omega:i=0\/i=1) with rfl|rfl<;>rw[show j=0 by omega]<;>rfl
  ·refine .sl (x:=_) (by simp) (by simp only[go_sem,simprocAttr]<;>rfl) (by decide) (by decide) (by decide) (λi j hi hj=>?_) (λi j _ _=>rfl)
   rw[show i=0 by have:i<1:=hi;omega,show j=0 by omega];rfl
  ·exact .sl0 _ _
 ·exact Nat.le_trans (List.length_filter_le _ _) (by simp)
 have hl4:((F9.length:Nat):Int)=4:=rfl
 have hcz:cC F9 2 1= .n .i64 0:=rfl
 have hlt:(2:Int)<4:=by omega
 have h00:(0:Int)<=2:=by omega
 (try simp only[w0,w1,hne0,hl4,hcz,hlt,h00,decide_true,go_sem,simprocAttr])
 iterate 2 (with_reducible refine GA.go bc rfl ?_;try simp only[w0,w1,hne0,hl4,hcz,hlt,h00,decide_true,go_sem,simprocAttr])
 refine GA.wk (Wk.mk (L:=[]) (bl:=[]) [] [] ?_ ?_ ?_) Gj
 ·simp only[bj,ba,go_sem,simprocAttr]
  repeat' refine ab ?_ ?_
  all_goals first|exact bq|skip
 ·exact .nil
 ·simp
theorem mX(na:Nat)(ra:Nat->Nat->AV)(regs par:Int)(cs:List In):bO Try.prog 9 [aH na ra regs par cs] [.v (.b (lx na regs cs))]:=by
 have hw:=uE na ra regs par cs
 refine aN bc JS ⟨by simp,by decide⟩ ?_
 simp only[bJ,aH] at hw ⊢
 repeat first|with_reducible refine ao ?_|simp only[go_sem,simprocAttr]
 refine au [] (.cons (.rfl (by rfl)) .nil) hw (by simp only[AH.mark_next,ag,ay,az,aq,am,aw,af,av,ah,List.length_cons,List.length_nil];decide) ?_
 unfold lx
 cases pM na cs
 ·repeat first|with_reducible refine ao ?_|simp only[go_sem,simprocAttr]
  exact dM rfl rfl
 ·by_cases h1:regs<=60
  ·repeat first|with_reducible refine ao ?_|simp only[h1,decide_true,go_sem,simprocAttr]
   exact dM rfl rfl
  ·by_cases h2:1024<regs
   ·repeat first|with_reducible refine ao ?_|simp only[h1,h2,decide_true,decide_false,go_sem,simprocAttr]
    exact dM rfl rfl
   ·repeat first|with_reducible refine ao ?_|simp only[h1,h2,decide_true,decide_false,go_sem,simprocAttr]
    exact dM rfl rfl
theorem Ae{la:List (Bool×Int)}{regs:Int}{cs:List In}(hf:lx la.length regs cs=true):la.length<=20/\cs.length<=300:=by
 unfold lx pM at hf
 by_cases h1:(la.length:Int)<=20
 ·by_cases h2:(cs.length:Int)<=300
  ·exact⟨by omega,by omega⟩
  ·simp[h1,h2] at hf
 ·simp[h1] at hf
theorem xo{na:Nat}{ra:Nat->Nat->AV}{regs par:Int}{cs:List In}(hf:lx na regs cs=false):bO Try.prog 3 [aH na ra regs par cs] [.v (.b true)]:=by
 have hw:=mX na ra regs par cs
 rw[hf] at hw
 refine aN bc A8 ⟨by simp,by decide⟩ ?_
 simp only[bJ,aH] at hw ⊢
 repeat first|with_reducible refine ao ?_|simp only[go_sem,simprocAttr]
 refine au [] (.cons (.rfl (by rfl)) .nil) hw (by simp only[AH.mark_next,ag,ay,az,aq,am,aw,af,av,ah,List.length_cons,List.length_nil];decide) ?_
 repeat first|with_reducible refine ao ?_|simp only[go_sem,simprocAttr]
 refine au [] .nil ng (by simp only[AH.mark_next,ag,ay,az,aq,am,aw,af,av,ah,List.length_cons,List.length_nil];decide) ?_
 repeat first|with_reducible refine ao ?_|simp only[go_sem,simprocAttr]
 exact dM rfl rfl
theorem mU{na:Nat}{ra:Nat->Nat->AV}{regs par e p:Int}{cs:List In}{n:Nat}{L:Nat->List Nat}(hn:n<=100000)(hL:∀i,(L i).length<=100000)(hf:lx na regs cs=true)(h1:bO Try.prog 11 [aH na ra regs par cs] [.v (.fs 1 n (gC L)),.v (.n .i64 e)])(h2:bO Try.prog 12 [aH na ra regs par cs] [.v (.fs 1 n (gC L)),.v (.n .i64 e)])
  (h3:bO Try.prog 13 [aH na ra regs par cs] [.v (.n .i64 p),.v (.n .i64 e)]) (h4:bO Try.prog 14 [aH na ra regs par cs] [.v (.n .i64 p),.v (.n .i64 e)]):
  bO Try.prog 3 [aH na ra regs par cs] [.v (.b true)]:=by
 have hw:=mX na ra regs par cs
 rw[hf] at hw
 have hee:decide (e=e)=true:=decide_eq_true rfl
 have hpp:decide (p=p)=true:=decide_eq_true rfl
 refine aN bc A8 ⟨by simp,by decide⟩ ?_
 simp only[bJ,aH] at hw h1 h2 h3 h4 ⊢
 repeat first|with_reducible refine ao ?_|simp only[go_sem,simprocAttr]
 refine au [] (.cons (.rfl (by rfl)) .nil) hw (by simp only[AH.mark_next,ag,ay,az,aq,am,aw,af,av,ah,List.length_cons,List.length_nil];decide) ?_
 repeat first|with_reducible refine ao ?_|simp only[go_sem,simprocAttr]
 refine au [] (.cons (.rfl (by rfl)) .nil) h1 (by simp only[AH.mark_next,ag,ay,az,aq,am,aw,af,av,ah,List.length_cons,List.length_nil];decide) ?_
 repeat first|with_reducible refine ao ?_|simp only[go_sem,simprocAttr]
 refine au [] (.cons (.rfl (by rfl)) .nil) h2 (by simp only[AH.mark_next,ag,ay,az,aq,am,aw,af,av,ah,List.length_cons,List.length_nil];decide) ?_
 repeat first|with_reducible refine ao ?_|simp only[go_sem,simprocAttr]
 refine au [] (.cons (.rfl (by rfl)) .nil) h3 (by simp only[AH.mark_next,ag,ay,az,aq,am,aw,af,av,ah,List.length_cons,List.length_nil];decide) ?_
 repeat first|with_reducible refine ao ?_|simp only[go_sem,simprocAttr]
 refine au [] (.cons (.rfl (by rfl)) .nil) h4 (by simp only[AH.mark_next,ag,ay,az,aq,am,aw,af,av,ah,List.length_cons,List.length_nil];decide) ?_
 repeat first|with_reducible refine ao ?_|simp only[go_sem,simprocAttr]
 refine au [] (.cons (.rfl (by rfl)) (.cons (.rfl (by rfl)) (.cons (.rfl (by rfl)) .nil))) (gM n hn L hL) (by simp only[AH.mark_next,ag,ay,az,aq,am,aw,af,av,ah,List.length_cons,List.length_nil];decide) ?_
 repeat first|with_reducible refine ao ?_|simp only[hee,hpp,decide_true,go_sem,simprocAttr]
 refine au [] .nil ng (by simp only[AH.mark_next,ag,ay,az,aq,am,aw,af,av,ah,List.length_cons,List.length_nil];decide) ?_
 repeat first|with_reducible refine ao ?_|simp only[go_sem,simprocAttr]
 exact dM rfl rfl
section
variable (la:List (Bool×Int)) (regs par:Int) (cs:List In) (ha:nk cs)
include ha
theorem wO:bO Try.prog 3 [aH la.length (aC la) regs par cs] [.v (.b true)]:=by
 cases hf:lx la.length regs cs
 ·exact xo hf
 have hfew:=Ae hf
 by_cases hz:(gh la regs par cs).2=0
 ·have h:=(cy hz).nregs
  obtain⟨R,rfl⟩:∃R:Nat,regs=R:=⟨regs.toNat,by omega⟩
  exact mU (by omega) (λi=>by have:=jA cs (bM cs (dt cs)) R i;omega) hf (yD hz ha) (yC hz ha) (ns hz ha) (rY hz ha)
 ·have hA:=wM la regs par cs (by omega) (by omega) ha hz (λ_=>[])
  have hB:=tF la.length (aC la) regs par _ cs _ hz (kN la regs par cs (by omega) (by omega) ha) (λ_=>[])
  have hP:=iI la.length (aC la) regs par cs (λ_=>[]) 0 (by omega) _ (λi=>by simp) hA
  exact mU (by omega) (λi=>by simp) hf hA hB hP (mb la.length (aC la) regs par _ cs _ hz hB)
end
end Go.Proofs.Yteopfmnnhlhbmaa