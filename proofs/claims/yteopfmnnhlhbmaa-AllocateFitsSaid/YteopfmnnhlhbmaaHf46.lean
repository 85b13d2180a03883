/- A part of the proof of AllocateFits: AlE AlF AlG AlH StA AzA EqA AzB LcA StB FiA FiB FiC FiD. No condition. -/
import Derived.Test.YteopfmnnhlhbmaaHf17
import Derived.Test.YteopfmnnhlhbmaaHf35
import Derived.Test.YteopfmnnhlhbmaaHf45
import Derived.Test.YteopfmnnhlhbmaaHf33
import Derived.Test.YteopfmnnhlhbmaaHf13
import Derived.Test.YteopfmnnhlhbmaaHf16
import Derived.Test.YteopfmnnhlhbmaaHf15
set_option linter.unusedSimpArgs false
set_option linter.unusedVariables false
set_option linter.constructorNameAsVariable false
set_option maxRecDepth 100000
set_option maxHeartbeats 4000000
namespace Go.Proofs.Yteopfmnnhlhbmaa
open Go.RowKit
theorem dK{cd:List RI}{pr:List Int}:∀(t:T) (w:Bool) (d k:Nat) (e:Int),t.wf w d->fK cd k t.flat->uI pr k (t.rq k e)->(w=true->0<=e)->∀q,k<=q->q<k+t.size->dY (aj cd q)->
  0<=pr.getD q 0/\(aj cd q=27->∃p:Nat,pr.getD q 0=(p:Int)/\(aj cd p=31->pr.getD p 0=(q:Int)))
 |.nil,w,d,k,e,hw,hc,hp,he,q,h1,h2,hb=>by simp only[T.size] at h2;omega
 |.plain i r,w,d,k,e,hw,hc,hp,he,q,h1,h2,hb=>by
  obtain⟨⟨g1,g2,g3,g4⟩,g5,g6⟩:=hw
  simp only[T.size] at h2
  have hi:aj cd k=i.op:=by show(cd.getD k default).op=_;rw[hc.head]
  by_cases eq:q=k
  ·subst eq
   rw[hp.head]
   rw[hi] at hb ⊢
   have h30:i.op=30:=by unfold dY at hb;omega
   rw[if_pos h30]
   exact⟨he (g5 h30),λh=>by omega⟩
  ·exact dK r w d (k+1) e g6 hc.tail hp.tail he q (by omega) (by omega) hb
 |.ite i a j r,w,d,k,e,hw,hc,hp,he,q,h1,h2,hb=>by
  obtain⟨g1,g2,g3,g4,g5⟩:=hw
  simp only[T.size] at h2
  have hi:aj cd k=i.op:=by show(cd.getD k default).op=_;rw[hc.head]
  have hal:a.flat.length=a.size:=a.flat_length
  have hql:(a.rq (k+1) e).length=a.size:=a.rq_length _ _
  have hcr:=hc.tail.right
  have hpr:=hp.tail.right
  rw[hal] at hcr
  rw[hql] at hpr
  have hj:aj cd (k+1+a.size)=j.op:=by show(cd.getD (k+1+a.size) default).op=_;rw[hcr.head]
  have hpk:=hp.head
  have hpj:=hpr.head
  by_cases e1:q=k
  ·subst e1
   rw[hpk]
   refine⟨by omega,λ_=>⟨q+a.size+1,rfl,λ_=>?_⟩⟩
   rw[show q+a.size+1=q+1+a.size by omega,hpj]
  by_cases e2:q<k+1+a.size
  ·exact dK a w _ (k+1) e g4 hc.tail.left hp.tail.left he q (by omega) (by omega) hb
  by_cases e3:q=k+1+a.size
  ·subst e3
   rw[hpj,hj,g2]
   exact⟨by omega,λh=>by omega⟩
  ·have:=hpr.tail
   rw[show k+1+a.size+1=k+a.size+2 by omega] at this
   have hc2:=hcr.tail
   rw[show k+1+a.size+1=k+a.size+2 by omega] at hc2
   exact dK r w d (k+a.size+2) e g5 hc2 this he q (by omega) (by omega) hb
 |.ite2 i a x b j r,w,d,k,e,hw,hc,hp,he,q,h1,h2,hb=>by
  obtain⟨g1,g2,g3,g4,g5,g6,g7⟩:=hw
  simp only[T.size] at h2
  have hal:a.flat.length=a.size:=a.flat_length
  have hbl:b.flat.length=b.size:=b.flat_length
  have hql:(a.rq (k+1) e).length=a.size:=a.rq_length _ _
  have hqb:(b.rq (k+a.size+2) e).length=b.size:=b.rq_length _ _
  have hcr:=hc.tail.right
  have hpr:=hp.tail.right
  rw[hal] at hcr
  rw[hql] at hpr
  have hx:aj cd (k+1+a.size)=x.op:=by show(cd.getD (k+1+a.size) default).op=_;rw[hcr.head]
  have hpk:=hp.head
  have hpx:=hpr.head
  have hcr2:=hcr.tail
  have hpr2:=hpr.tail
  rw[show k+1+a.size+1=k+a.size+2 by omega] at hcr2 hpr2
  have hcr3:=hcr2.right
  have hpr3:=hpr2.right
  rw[hbl] at hcr3
  rw[hqb] at hpr3
  have hj:aj cd (k+a.size+2+b.size)=j.op:=by show(cd.getD (k+a.size+2+b.size) default).op=_;rw[hcr3.head]
  have hpj:=hpr3.head
  by_cases e1:q=k
  ·subst e1
   rw[hpk]
   refine⟨by omega,λ_=>⟨q+a.size+1,rfl,λh=>?_⟩⟩
   rw[show q+a.size+1=q+1+a.size by omega,hx,g2] at h
   omega
  by_cases e2:q<k+1+a.size
  ·exact dK a w _ (k+1) e g5 hc.tail.left hp.tail.left he q (by omega) (by omega) hb
  by_cases e3:q=k+1+a.size
  ·subst e3
   rw[hpx,hx,g2]
   exact⟨by omega,λh=>by omega⟩
  by_cases e4:q<k+a.size+2+b.size
  ·exact dK b w _ (k+a.size+2) e g6 hcr2.left hpr2.left he q (by omega) (by omega) hb
  by_cases e5:q=k+a.size+2+b.size
  ·subst e5
   rw[hpj,hj,g3]
   exact⟨by omega,λh=>by omega⟩
  ·have h3:=hpr3.tail
   rw[show k+a.size+2+b.size+1=k+a.size+b.size+3 by omega] at h3
   have h4:=hcr3.tail
   rw[show k+a.size+2+b.size+1=k+a.size+b.size+3 by omega] at h4
   exact dK r w d (k+a.size+b.size+3) e g7 h4 h3 he q (by omega) (by omega) hb
 |.loop i a j r,w,d,k,e,hw,hc,hp,he,q,h1,h2,hb=>by
  obtain⟨g1,g2,g3,g4,g5⟩:=hw
  simp only[T.size] at h2
  have hi:aj cd k=i.op:=by show(cd.getD k default).op=_;rw[hc.head]
  have hal:a.flat.length=a.size:=a.flat_length
  have hql:(a.rq (k+1) ((k+a.size+1:Nat):Int)).length=a.size:=a.rq_length _ _
  have hcr:=hc.tail.right
  have hpr:=hp.tail.right
  rw[hal] at hcr
  rw[hql] at hpr
  have hj:aj cd (k+1+a.size)=j.op:=by show(cd.getD (k+1+a.size) default).op=_;rw[hcr.head]
  have hpk:=hp.head
  have hpj:=hpr.head
  by_cases e1:q=k
  ·subst e1
   rw[hpk,hi,g1]
   exact⟨by omega,λh=>by omega⟩
  by_cases e2:q<k+1+a.size
  ·exact dK a true _ (k+1) _ g4 hc.tail.left hp.tail.left (λ_=>by omega) q (by omega) (by omega) hb
  by_cases e3:q=k+1+a.size
  ·subst e3
   rw[hpj,hj,g2]
   exact⟨by omega,λh=>by omega⟩
  ·have h3:=hpr.tail
   rw[show k+1+a.size+1=k+a.size+2 by omega] at h3
   have h4:=hcr.tail
   rw[show k+1+a.size+1=k+a.size+2 by omega] at h4
   exact dK r w d (k+a.size+2) e g5 h4 h3 he q (by omega) (by omega) hb
def cP(cs:List In)(i:Nat):Nat:=((rX cs).getD i 0).toNat
structure PZ(cs:List In):Prop where
 len:(rX cs).length=cs.length
 at_:∀i,i<cs.length->dY (bT cs i)->(rX cs).getD i 0=(cP cs i:Int)/\cP cs i<cs.length
 back:∀i,i<cs.length->bT cs i=27->bT cs (cP cs i)=31->cP cs (cP cs i)=i
theorem rZ.pok{la:List (Bool×Int)}{regs par:Int}{cs:List In}(h:rZ la regs par cs):PZ cs:=by
 obtain⟨_,hl,_,t,ht,hw,he⟩:=h.pt
 have hs:cs.length=t.size:=by rw[<-t.flat_length,<-ht,List.length_map]
 have hfact:=dK (cd:=cs.map bp) (pr:=rX cs) t false 8 0 0 hw (by rw[ht];exact λj hj=>by simp) (by rw[he];exact λj hj=>by simp) (λh=>by cases h)
 have hrng:=fT (n:=(cs.length:Int)) t 0 0
 have hat:∀i,i<cs.length->dY (bT cs i)->(rX cs).getD i 0=(cP cs i:Int)/\cP cs i<cs.length:=λi hi hb=>by
  have h1:=(hfact i (Nat.zero_le _) (by omega) (by rw[dh];exact hb)).1
  have hm:(rX cs).getD i 0 ∈ t.rq 0 0:=by rw[<-he,List.getD_eq_getElem?_getD,List.getElem?_eq_getElem (by omega)];exact List.getElem_mem _
  have h2:=hrng ⟨by omega,by omega⟩ (by omega) _ hm
  unfold cP
  omega
 refine⟨hl,hat,λi hi h27 h31=>?_⟩
 obtain⟨p,h1,h2⟩:=(hfact i (Nat.zero_le _) (by omega) (by rw[dh];exact .inl h27)).2 (by rw[dh];exact h27)
 obtain⟨h3,h4⟩:=hat i hi (.inl h27)
 have hpp:cP cs i=p:=by omega
 rw[hpp] at h31 ⊢
 have:=h2 (by rw[dh];exact h31)
 unfold cP
 omega
theorem sd{op a b:Int}(h:op=28\/op=31):aD op a b=[]:=by
 rcases h with rfl|rfl<;>rfl
theorem gr{op to:Int}(h:dY op):a8 op to= -1:=by
 unfold dY at h
 rcases h with rfl|rfl|rfl|rfl|rfl<;>rfl
theorem lO{op a b r:Int}:r ∈ aD op a b↔(xe op=true/\r=a)\/(xd op=true/\r=b):=by
 have e:aD op a b=(if xe op then[a] else[])++(if xd op then[b] else[]):=rfl
 rw[e,List.mem_append]
 cases xe op<;>cases xd op<;>simp
theorem gY{x:In}{r:Int}:r ∈ bO x↔(xe x.1=true/\r=x.2.2.1)\/(xd x.1=true/\r=x.2.2.2.1)\/r=a8 x.1 x.2.1:=by
 unfold bO
 rw[List.mem_append,lO,List.mem_singleton,or_assoc]
theorem iM.reads{regs par nA:Int}{x:In}(h:iM regs par nA x):∀r ∈ aD x.1 x.2.2.1 x.2.2.2.1,0<=r/\r<regs:=by
 intro r hr
 rcases lO.1 hr with⟨h1,rfl⟩|⟨h1,rfl⟩
 ·have:=h.a;rwa [if_pos h1] at this
 ·have:=h.b;rwa [if_pos h1] at this
theorem iM.writes{regs par nA:Int}{x:In}(h:iM regs par nA x)(h0:0<=regs):a8 x.1 x.2.1<regs/\ -1<=a8 x.1 x.2.1:=by
 have:=h.to
 unfold a8
 split
 ·rename_i hu;rw[if_pos hu] at this;omega
 ·omega
theorem iM.uses{regs par nA:Int}{x:In}(h:iM regs par nA x)(h0:0<=regs):∀r ∈ bO x,r<regs:=by
 intro r hr
 rcases gY.1 hr with⟨h1,rfl⟩|⟨h1,rfl⟩|rfl
 ·have:=h.a;rw[if_pos h1] at this;omega
 ·have:=h.b;rw[if_pos h1] at this;omega
 ·exact(h.writes h0).1
theorem iM.regs3{regs par nA:Int}{x:In}(h:iM regs par nA x):(x.2.1= -1\/(0<=x.2.1/\x.2.1<regs/\x.2.1 ∈ bO x))/\(x.2.2.1= -1\/(0<=x.2.2.1/\x.2.2.1<regs/\x.2.2.1 ∈ bO x))/\(x.2.2.2.1= -1\/(0<=x.2.2.2.1/\x.2.2.2.1<regs/\x.2.2.2.1 ∈ bO x)):=by
 refine⟨?_,?_,?_⟩
 ·have:=h.to
  split at this
  ·rename_i hu
   refine .inr ⟨this.1,this.2,gY.2 (.inr (.inr ?_))⟩
   unfold a8;rw[if_pos hu]
  ·exact .inl this
 ·have:=h.a
  split at this
  ·rename_i hu;exact .inr ⟨this.1,this.2,gY.2 (.inl ⟨hu,rfl⟩)⟩
  ·exact .inl this
 ·have:=h.b
  split at this
  ·rename_i hu;exact .inr ⟨this.1,this.2,gY.2 (.inr (.inl ⟨hu,rfl⟩))⟩
  ·exact .inl this
/-! ### the same live registers-/
section
variable {cs:List In}
theorem jr{pt:Nat->Nat}{i:Nat}(h:¬bT cs i=27){k:Nat}:k ∈ nxt cs pt i↔k ∈ bG cs pt i:=by
 unfold nxt bG
 generalize bT cs i=op at*
 by_cases h1:op=29
 ·subst h1;simp
 by_cases h2:op=30
 ·subst h2;simp
 by_cases h3:op=28
 ·subst h3;simp
 by_cases h4:op=31
 ·subst h4
  simp only[show ¬(31:Int)=27 by decide,show ¬(31:Int)=29 by decide,show ¬(31:Int)=30 by decide,show ¬(31:Int)=28 by decide,or_self,if_false,if_true]
  split
  ·simp only[List.mem_cons,List.not_mem_nil,or_false]
   exact or_comm
  ·exact Iff.rfl
 ·simp[h,h1,h2,h3,h4]
theorem sr{pt:Nat->Nat}{i:Nat}(h:bT cs i=27):nxt cs pt i=[i+1,if bT cs (pt i)=31 then pt i else pt i+1]/\bG cs pt i=[i+1,pt i+1]:=by
 unfold nxt bG
 constructor
 ·rw[if_pos h]
 ·simp[h]
theorem qO(hp:PZ cs){i:Nat}(hi:i<cs.length)(h27:bT cs i=27)(h31:bT cs (cP cs i)=31){r:Int}(hr:0<=r){nx:Nat->List Nat}(hnx:∀j,bT cs j=31->¬bT cs (cP cs j)=29->nx j=[j+1]):
  bm cs nx (cP cs i) r↔bm cs nx (cP cs i+1) r:=by
 have hb:=hp.back i hi h27 h31
 have hl:=(hp.at_ i hi (.inl h27)).2
 have hn:nx (cP cs i)=[cP cs i+1]:=hnx _ h31 (by rw[hb,h27];decide)
 have hrd:aD (cs.getD (cP cs i) (0,0,0,0,0)).1 (cs.getD (cP cs i) (0,0,0,0,0)).2.2.1 (cs.getD (cP cs i) (0,0,0,0,0)).2.2.2.1=[]:=sd (.inr h31)
 have hwr:a8 (cs.getD (cP cs i) (0,0,0,0,0)).1 (cs.getD (cP cs i) (0,0,0,0,0)).2.1= -1:=gr (.inr (.inr (.inr (.inr h31))))
 constructor
 ·intro h
  generalize hj:cP cs i=j at*
  cases h with
  |read _ h2=>rw[hrd] at h2;cases h2
  |@flow _ k _ _ hk h _=>
   rw[hn] at hk
   simp at hk
   subst hk
   exact h
 ·intro h
  exact .flow hl (by rw[hn];simp) h (by rw[hwr];omega)
theorem HJ(pt:Nat->Nat)(j:Nat)(h:bT cs j=31)(h2:¬bT cs (pt j)=29):nxt cs pt j=[j+1]:=by
 unfold nxt
 simp[h,h2]
theorem Bt(pt:Nat->Nat)(j:Nat)(h:bT cs j=31)(h2:¬bT cs (pt j)=29):bG cs pt j=[j+1]:=by
 unfold bG
 simp[h,h2]
theorem cW(hp:PZ cs){R:Nat}(hR:∀x ∈ cs,∀r ∈ aD x.1 x.2.2.1 x.2.2.2.1,0<=r/\r<(R:Int)){i:Nat}{r:Int}:bm cs (nxt cs (cP cs)) i r↔bm cs (bG cs (cP cs)) i r:=by
 constructor
 ·intro h
  induction h with
  |read hi h=>exact .read hi h
  |@flow i k r hi hk h hw ih=>
   by_cases h27:bT cs i=27
   ·obtain⟨e1,e2⟩:=sr (pt:=cP cs) h27
    rw[e1] at hk
    by_cases h31:bT cs (cP cs i)=31
    ·rw[if_pos h31] at hk
     simp only[List.mem_cons,List.not_mem_nil,or_false] at hk
     rcases hk with rfl|rfl
     ·exact .flow hi (by rw[e2];simp) ih hw
     ·exact .flow hi (by rw[e2];simp) ((qO hp hi h27 h31 (ih.range hR).1 (λj=>Bt _ j)).1 ih) hw
    ·rw[if_neg h31] at hk
     exact .flow hi (by rw[e2];exact hk) ih hw
   ·exact .flow hi ((jr h27).1 hk) ih hw
 ·intro h
  induction h with
  |read hi h=>exact .read hi h
  |@flow i k r hi hk h hw ih=>
   by_cases h27:bT cs i=27
   ·obtain⟨e1,e2⟩:=sr (pt:=cP cs) h27
    rw[e2] at hk
    simp only[List.mem_cons,List.not_mem_nil,or_false] at hk
    rcases hk with rfl|rfl
    ·exact .flow hi (by rw[e1];simp) ih hw
    ·by_cases h31:bT cs (cP cs i)=31
     ·exact .flow hi (by rw[e1,if_pos h31];simp) ((qO hp hi h27 h31 (ih.range hR).1 (λj=>HJ _ j)).2 ih) hw
     ·exact .flow hi (by rw[e1,if_neg h31];simp) ih hw
   ·exact .flow hi ((jr h27).2 hk) ih hw
theorem sK(hp:PZ cs){R:Nat}(hR:∀x ∈ cs,∀r ∈ aD x.1 x.2.2.1 x.2.2.2.1,0<=r/\r<(R:Int)):cq cs (nxt cs (cP cs)) R=cq cs (bG cs (cP cs)) R:=by
 funext i
 unfold cq
 congr 1
 funext r
 exact decide_eq_decide.2 (cW hp hR)
theorem vQ(hp:PZ cs){R:Nat}(hR:∀x ∈ cs,∀r ∈ aD x.1 x.2.2.1 x.2.2.2.1,0<=r/\r<(R:Int)){p q:Int}:fJ cs (nxt cs (cP cs)) p q↔fJ cs (bG cs (cP cs)) p q:=by
 have hs:∀i k,0<=qe cs i->(k ∈ nxt cs (cP cs) i↔k ∈ bG cs (cP cs) i):=λi k hw=>jr (λh27=>by
  have:qe cs i= -1:=gr (.inl h27)
  omega)
 unfold fJ
 constructor
 ·rintro (⟨h1,h2,h3⟩|⟨i,k,h1,h2,h3,h4⟩)
  ·exact .inl ⟨h1,(cW hp hR).1 h2,(cW hp hR).1 h3⟩
  ·refine .inr ⟨i,k,h1,(hs i k h3).1 h2,h3,?_⟩
   rcases h4 with⟨a,b,c⟩|⟨a,b,c⟩
   ·exact .inl ⟨a,b,(cW hp hR).1 c⟩
   ·exact .inr ⟨a,b,(cW hp hR).1 c⟩
 ·rintro (⟨h1,h2,h3⟩|⟨i,k,h1,h2,h3,h4⟩)
  ·exact .inl ⟨h1,(cW hp hR).2 h2,(cW hp hR).2 h3⟩
  ·refine .inr ⟨i,k,h1,(hs i k h3).2 h2,h3,?_⟩
   rcases h4 with⟨a,b,c⟩|⟨a,b,c⟩
   ·exact .inl ⟨a,b,(cW hp hR).2 c⟩
   ·exact .inr ⟨a,b,(cW hp hR).2 c⟩
theorem fJ.range{nx:Nat->List Nat}{R:Nat}(hR:∀x ∈ cs,∀r ∈ aD x.1 x.2.2.1 x.2.2.2.1,0<=r/\r<(R:Int))(hW:∀x ∈ cs,a8 x.1 x.2.1<(R:Int)){p q:Int}(h:fJ cs nx p q):(0<=p/\p<(R:Int))/\(0<=q/\q<(R:Int)):=by
 have hw:∀i,i<cs.length->qe cs i<(R:Int):=λi hi=>hW _ (by rw[List.getD_eq_getElem?_getD,List.getElem?_eq_getElem hi];exact List.getElem_mem hi)
 rcases h with⟨_,h2,h3⟩|⟨i,k,h1,h2,h3,⟨h4,h5,h6⟩|⟨h4,h5,h6⟩⟩
 ·exact⟨h2.range hR,h3.range hR⟩
 ·have:=hw i h1;exact⟨by omega,h6.range hR⟩
 ·have:=hw i h1;exact⟨h6.range hR,by omega⟩
/-! ### the same names-/
theorem j8(R:Nat):bH cs (R+1)=if cN cs (R:Int)=true then bH cs R++[R] else bH cs R:=by
 unfold bH
 rw[List.range_succ,List.filter_append]
 cases h:cN cs (R:Int)<;>simp[h]
theorem mE:∀R,mF (λr=>cN cs (r:Int)) R=(bH cs R).length
 |0=>rfl
 |R+1=>by
  rw[j8]
  unfold mF
  rw[mE R]
  split
  ·rw[List.length_append,List.length_singleton]
  ·rfl
theorem t6{l l2:List Nat}:∀{k:Nat},k<=l.length->mX (l++l2) k=mX l k
 |0,_=>rfl
 |k+1,h=>by
  unfold mX
  rw[t6 (by omega),List.getD_eq_getElem?_getD,List.getElem?_append_left (by omega),<-List.getD_eq_getElem?_getD]
theorem tZ:∀(R v:Nat),v<R->cN cs (v:Int)=true->mX (bH cs R) (bH cs R).length (v:Int)=some ((mF (λr=>cN cs (r:Int)) v:Nat):Int)
 |0,v,h,_=>by omega
 |R+1,v,h,ho=>by
  rw[j8]
  by_cases e:v=R
  ·subst e
   rw[if_pos ho,List.length_append,List.length_singleton]
   unfold mX
   rw[if_pos (by rw[List.getD_eq_getElem?_getD,List.getElem?_append_right (Nat.le_refl _),Nat.sub_self];rfl),mE]
  ·have ih:=tZ R v (by omega) ho
   split
   ·rw[List.length_append,List.length_singleton]
    unfold mX
    rw[if_neg (by rw[List.getD_eq_getElem?_getD,List.getElem?_append_right (Nat.le_refl _),Nat.sub_self];simp;omega),t6 (Nat.le_refl _),ih]
   ·exact ih
theorem BA{l:List Nat}{k:Nat}{v:Int}(hv:v<0):mX l k v=none:=by
 cases hx:mX l k v with
 |none=>rfl
 |some y=>obtain⟨i,h1,h2,_⟩:=lU hx;omega
theorem rD(f:Nat->Bool)(R r:Nat)(h:r<R):(wo f R).getD r 0=((mF f r:Nat):Int):=by
 unfold wo
 rw[List.getD_eq_getElem?_getD,List.getElem?_map,List.getElem?_range h]
 rfl
theorem lY{nm:Int->Option Int}{nl:List Int}{x:In}{regs par nA:Int}(h:iM regs par nA x)(hneg:nm (-1)=none)(hyes:∀v:Int,0<=v->v<regs->v ∈ bO x->nm v=some (nl.getD v.toNat 0)):eS nm x=dM nl x:=by
 obtain⟨h1,h2,h3⟩:=h.regs3
 have key:∀v:Int,(v= -1\/(0<=v/\v<regs/\v ∈ bO x))->fU nm v=dp nl v:=λv hv=>by
  unfold fU dp
  rcases hv with rfl|⟨g1,g2,g3⟩
  ·rw[hneg,if_pos (by decide)];rfl
  ·rw[hyes v g1 g2 g3,if_neg (by omega)];rfl
 unfold eS dM
 rw[key _ h1,key _ h2,key _ h3]
theorem jp{x:In}(hx:x ∈ cs){r:Int}(h:r ∈ bO x):cN cs r=true:=by
 unfold cN
 rw[List.any_eq_true]
 exact⟨x,hx,List.contains_iff_mem.2 h⟩
theorem pH{regs:Nat}{par nA:Int}(hin:∀x ∈ cs,iM regs par nA x):cs.map (eS (mX (bH cs regs) (bH cs regs).length))=cs.map (dM (wo (λr=>cN cs (r:Int)) regs)):=by
 refine List.map_congr_left (λx hx=>lY (hin x hx) (BA (by decide)) (λv h0 h1 hv=>?_))
 obtain⟨n,rfl⟩:∃n:Nat,v=n:=⟨v.toNat,by omega⟩
 rw[tZ regs n (by omega) (jp hx hv),Int.toNat_natCast,rD _ _ _ (by omega)]
end
end Go.Proofs.Yteopfmnnhlhbmaa
namespace Go.Proofs.Yteopfmnnhlhbmaa
open Go.RowKit
theorem nW{P:Program}{f:FuncId}{args:List AV}{Pr:(Nat->Option OB)->Prop}{Post Post':(Nat->Option OB)->List RT->(Nat->Option OB)->Prop}(h:iz P f args Pr Post)(hp:∀M rs N,Post M rs N->Post' M rs N):iz P f args Pr Post':=λM hM=>
 ⟨(h M hM).1,λφ w args' a b c=>((h M hM).2 φ w args' a b c).mono λe w' hq=>by
  cases e with
  |panicked c=>exact hq.elim
  |outgrown=>exact hq.elim
  |returned u=>
   obtain⟨v,Hc,σ',⟨rs,N,l,q1,q2⟩,q3⟩:=hq
   exact⟨v,Hc,σ',⟨rs,N,l,hp _ _ _ q1,q2⟩,q3⟩⟩
theorem og{K:Nat->Nat}{l l2:List Nat}:∀{k:Nat},k<=l.length->cM K (l++l2) k=cM K l k
 |0,_=>rfl
 |k+1,h=>by
  unfold cM
  rw[og (by omega),List.getD_eq_getElem?_getD,List.getElem?_append_left (by omega),<-List.getD_eq_getElem?_getD]
theorem oe{cs:List In}{K:Nat->Nat}:∀R,cM K (bH cs R) (bH cs R).length=kj K (λr=>cN cs (r:Int)) R
 |0=>rfl
 |R+1=>by
  rw[j8]
  unfold kj
  have ih:=oe (cs:=cs) (K:=K) R
  split
  ·rw[List.length_append,List.length_singleton]
   unfold cM
   rw[og (Nat.le_refl _),ih,List.getD_eq_getElem?_getD,List.getElem?_append_right (Nat.le_refl _),Nat.sub_self]
   rfl
  ·exact ih
theorem iG{cs:List In}{R i:Nat}(h:i<(bH cs R).length):(bH cs R).getD i 0<R/\cN cs (((bH cs R).getD i 0:Nat):Int)=true:=by
 rw[<-gF,List.getD_eq_getElem?_getD,List.getElem?_eq_getElem h]
 exact List.getElem_mem h
theorem vu{cs:List In}{R:Nat}{T:Int->List Int}{nb:Nat->Nat->Prop}(hT:∀a b,a<R->b<R->(((b:Nat):Int) ∈ T (a:Int)↔nb a b)){K K0:Nat->Nat}(h:Ay T (bH cs R) K (bH cs R).length)(h0:rT (λr=>cN cs (r:Int)) nb R K0):
  ∀i,i<(bH cs R).length->K ((bH cs R).getD i 0)=K0 ((bH cs R).getD i 0):=by
 intro i
 induction i using Nat.strongRecOn with
 |_ i ih=>
  intro hi
  obtain⟨m1,m2⟩:=iG hi
  refine(h i hi).uniq ((h0.yes _ m1 m2).congr (λc=>?_))
  constructor
  ·rintro ⟨s,h1,h2,h3,h4⟩
   have hm:s ∈ bH cs R:=gF.2 ⟨by omega,h2⟩
   obtain⟨j,hj,e⟩:=List.getElem_of_mem hm
   have e2:(bH cs R).getD j 0=s:=by rw[List.getD_eq_getElem?_getD,List.getElem?_eq_getElem hj,e];rfl
   have hji:j<i:=by
    rcases Nat.lt_trichotomy j i with g|g|g
    ·exact g
    ·subst g;omega
    ·have:=pj (cO cs R) g hj;omega
   exact⟨j,hji,by rw[e2];exact(hT _ _ m1 (by omega)).2 h3,by rw[ih j hji hj,e2];exact h4⟩
  ·rintro ⟨j,h1,h2,h3⟩
   have hj:j<(bH cs R).length:=by omega
   obtain⟨n1,n2⟩:=iG hj
   exact⟨_,pj (cO cs R) h1 hi,n2,(hT _ _ m1 n1).1 h2,by rw[<-ih j h1 hj];exact h3⟩
noncomputable def BE(cs:List In)(nx:Nat->List Nat)(R:Nat)(p:Int):List Int:=((List.range R).filter λq:Nat=> @decide (fJ cs nx p (q:Int)) (Classical.propDecidable _)).map λq:Nat=>(q:Int)
theorem ua{cs:List In}{nx:Nat->List Nat}{R:Nat}{p q:Int}:q ∈ BE cs nx R p↔(0<=q/\q<(R:Int))/\fJ cs nx p q:=by
 unfold BE
 simp only[List.mem_map,List.mem_filter,List.mem_range]
 constructor
 ·rintro ⟨n,⟨h1,h2⟩,rfl⟩
  rw[@decide_eq_true_iff _ (Classical.propDecidable _)] at h2
  exact⟨by omega,h2⟩
 ·rintro ⟨h1,h2⟩
  obtain⟨n,rfl⟩:∃n:Nat,q=n:=⟨q.toNat,by omega⟩
  exact⟨n,⟨by omega,by rw[@decide_eq_true_iff _ (Classical.propDecidable _)];exact h2⟩,rfl⟩
theorem vn(cs:List In)(nx:Nat->List Nat)(R:Nat)(p:Int):(BE cs nx R p).Nodup:=by
 unfold BE
 exact List.Pairwise.map _ (λa b h e=>h (by omega)) (List.Pairwise.filter _ List.nodup_range)
theorem BD(cs:List In)(nx:Nat->List Nat)(R:Nat)(p:Int):(BE cs nx R p).length<=R:=by
 unfold BE
 rw[List.length_map]
 have:=List.length_filter_le (λq:Nat=> @decide (fJ cs nx p (q:Int)) (Classical.propDecidable _)) (List.range R)
 rw[List.length_range] at this
 exact this
section
variable {la:List (Bool×Int)} {R:Nat} {par:Int} {cs:List In} (hz:(dw la R par cs).2=0) (ha:ef cs)
include hz
theorem IU:∀x ∈ cs,iM R par la.length x:=λx hx=>sP ((bV hz).ins x hx)
theorem aR:R<=1024:=by have:=(bV hz).nregs;omega
theorem PV:0<=par/\par<=1024:=by
 have h:=hz
 unfold dw bw at h
 split at h
 ·simp at h
 split at h
 ·simp at h
 split at h
 ·simp at h
 rename_i hr
 omega
theorem CJ:∀x ∈ cs,0<=x.1/\x.1<39:=λx hx=>(IU hz x hx).op
theorem kp:∀x ∈ cs,∀r ∈ aD x.1 x.2.2.1 x.2.2.2.1,0<=r/\r<(R:Int):=λx hx=>(IU hz x hx).reads
theorem CH:∀x ∈ cs,a8 x.1 x.2.1<(R:Int):=λx hx=>((IU hz x hx).writes (by omega)).1
theorem PS:∀x ∈ cs,∀r ∈ bO x,r<(R:Int):=λx hx=>(IU hz x hx).uses (by omega)
theorem Aq:bR Try.prog 66 [.fs 5 cs.length (cC cs)] [.v (.fs 1 cs.length (gC (nxt cs (cP cs))))]:=by
 have h:=bV hz
 obtain⟨_,hl,_,t,ht,hw,he⟩:=h.pt
 have hs:cs.length=t.size:=by rw[<-t.flat_length,<-ht,List.length_map]
 refine vS cs h.ncs (cJ (cs.map bp) (cs.map bp).length 0 ⟨[],[],λ_=>[],λ_=>none⟩).pm (cP cs) (λi hi hb=>?_) (ti cs h.ncs h.nest)
 obtain⟨g1,g2⟩:=h.pok.at_ i hi hb
 refine⟨?_,g2⟩
 rw[ht,ww t hw,if_pos ⟨by omega,by omega,by rw[Int.toNat_natCast,<-ht,dh];exact hb⟩,Int.toNat_natCast,<-he,g1]
theorem aNx:∀i,i<cs.length->∀k ∈ nxt cs (cP cs) i,k<=cs.length:=λi hi k hk=>by
 have hp:=(bV hz).pok
 by_cases h27:bT cs i=27
 ·rw[(sr h27).1] at hk
  have:=(hp.at_ i hi (.inl h27)).2
  simp only[List.mem_cons,List.not_mem_nil,or_false] at hk
  rcases hk with rfl|rfl
  ·omega
  ·split<;>omega
 ·exact Bs hi (λhb=>(hp.at_ i hi hb).2) k ((jr h27).1 hk)
omit hz in
theorem PY:∀i,(nxt cs (cP cs) i).length<=2:=λi=>by unfold nxt;(repeat' split)<;>simp
omit hz in
theorem aW1:∀i k,i<cs.length->k ∈ nxt cs (cP cs) i->k=i->a8 (cs.getD i (0,0,0,0,0)).1 (cs.getD i (0,0,0,0,0)).2.1= -1:=λi k hi hk e=>by
 by_cases hb:dY (bT cs i)
 ·exact gr hb
 ·unfold dY at hb
  unfold nxt at hk
  rw[if_neg (by omega),if_neg (by omega),if_neg (by omega),if_neg (by omega)] at hk
  simp at hk
  omega
include ha
theorem Dc:bR Try.prog 11 [aL la.length (aC la) R par cs] [.v (.fs 1 (cs.length+1) (gC (cq cs (bG cs (cP cs)) R))),.v (.n .i64 0)]:=by
 have h:=bV hz
 have hn:=h.ncs
 have hA:=h.nA
 have hR:=aR hz
 have:=BW la R par cs (by omega) ha hz (nxt cs (cP cs)) R (by omega) (Aq hz) hn (CJ hz) (aNx hz) PY (kp hz) aW1
 rw[sK h.pok (kp hz)] at this
 exact this
theorem tz:bR Try.prog 27 [aL la.length (aC la) R par cs] [.v (.n .i64 (dw la R par cs).1),.v (.n .i64 0)]:=by
 have h:=bV hz
 have hn:=h.ncs
 have hA:=h.nA
 have:=ip la R par cs (by omega) (by omega) ha
 rw[hz] at this
 exact this
theorem CI:bR Try.prog 39 [aL la.length (aC la) R par cs] [.v (.n .i64 (qv (la.map jb) R par (cs.map bp)).1),.v (.n .i64 0)]:=by
 have h:=bV hz
 have hn:=h.ncs
 have hA:=h.nA
 have:=lP la R par cs (by omega) (by omega) ha
 rw[hz] at this
 exact this
omit ha in
theorem PU:bR Try.prog 23 [.fs 5 cs.length (cC cs)] [.v (.fs 1 (rX cs).length (iC .i64 (rX cs))),.v (.n .i64 0),.v (.n .i64 0)]:=by
 have h:=bV hz
 obtain⟨_,hl,_,t,ht,hw,he⟩:=h.pt
 rw[he]
 exact uT cs t ht hw h.ncs
omit ha in
theorem IR:bR Try.prog 40 [aL la.length (aC la) R par cs] [.v (.fs 1 (cs.length+1) (λi _=> .fs 1 R (bC (Ig cs (bG cs (cP cs)) i))))]:=by
 have h:=bV hz
 have hR:=aR hz
 exact uX la par cs R (by omega) h.ncs (rX cs) h.pok.len (cP cs) _ _ rfl rfl (PU hz) h.pok.at_ (CJ hz) (kp hz)
theorem Sr:bR Try.prog 12 [aL la.length (aC la) R par cs] [.v (.fs 1 (cs.length+1) (gC (cq cs (bG cs (cP cs)) R))),.v (.n .i64 0)]:=by
 have h:=bV hz
 have hn:=h.ncs
 have hR:=aR hz
 exact xC la.length (aC la) R par cs _ (CI hz ha) (cs.length+1) R (by omega) (by omega) _ (IR hz)
theorem oy:bR Try.prog 13 [aL la.length (aC la) R par cs] [.v (.n .i64 (AJ (cq cs (bG cs (cP cs)) R) (cs.length+1))),.v (.n .i64 0)]:=by
 have hn:=(bV hz).ncs
 have hR:=aR hz
 exact oS la.length (aC la) R par cs _ _ (by omega) 0 (λi=>by have:=vL cs (bG cs (cP cs)) R i;omega) (Dc hz ha)
omit ha in
theorem PW:bR Try.prog 52 [.fs 5 cs.length (cC cs)] [.v (.fs 1 (bH cs R).length (λj _=> .n .i64 (((bH cs R).getD j 0:Nat):Int)))]:=by
 have hR:=aR hz
 exact m9 cs R (by omega) (bV hz).ncs (CJ hz) (PS hz) (λx hx=>by
  rw[jY]
  have:(aD x.1 x.2.2.1 x.2.2.2.1).length<=2:=by unfold aD;(repeat' split)<;>simp
  omega)
omit ha in
def wq(cs:List In)(R:Nat):List In:=cs.map (dM (wo (λr=>cN cs (r:Int)) R))
theorem Au:bR Try.prog 20 [aL la.length (aC la) R par cs] [.v (aL la.length (aC la) (bH cs R).length par (wq cs R)),.v (.n .i64 0)]:=by
 have h:=bV hz
 have hA:=h.nA
 have hR:=aR hz
 have hl:=jo cs R
 have:=s8 la R par cs _ (by omega) h.ncs (bH cs R) (cO cs R) (by omega) (tz hz ha) (PW hz)
 rw[pH (IU hz)] at this
 exact this
noncomputable def clr(cs:List In)(R:Nat):Nat->Nat:=PN (λr=>cN cs (r:Int)) (λr s=>vP cs (bG cs (cP cs)) r s=true) R
noncomputable def cG(cs:List In)(R:Nat):Nat:=kj (clr cs R) (λr=>cN cs (r:Int)) R
omit hz ha in
theorem jM(cs:List In)(R:Nat):rT (λr=>cN cs (r:Int)) (λr s=>vP cs (bG cs (cP cs)) r s=true) R (clr cs R):=zv _ _ _
omit ha in
theorem uH:iz Try.prog 42 [.fs 5 cs.length (cC cs)] (λ_=>True) (λM rs N=>∃(r1:Nat) (x:dv),rs=[.v (.cv (.map (some r1))),.v (.n .i64 (cG cs R))]/\N r1=some (.mp x)/\x.get=fA (jW (clr cs R) (bH cs R) (bH cs R).length)):=by
 have h:=bV hz
 have hR:=aR hz
 have hl:=jo cs R
 have hi:=kf cs (nxt cs (cP cs)) R (Aq hz) h.ncs (CJ hz) (aNx hz) PY (kp hz) aW1
 have hin:=nW hi (Post':=λM rs N=>∃(r0:Nat) (pa:Int->Option Nat) (T':Int->List Int),rs=[.v (.cv (.map (some r0)))]/\gp r0 pa T' N/\(∀p,(T' p).Nodup)/\(∀p q,q ∈ T' p↔q ∈ BE cs (bG cs (cP cs)) R p)) (λM rs N ⟨r0,pa,T',e1,e2,e3,e4⟩=>⟨r0,pa,T',e1,e2,e3,λp q=>by
  rw[e4,ua,vQ h.pok (kp hz)]
  exact⟨λg=>⟨(fJ.range (kp hz) (CH hz) g).2,g⟩,λg=>g.2⟩⟩)
 refine nW (s9 cs (BE cs (bG cs (cP cs)) R) (bH cs R) (cO cs R) (by omega) (vn _ _ _) (λp=>by have:=BD cs (bG cs (cP cs)) R p;omega) hin (PW hz)) (λM rs N ⟨r1,x,K,e1,e2,e3,e4⟩=>?_)
 have hu:=vu (cs:=cs) (R:=R) (T:=BE cs (bG cs (cP cs)) R) (nb:=λr s=>vP cs (bG cs (cP cs)) r s=true) (λa b ha hb=>by
  rw[ua,jD]
  exact⟨λg=>g.2,λg=>⟨by omega,g⟩⟩) e4 (jM cs R)
 rw[gS hu,oe] at e1
 rw[j9 hu] at e3
 exact⟨r1,x,e1,e2,e3⟩
omit ha in
end
end Go.Proofs.Yteopfmnnhlhbmaa
namespace Go.Proofs.Yteopfmnnhlhbmaa
open Go.RowKit
noncomputable def ib(cs:List In)(R:Nat):List Int:=kL (clr cs R) R
theorem IH{cs:List In}{R v:Nat}(h:v<R):clr cs R v<R:=by
 have:=(jM cs R).le v h
 omega
theorem pK(cs:List In)(R:Nat):cG cs R<=R:=uu (λr hr=>(jM cs R).le r hr)
section
variable {la:List (Bool×Int)} {R:Nat} {par:Int} {cs:List In} (hz:(dw la R par cs).2=0) (ha:ef cs)
include hz
theorem kb:∀x ∈ cs,eS (jW (clr cs R) (bH cs R) (bH cs R).length) x=dM (ib cs R) x:=λx hx=>by
 refine lY (IU hz x hx) ?_ (λv h0 h1 hv=>?_)
 ·cases h:jW (clr cs R) (bH cs R) (bH cs R).length (-1) with
  |none=>rfl
  |some y=>
   obtain⟨i,_,h2,_⟩:=(jt (cO cs R) (Nat.le_refl _) _ _).1 h
   omega
 ·obtain⟨n,rfl⟩:∃n:Nat,v=n:=⟨v.toNat,by omega⟩
  have hm:n ∈ bH cs R:=gF.2 ⟨by omega,jp hx hv⟩
  obtain⟨i,hi,e⟩:=List.getElem_of_mem hm
  have e2:(bH cs R).getD i 0=n:=by rw[List.getD_eq_getElem?_getD,List.getElem?_eq_getElem hi,e];rfl
  refine(jt (cO cs R) (Nat.le_refl _) _ _).2 ⟨i,hi,by rw[e2],?_⟩
  rw[e2,Int.toNat_natCast]
  exact o9 _ _ _ (by omega)
theorem A9:∀x ∈ cs,(-1<=dp (ib cs R) x.2.1/\dp (ib cs R) x.2.1<100000)/\(-1<=dp (ib cs R) x.2.2.1/\dp (ib cs R) x.2.2.1<100000)/\(-1<=dp (ib cs R) x.2.2.2.1/\dp (ib cs R) x.2.2.2.1<100000):=λx hx=>by
 have hR:=aR hz
 have key:∀v:Int,(v= -1\/(0<=v/\v<(R:Int)/\v ∈ bO x))-> -1<=dp (ib cs R) v/\dp (ib cs R) v<100000:=λv hv=>by
  unfold dp
  rcases hv with rfl|⟨h0,h1,_⟩
  ·rw[if_pos (by decide)];omega
  ·rw[if_neg (by omega)]
   have hv:v.toNat<R:=by omega
   have e:(ib cs R).getD v.toNat 0=((clr cs R v.toNat:Nat):Int):=o9 _ _ _ hv
   rw[e]
   have:=IH (cs:=cs) hv
   omega
 obtain⟨h1,h2,h3⟩:=(IU hz x hx).regs3
 exact⟨key _ h1,key _ h2,key _ h3⟩
include ha
theorem oA{r:Nat}(hr:4<=r/\r<=1024)(hn:cG cs R<=r):bR Try.prog 17 [aL la.length (aC la) R par cs,.n .i64 r] [.v (aL la.length (aC la) (cG cs R) par (cs.map (dM (ib cs R)))),.v (.n .i64 0)]:=by
 have h:=bV hz
 have hA:=h.nA
 have:=Ak la R par cs _ (by omega) h.ncs r (cG cs R) hr _ (tz hz ha) (uH hz) hn
 rw[List.map_congr_left (kb hz)] at this
 exact this
theorem oz{r:Nat}(hr:4<=r/\r<=1024)(hn:r<cG cs R):bR Try.prog 17 [aL la.length (aC la) R par cs,.n .i64 r] (if 1024<par+(cG cs R:Int)-((r:Int)-3)\/16384<(gk (ib cs R) ((r:Int)-3) par cs).length then[.v CM,.v (.n .i64 6)] else[.v (aL la.length (aC la) r (par+(cG cs R:Int)-((r:Int)-3)) (gk (ib cs R) ((r:Int)-3) par cs)),.v (.n .i64 0)]):=by
 have h:=bV hz
 have hA:=h.nA
 have hR:=aR hz
 have hcl:=pK cs R
 have e:oH (jW (clr cs R) (bH cs R) (bH cs R).length) ((r:Int)-3) par cs=gk (ib cs R) ((r:Int)-3) par cs:=by
  unfold oH gk
  rw[List.map_congr_left (λx hx=>by rw[kb hz x hx])]
 have hg:∀y ∈ cs,(-1<=fU (jW (clr cs R) (bH cs R) (bH cs R).length) y.2.1/\fU (jW (clr cs R) (bH cs R) (bH cs R).length) y.2.1<100000)/\(-1<=fU (jW (clr cs R) (bH cs R) (bH cs R).length) y.2.2.1/\fU (jW (clr cs R) (bH cs R) (bH cs R).length) y.2.2.1<100000)/\(-1<=fU (jW (clr cs R) (bH cs R) (bH cs R).length) y.2.2.2.1/\fU (jW (clr cs R) (bH cs R) (bH cs R).length) y.2.2.2.1<100000):=λy hy=>by
  have e1:=kb hz y hy
  unfold eS dM at e1
  simp only[Prod.mk.injEq,true_and] at e1
  obtain⟨e1,e2,e3,_⟩:=e1
  rw[e1,e2,e3]
  exact A9 hz y hy
 have:=Aj la R par cs _ (by omega) h.ncs r (cG cs R) hr _ (tz hz ha) (uH hz) hn (by omega) (PV hz) hg
 rw[e] at this
 exact this
end
end Go.Proofs.Yteopfmnnhlhbmaa
namespace Go.Proofs.Yteopfmnnhlhbmaa
open Go.RowKit
theorem xt{regs n:Int}{u:Bool}(h:if u=true then 0<=n/\n<regs else n= -1):¬az regs n u=false:=by
 unfold az
 cases u
 ·rw[if_neg (by decide)] at h ⊢
  subst h;decide
 ·rw[if_pos rfl] at h ⊢
  rw[decide_eq_true h];decide
theorem iM.chk{regs par nA:Int}{x:In}(h:iM regs par nA x):da regs par nA (bp x)=0:=by
 obtain⟨k,hk⟩:∃k:Nat,x.1=(k:Int):=⟨x.1.toNat,by have:=h.op;omega⟩
 obtain⟨s1,s2,s3⟩:=iR k (by have:=h.op;omega)
 have e:x.1.toNat=k:=by omega
 have g1:=h.to
 have g2:=h.a
 have g3:=h.b
 unfold xe at g2
 unfold xd at g3
 rw[e,s1,<-hk] at g1
 rw[e,s2,<-hk] at g2
 rw[e,s3,<-hk] at g3
 have h1:cZ (bp x).op=true:=h.isop
 have h4:¬bq nA par (bp x).op<(bp x).arg:=by
  have:(bp x).arg<=bq nA par (bp x).op:=h.arg
  omega
 unfold da
 rw[if_neg (by rw[h1];decide),if_neg]
 rintro (h|h|h|h)
 ·exact xt g1 h
 ·exact xt g2 h
 ·exact xt g3 h
 ·exact h4 h
theorem tc{la:List (Bool×Int)}{R par R2 par2:Int}{cs cs2:List In}(hz:(dw la R par cs).2=0)(hR2:0<=R2/\R2<=1024)(hp:0<=par2/\par2<=1024)(hl:cs2.length<=16384)
  (hi:∀x ∈ cs2,iM R2 par2 la.length x) (hn:dI (cs2.map (·.1)) []=some []):(dw la R2 par2 cs2).2=0:=by
 have hn2:(aQ (cs2.map bp) 0 []).2=false:=(gH _ _ _).2 (by rw[tV];exact hn)
 have hc2:bP R2 par2 ((la.map jb).length:Nat) (cs2.map bp) 0=none:=ol _ _ λi hm=>by
  obtain⟨x,hx,rfl⟩:=List.mem_map.1 hm
  rw[List.length_map]
  exact(hi x hx).chk
 unfold dw bw at hz ⊢
 split at hz
 ·simp at hz
 rename_i h8
 rw[if_neg h8]
 split at hz
 ·simp at hz
 rename_i n hn1
 split at hz
 ·simp at hz
 rename_i hr
 rw[if_neg (by omega),if_neg (by rw[List.length_map];omega),hc2]
 simp only[hn2]
 rfl
theorem oX{la:List (Bool×Int)}{R par:Int}{cs:List In}(hz:(dw la R par cs).2=0):dI (cs.map (·.1)) []=some []:=by
 have:=(gH _ _ _).1 (bV hz).nest
 rwa [tV] at this
/-! ### other names-/
theorem iM.rnm{R par nA R2:Int}{nm:List Int}{x:In}(h:iM R par nA x)(hn:∀v:Int,0<=v->v<R->v ∈ bO x->0<=dp nm v/\dp nm v<R2):iM R2 par nA (dM nm x):=by
 obtain⟨h1,h2,h3⟩:=h.regs3
 have key:∀{u:Bool} {v:Int},(if u=true then 0<=v/\v<R else v= -1)->(v= -1\/(0<=v/\v<R/\v ∈ bO x))->if u=true then 0<=dp nm v/\dp nm v<R2 else dp nm v= -1:=λ{u v} g1 g2=>by
  split at g1
  ·rename_i hu
   rw[if_pos hu]
   rcases g2 with rfl|⟨a,b,c⟩
   ·omega
   ·exact hn _ a b c
  ·rename_i hu
   rw[if_neg hu,g1]
   rfl
 exact⟨h.op,key h.to h1,key h.a h2,key h.b h3,h.arg,h.isop⟩
theorem tU(nm:List Int)(cs:List In):(cs.map (dM nm)).map (·.1)=cs.map (·.1):=by
 rw[List.map_map];rfl
theorem rI{nm:List Int}{cs:List In}(h:ef cs):ef (cs.map (dM nm)):=λx hx=>by
 obtain⟨y,hy,rfl⟩:=List.mem_map.1 hx
 exact h y hy
theorem lu{K:Nat->Nat}{occ:Nat->Bool}:∀{n v:Nat},v<n->occ v=true->K v<kj K occ n
 |0,v,h,_=>by omega
 |n+1,v,h,ho=>by
  unfold kj
  by_cases e:v=n
  ·subst e;rw[if_pos ho];omega
  ·have:=lu (K:=K) (n:=n) (by omega) ho
   split<;>omega
theorem uy{f:Nat->Bool}:∀{n v:Nat},v<n->f v=true->mF f v<mF f n
 |0,v,h,_=>by omega
 |n+1,v,h,ho=>by
  show mF f v<mF f n+(if f n then 1 else 0)
  by_cases e:v=n
  ·subst e;rw[if_pos ho];omega
  ·have:=uy (n:=n) (by omega) ho
   omega
section
variable {la:List (Bool×Int)} {R:Nat} {par:Int} {cs:List In} (hz:(dw la R par cs).2=0)
include hz
theorem IW:R<=1024:=by have:=(bV hz).nregs;omega
theorem lR:0<=par/\par<=1024:=PV hz
theorem Cw:(dw la (cG cs R:Nat) par (cs.map (dM (ib cs R)))).2=0:=by
 have hk:=bV hz
 have hR:=IW hz
 have hc:=pK cs R
 refine tc hz (by omega) (lR hz) (by rw[List.length_map];exact hk.ncs) (λy hy=>?_) (by rw[tU];exact oX hz)
 obtain⟨x,hx,rfl⟩:=List.mem_map.1 hy
 refine(hk.inC x hx).rnm λv h0 h1 hv=>?_
 have ho:=jp hx hv
 obtain⟨n,rfl⟩:∃n:Nat,v=n:=⟨v.toNat,by omega⟩
 have e:dp (ib cs R) (n:Int)=((clr cs R n:Nat):Int):=by
  unfold dp
  rw[if_neg (by omega),Int.toNat_natCast]
  exact o9 _ _ _ (by omega)
 rw[e]
 have:clr cs R n<cG cs R:=lu (by omega) ho
 omega
omit hz in
theorem Ba{v:Nat}(h:v<R):dp (wo (λr=>cN cs (r:Int)) R) (v:Int)=((mF (λr=>cN cs (r:Int)) v:Nat):Int):=by
 unfold dp
 rw[if_neg (by omega),Int.toNat_natCast,rD _ _ _ h]
theorem Cu:(dw la ((bH cs R).length:Nat) par (wq cs R)).2=0:=by
 have hk:=bV hz
 have hR:=IW hz
 have hc:=jo cs R
 refine tc hz (by omega) (lR hz) (by unfold wq;rw[List.length_map];exact hk.ncs) (λy hy=>?_) (by unfold wq;rw[tU];exact oX hz)
 obtain⟨x,hx,rfl⟩:=List.mem_map.1 hy
 refine(hk.inC x hx).rnm λv h0 h1 hv=>?_
 have ho:=jp hx hv
 obtain⟨n,rfl⟩:∃n:Nat,v=n:=⟨v.toNat,by omega⟩
 rw[Ba (by omega)]
 have:=uy (f:=λr=>cN cs (r:Int)) (n:=R) (v:=n) (by omega) ho
 have e:=mE (cs:=cs) R
 omega
end
/-! ### Compact changes nothing in what it has returned-/
section
variable {la:List (Bool×Int)} {R:Nat} {par:Int} {cs:List In} (hz:(dw la R par cs).2=0)
include hz
omit hz in
omit hz in
end
/-! ### spilled code-/
theorem nG(nm:List Int)(kept first:Int)(x:In)(cs:List In):gk nm kept first (x::cs)=rV kept first (dM nm x)++gk nm kept first cs:=rfl
theorem xT(kept first q c:Int)(o:List NB):dI ((g8 kept first q c).map (·.1)) o=some o:=by
 unfold g8
 split
 ·show(ax 38 o).bind (dI [])=some o
  rw[n3 ⟨by decide,by decide,by decide,by decide,by decide⟩];rfl
 ·rfl
theorem xS(kept first c:Int)(o:List NB):dI ((tN kept first c).map (·.1)) o=some o:=by
 unfold tN
 split
 ·show(ax 37 o).bind (dI [])=some o
  rw[n3 ⟨by decide,by decide,by decide,by decide,by decide⟩];rfl
 ·rfl
theorem xV(op:Int)(o:List NB):dI [op] o=ax op o:=by
 show(ax op o).bind (λo=>some o)=_
 cases ax op o<;>rfl
theorem qJ(nm:List Int)(kept first:Int):∀(cs:List In) (o:List NB),dI ((gk nm kept first cs).map (·.1)) o=dI (cs.map (·.1)) o
 |[],o=>rfl
 |x::cs,o=>by
  rw[nG]
  unfold rV
  simp only[List.map_append,nN,xT,Option.bind_some]
  rw[show List.map (λx:In=>x.1) [He kept (dM nm x)]=[x.1] from rfl,xV,List.map_cons,dI]
  cases ax x.1 o with
  |none=>rfl
  |some o2=>
   simp only[Option.bind_some,xS]
   exact qJ nm kept first cs o2
theorem vq{nA par par2 op:Int}(h:par<=par2):bq nA par op<=bq nA par2 op:=by
 unfold bq
 repeat' split
 all_goals omega
theorem lw{kept first c:Int}(h0:0<=first+c-kept)(h1:first+c-kept<100000):ff kept first c=first+c-kept:=tE (by omega)
theorem x4(nA p:Int):bq nA p 38=p-1:=by
 unfold bq
 rw[if_neg (by decide),if_neg (by decide),if_neg (by decide),if_neg (by decide),if_pos (by decide)]
theorem x5(nA p:Int):bq nA p 37=p-1:=by
 unfold bq
 rw[if_neg (by decide),if_neg (by decide),if_neg (by decide),if_neg (by decide),if_pos (by decide)]
theorem uh{nA par q c:Int}{r n:Nat}(hr:4<=r/\r<=1024)(hq:0<=q/\q<=2)(hcn:c<(n:Int))(hp:0<=par)(h2:par+n-(r-3)<=1024):
  ∀y ∈ g8 ((r:Int)-3) par q c,iM r (par+n-(r-3)) nA y/\(0<=y.2.2.2.2/\y.2.2.2.2<4294967296):=by
 intro y hy
 unfold g8 at hy
 split at hy
 ·rename_i hk
  obtain rfl:=List.mem_singleton.1 hy
  have hc:=lw (kept:=(r:Int)-3) (first:=par) (c:=c) (by omega) (by omega)
  refine⟨⟨(by decide:(0:Int)<=38/\(38:Int)<39),?_,?_,?_,?_,(by decide:cZ 38=true)⟩,?_⟩
  ·show if(b8 38).getD 1 false=true then 0<=(r:Int)-3+q/\(r:Int)-3+q<(r:Int) else(r:Int)-3+q= -1
   rw[if_pos (by decide)];omega
  ·show if xe 38=true then _ else _
   rw[if_neg (by decide)]
  ·show if xd 38=true then _ else _
   rw[if_neg (by decide)]
  ·show ff _ _ _<=bq _ _ 38
   rw[x4,hc];omega
  ·simp only;rw[hc];omega
 ·cases hy
theorem B6{nA par c:Int}{r n:Nat}(hr:4<=r/\r<=1024)(hcn:c<(n:Int))(hp:0<=par)(h2:par+n-(r-3)<=1024):
  ∀y ∈ tN ((r:Int)-3) par c,iM r (par+n-(r-3)) nA y/\(0<=y.2.2.2.2/\y.2.2.2.2<4294967296):=by
 intro y hy
 unfold tN at hy
 split at hy
 ·rename_i hk
  obtain rfl:=List.mem_singleton.1 hy
  have hc:=lw (kept:=(r:Int)-3) (first:=par) (c:=c) (by omega) (by omega)
  refine⟨⟨(by decide:(0:Int)<=37/\(37:Int)<39),?_,?_,?_,?_,(by decide:cZ 37=true)⟩,?_⟩
  ·show if(b8 37).getD 1 false=true then _ else _
   rw[if_neg (by decide)]
  ·show if xe 37=true then _ else _
   rw[if_pos (by decide)];simp only;omega
  ·show if xd 37=true then _ else _
   rw[if_neg (by decide)]
  ·show ff _ _ _<=bq _ _ 37
   rw[x5,hc];omega
  ·simp only;rw[hc];omega
 ·cases hy
theorem B5{R par nA:Int}{nm:List Int}{x:In}{r:Nat}{n:Nat}(h:iM R par nA x)(hr:4<=r/\r<=1024)(hn:∀v:Int,0<=v->v<R->v ∈ bO x->0<=dp nm v/\dp nm v<(n:Int))(hp:0<=par)(hc:(r:Int)<n)(h2:par+n-(r-3)<=1024)
  (hx2:0<=x.2.2.2.2/\x.2.2.2.2<4294967296):∀y ∈ rV ((r:Int)-3) par (dM nm x),iM r (par+n-(r-3)) nA y/\(0<=y.2.2.2.2/\y.2.2.2.2<4294967296):=by
 have hx:=h.rnm (R2:=n) hn
 have hza:(dM nm x).2.2.2.2=x.2.2.2.2:=rfl
 rw[<-hza] at hx2
 generalize dM nm x=z at hx hx2
 have b1:z.2.1<(n:Int):=by rcases hx.regs3.1 with h|h<;>omega
 have b2:z.2.2.1<(n:Int):=by rcases hx.regs3.2.1 with h|h<;>omega
 have b3:z.2.2.2.1<(n:Int):=by rcases hx.regs3.2.2 with h|h<;>omega
 intro y hy
 unfold rV at hy
 rcases List.mem_append.1 hy with hy|hy
 ·rcases List.mem_append.1 hy with hy|hy
  ·exact uh hr (by omega) b2 hp h2 y hy
  ·exact uh hr (by omega) b3 hp h2 y hy
 rcases List.mem_append.1 hy with hy|hy
 ·obtain rfl:=List.mem_singleton.1 hy
  have key:∀{u:Bool} {v q:Int},0<=q/\q<=2->(if u=true then 0<=v/\v<(n:Int) else v= -1)->if u=true then 0<=i8 ((r:Int)-3) q v/\i8 ((r:Int)-3) q v<(r:Int) else i8 ((r:Int)-3) q v= -1:=λ{u v q} hq g=>by
   split at g
   ·rename_i hu
    rw[if_pos hu]
    unfold i8
    split<;>omega
   ·rename_i hu
    rw[if_neg hu,g]
    unfold i8
    rw[if_neg (by omega)]
  have ham:z.2.2.2.2<=bq nA par z.1:=hx.arg
  have hmo:=vq (nA:=nA) (par:=par) (par2:=par+n-(r-3)) (op:=z.1) (by omega)
  exact⟨⟨hx.op,key (by omega) hx.to,key (by omega) hx.a,key (by omega) hx.b,(by omega:z.2.2.2.2<=bq nA (par+n-(r-3)) z.1),hx.isop⟩,hx2⟩
 ·exact B6 hr b1 hp h2 y hy
section
variable {la:List (Bool×Int)} {R:Nat} {par:Int} {cs:List In} (hz:(dw la R par cs).2=0) (ha:ef cs)
include hz
omit hz in
theorem t7{x:In}(hx:x ∈ cs):∀v:Int,0<=v->v<(R:Int)->v ∈ bO x->0<=dp (ib cs R) v/\dp (ib cs R) v<((cG cs R:Nat):Int):=λv h0 h1 hv=>by
 have ho:=jp hx hv
 obtain⟨n,rfl⟩:∃n:Nat,v=n:=⟨v.toNat,by omega⟩
 have e:dp (ib cs R) (n:Int)=((clr cs R n:Nat):Int):=by
  unfold dp
  rw[if_neg (by omega),Int.toNat_natCast]
  exact o9 _ _ _ (by omega)
 rw[e]
 have:clr cs R n<cG cs R:=lu (by omega) ho
 omega
include ha
theorem xi{r:Nat}(hr:4<=r/\r<=1024)(hn:r<cG cs R)(h2:par+(cG cs R:Int)-((r:Int)-3)<=1024):
  ∀y ∈ gk (ib cs R) ((r:Int)-3) par cs,iM r (par+(cG cs R:Int)-((r:Int)-3)) la.length y/\(0<=y.2.2.2.2/\y.2.2.2.2<4294967296):=λy hy=>by
 unfold gk at hy
 obtain⟨l,hl,hyl⟩:=List.mem_flatten.1 hy
 obtain⟨x,hx,rfl⟩:=List.mem_map.1 hl
 exact B5 ((bV hz).inC x hx) hr (t7 hx) (lR hz).1 (by omega) h2 (ha x hx) y hyl
theorem Ct{r:Nat}(hr:4<=r/\r<=1024)(hn:r<cG cs R)(h2:par+(cG cs R:Int)-((r:Int)-3)<=1024)(hl:(gk (ib cs R) ((r:Int)-3) par cs).length<=16384):
  (dw la r (par+(cG cs R:Int)-((r:Int)-3)) (gk (ib cs R) ((r:Int)-3) par cs)).2=0:=
 tc hz (by omega) (by have:=(lR hz).1;omega) hl (λy hy=>(xi hz ha hr hn h2 y hy).1) (by rw[qJ];exact oX hz)
theorem Ad{r:Nat}(hr:4<=r/\r<=1024)(hn:r<cG cs R)(h2:par+(cG cs R:Int)-((r:Int)-3)<=1024):ef (gk (ib cs R) ((r:Int)-3) par cs):=λy hy=>(xi hz ha hr hn h2 y hy).2
end
end Go.Proofs.Yteopfmnnhlhbmaa
namespace Go.Proofs.Yteopfmnnhlhbmaa
open Go.RowKit
def wM:List In->Int->Bool
 |[],_=>false
 |x::l,r=>(aD x.1 x.2.2.1 x.2.2.2.1).contains r||(!decide (r=a8 x.1 x.2.1)&&wM l r)
def mw(cs:List In):Bool:=cs.all λx=>decide (¬dY x.1)
theorem Cf{cs:List In}(h:mw cs=true){i:Nat}(hi:i<cs.length):¬dY (bT cs i):=by
 have:=List.all_eq_true.1 h (cs.getD i (0,0,0,0,0)) (by rw[List.getD_eq_getElem?_getD,List.getElem?_eq_getElem hi];exact List.getElem_mem hi)
 exact of_decide_eq_true this
theorem um{cs:List In}(h:mw cs=true)(pt:Nat->Nat){i:Nat}(hi:i<cs.length):bG cs pt i=[i+1]:=by
 have:=Cf h hi
 unfold dY at this
 unfold bG
 rw[if_neg (by omega),if_neg (by omega),if_neg (by omega)]
theorem sI{cs:List In}{nx:Nat->List Nat}(hnx:∀i,i<cs.length->nx i=[i+1]){i:Nat}{r:Int}:bm cs nx i r↔wM (cs.drop i) r=true:=by
 constructor
 ·intro h
  induction h with
  |@read i r hi h=>
   rw[List.drop_eq_getElem_cons hi]
   have e:cs.getD i (0,0,0,0,0)=cs[i]:=by rw[List.getD_eq_getElem?_getD,List.getElem?_eq_getElem hi];rfl
   rw[e] at h
   unfold wM
   rw[List.contains_iff_mem.2 h];rfl
  |@flow i k r hi hk h hw ih=>
   rw[hnx i hi] at hk
   simp at hk
   subst hk
   rw[List.drop_eq_getElem_cons hi]
   have e:cs.getD i (0,0,0,0,0)=cs[i]:=by rw[List.getD_eq_getElem?_getD,List.getElem?_eq_getElem hi];rfl
   rw[e] at hw
   unfold wM
   rw[ih,decide_eq_false hw]
   simp
 ·intro h
  by_cases hi:i<cs.length
  ·have e:cs.getD i (0,0,0,0,0)=cs[i]:=by rw[List.getD_eq_getElem?_getD,List.getElem?_eq_getElem hi];rfl
   have ih:wM (cs.drop (i+1)) r=true->bm cs nx (i+1) r:=λh=>(sI hnx).2 h
   rw[List.drop_eq_getElem_cons hi] at h
   unfold wM at h
   simp only[Bool.or_eq_true,Bool.and_eq_true,Bool.not_eq_true',decide_eq_false_iff_not] at h
   rcases h with h|⟨h1,h2⟩
   ·exact .read hi (by rw[e];exact List.contains_iff_mem.1 h)
   ·exact .flow hi (by rw[hnx i hi];simp) (ih h2) (by rw[e];exact h1)
  ·rw[List.drop_eq_nil_of_le (by omega)] at h
   cases h
termination_by cs.length-i
decreasing_by omega
theorem BZ{cs:List In}{nx:Nat->List Nat}(hnx:∀i,i<cs.length->nx i=[i+1])(R i:Nat):cq cs nx R i=(List.range R).filter λr:Nat=>wM (cs.drop i) (r:Int):=by
 unfold cq
 congr 1
 funext r
 rw[Bool.eq_iff_iff,@decide_eq_true_iff _ (Classical.propDecidable _)]
 exact sI hnx
def P5(cs:List In)(p q:Int):Bool:=(!decide (p=q)&&(wM cs p&&wM cs q))||(List.range cs.length).any λi=>decide (0<=qe cs i)&&((decide (p=qe cs i)&&(!decide (q=p)&&wM (cs.drop (i+1)) q))||(decide (q=qe cs i)&&(!decide (p=q)&&wM (cs.drop (i+1)) p)))
theorem yD{cs:List In}{nx:Nat->List Nat}(hnx:∀i,i<cs.length->nx i=[i+1]){p q:Int}:fJ cs nx p q↔P5 cs p q=true:=by
 unfold fJ P5
 simp only[Bool.or_eq_true,Bool.and_eq_true,Bool.not_eq_true',decide_eq_false_iff_not,decide_eq_true_eq,List.any_eq_true,List.mem_range,sI hnx,List.drop_zero]
 constructor
 ·rintro (h|⟨i,k,h1,h2,h3,h4⟩)
  ·exact .inl h
  ·rw[hnx i h1] at h2
   simp at h2
   subst h2
   exact .inr ⟨i,h1,h3,h4⟩
 ·rintro (h|⟨i,h1,h3,h4⟩)
  ·exact .inl h
  ·exact .inr ⟨i,i+1,h1,by rw[hnx i h1];simp,h3,h4⟩
def BH(l:List Nat):Nat:=((List.range (l.length+1)).find? λc=> !l.contains c).getD 0
def iZ(cs:List In):Nat->List Nat
 |0=>[]
 |r+1=>iZ cs r++[if cN cs (r:Int)=true then BH (((List.range r).filter λs:Nat=>cN cs (s:Int)&&P5 cs (r:Int) (s:Int)).map λs=>(iZ cs r).getD s 0) else 0]
theorem jK(cs:List In):∀n,(iZ cs n).length=n
 |0=>rfl
 |n+1=>by unfold iZ;rw[List.length_append,List.length_singleton,jK cs n]
theorem jL(cs:List In):∀(n r:Nat),r<n->(iZ cs n).getD r 0=(iZ cs (r+1)).getD r 0
 |0,r,h=>by omega
 |n+1,r,h=>by
  by_cases e:r=n
  ·subst e;rfl
  ·conv=>lhs;unfold iZ
   rw[List.getD_eq_getElem?_getD,List.getElem?_append_left (by rw[jK];omega),<-List.getD_eq_getElem?_getD]
   exact jL cs n r (by omega)
theorem x8(l:List Nat):ek (λc=>c ∈ l) (BH l):=by
 unfold BH
 cases h:(List.range (l.length+1)).find? (λc=> !l.contains c) with
 |none=>
  exfalso
  have h1:=List.find?_eq_none.1 h
  have:=fP (l:=List.range (l.length+1)) (l':=l) List.nodup_range (λc hc=>by
   have:=h1 c hc
   simpa using this)
  rw[List.length_range] at this
  omega
 |some c=>
  rw[Option.getD_some]
  obtain⟨h1,l1,l2,h2,h3⟩:=List.find?_eq_some_iff_append.1 h
  refine⟨by simpa using h1,λc' hc'=>?_⟩
  have hlen:l1.length=c:=by
   have e1:(List.range (l.length+1))[l1.length]? =some c:=by rw[h2,List.getElem?_append_right (Nat.le_refl _),Nat.sub_self];rfl
   obtain⟨q1,q2⟩:=List.getElem?_eq_some_iff.1 e1
   rw[List.getElem_range] at q2
   exact q2
  have hm:c' ∈ l1:=by
   have e1:(List.range (l.length+1))[c']? =some c':=List.getElem?_range (by
    have:=congrArg List.length h2
    simp at this
    omega)
   rw[h2,List.getElem?_append_left (by omega)] at e1
   exact List.mem_of_getElem? e1
  have:=h3 c' hm
  simpa using this
theorem zt(cs:List In){nx:Nat->List Nat}(hnx:∀i,i<cs.length->nx i=[i+1])(n:Nat):rT (λr=>cN cs (r:Int)) (λr s=>vP cs nx r s=true) n (λr=>(iZ cs n).getD r 0):=by
 have key:∀r,r<n->(iZ cs n).getD r 0=if cN cs (r:Int)=true then BH (((List.range r).filter λs:Nat=>cN cs (s:Int)&&P5 cs (r:Int) (s:Int)).map λs=>(iZ cs n).getD s 0) else 0:=λr hr=>by
  rw[jL cs n r hr]
  conv=>lhs;unfold iZ
  rw[List.getD_eq_getElem?_getD,List.getElem?_append_right (by rw[jK];exact Nat.le_refl _),jK,Nat.sub_self,List.getElem?_cons_zero,Option.getD_some]
  split
  ·congr 1
   refine List.map_congr_left (λs hs=>?_)
   have hs:=List.mem_range.1 (List.mem_filter.1 hs).1
   rw[jL cs n s (by omega),jL cs r s hs]
  ·rfl
 refine⟨λr hr ho=>?_,λr hr ho=>?_⟩
 ·have e:=key r hr
  rw[if_pos ho] at e
  show ek _ ((iZ cs n).getD r 0)
  rw[e]
  refine(x8 _).congr (λc=>?_)
  simp only[List.mem_map,List.mem_filter,List.mem_range,Bool.and_eq_true]
  constructor
  ·rintro ⟨s,⟨h1,h2,h3⟩,h4⟩
   exact⟨s,h1,h2,jD.2 ((yD hnx).2 h3),h4⟩
  ·rintro ⟨s,h1,h2,h3,h4⟩
   exact⟨s,⟨h1,h2,(yD hnx).1 (jD.1 h3)⟩,h4⟩
 ·have e:=key r hr
  rw[if_neg (by show ¬_;rw[show cN cs (r:Int)=false from ho];decide)] at e
  exact e
theorem C9{cs:List In}(h:mw cs=true)(R:Nat):∀r,r<R->clr cs R r=(iZ cs R).getD r 0:=
 (jM cs R).uniq (zt cs (λi hi=>um h _ hi) R) (λ_ _=>Iff.rfl)
theorem C3{cs:List In}(h:mw cs=true)(R:Nat):ib cs R=(List.range R).map λr=>(((iZ cs R).getD r 0:Nat):Int):=by
 unfold ib kL
 exact List.map_congr_left (λr hr=>by rw[C9 h R r (List.mem_range.1 hr)])
theorem zx{cs:List In}(h:mw cs=true)(R:Nat):cG cs R=kj (λr=>(iZ cs R).getD r 0) (λr=>cN cs (r:Int)) R:=mC (C9 h R)
theorem ntG(l:List Nat)(i j:Nat):fm l i j= .n .i64 ((l.getD i 0:Nat):Int):=rfl
theorem wi(l:List Nat)(hl:l.length<=100000):bR Try.prog 16 [.fs 1 l.length (fm l),.fs 1 l.length (fm l)] [.v (.b true)]:=by
 have hadd:∀j:Nat,j<200000->IntKind.wrap .i64 ((j:Int)+1)=((j+1:Nat):Int):=λj hj=>by rw[aU (by omega)];omega
 have hll:decide ((l.length:Int)=(l.length:Int))=true:=decide_eq_true rfl
 refine aO ba Ki ⟨by simp,by decide⟩ ?_
 simp only[bM]
 repeat first|with_reducible refine au ?_|simp only[hll,decide_true,go_sem,simprocAttr]
 refine GA.loop (I:=λmm e H=>∃(k:Nat),mm=l.length-k/\k<=l.length/\e=aF [(0,.fs 1 l.length (fm l)),(1,.fs 1 l.length (fm l)),(12,.n .i64 l.length),(13,.n .i64 k)]/\H=aX []) (Wk.mk [] [] ?_ ?_ ?_) ⟨0,rfl,Nat.zero_le _,rfl,rfl⟩ ?_
 ·simp only[bg,bf,go_sem,simprocAttr]
  repeat' refine ab ?_ ?_
  all_goals first|exact bo|skip
 ·exact .nil
 ·simp
 rintro mm e H ⟨k,rfl,hk,rfl,rfl⟩
 repeat first|with_reducible refine au ?_|simp only[go_sem,simprocAttr]
 refine⟨λh=>?_,λh=>?_⟩
 ·have hkl:k<l.length:=by omega
  have hk0:(0:Int)<=(k:Int):=by omega
  have ha:=hadd k (by omega)
  have hg:=ntG l k 0
  have hvv:decide (((l.getD k 0:Nat):Int)=((l.getD k 0:Nat):Int))=true:=decide_eq_true rfl
  repeat first|with_reducible refine au ?_|simp only[hk0,h,hg,hvv,ha,decide_true,go_sem,simprocAttr]
  refine⟨_,_,_,?_,Wk.mk [] [] ?_ ?_ ?_,k+1,rfl,by omega,rfl,rfl⟩
  ·omega
  ·simp only[bg,bf,go_sem,simprocAttr]
   repeat' refine ab ?_ ?_
   all_goals first|exact bo|skip
  ·exact .nil
  ·simp
 ·repeat first|with_reducible refine au ?_|simp only[go_sem,simprocAttr]
  exact⟨[_],rfl,dR.v rfl rfl .nil⟩
theorem nu(n:Nat)(hn:n<=100000)(L:Nat->List Nat)(hL:∀i,(L i).length<=100000):bR Try.prog 15 [.fs 1 n (gC L),.fs 1 n (gC L),.f 16 [] []] [.v (.b true)]:=by
 have hadd:∀j:Nat,j<200000->IntKind.wrap .i64 ((j:Int)+1)=((j+1:Nat):Int):=λj hj=>by rw[aU (by omega)];omega
 have hll:decide ((n:Int)=(n:Int))=true:=decide_eq_true rfl
 refine aO ba Kv ⟨by simp,by decide⟩ ?_
 simp only[bM]
 repeat first|with_reducible refine au ?_|simp only[hll,decide_true,go_sem,simprocAttr]
 refine GA.loop (I:=λmm e H=>∃(k:Nat),mm=n-k/\k<=n/\e=aF [(1,.fs 1 n (gC L)),(2,.f 16 [] []),(15,.fs 1 n (gC L)),(16,.n .i64 n),(17,.n .i64 k)]/\H=aX []) (Wk.mk [] [] ?_ ?_ ?_) ⟨0,rfl,Nat.zero_le _,rfl,rfl⟩ ?_
 ·simp only[bg,bf,go_sem,simprocAttr]
  repeat' refine ab ?_ ?_
  all_goals first|exact bo|skip
 ·exact .nil
 ·simp
 rintro mm e H ⟨k,rfl,hk,rfl,rfl⟩
 repeat first|with_reducible refine au ?_|simp only[go_sem,simprocAttr]
 refine⟨λh=>?_,λh=>?_⟩
 ·have hkl:k<n:=by omega
  have hk0:(0:Int)<=(k:Int):=by omega
  have ha:=hadd k (by omega)
  have hg:gC L k 0= .fs 1 (L k).length (fm (L k)):=rfl
  repeat first|with_reducible refine au ?_|simp only[hk0,h,hg,decide_true,go_sem,simprocAttr]
  refine I0 (wi (L k) (hL k)) ?_
  repeat first|with_reducible refine au ?_|simp only[ha,go_sem,simprocAttr]
  refine⟨_,_,_,?_,Wk.mk [] [] ?_ ?_ ?_,k+1,rfl,by omega,rfl,rfl⟩
  ·omega
  ·simp only[bg,bf,go_sem,simprocAttr]
   repeat' refine ab ?_ ?_
   all_goals first|exact bo|skip
  ·exact .nil
  ·simp
 ·repeat first|with_reducible refine au ?_|simp only[go_sem,simprocAttr]
  exact⟨[_],rfl,dR.v rfl rfl .nil⟩
def eb(k:Nat):In:=(0,(k:Int),-1,-1,((k+5:Nat):Int))
def fF(k:Nat):In:=(34,-1,(k:Int),-1,0)
theorem jl(k:Nat)(hk:k<=1000):bR Try.prog 34 [.n .i64 k] [.v (eu (eb k))]:=by
 have h1:IntKind.wrap .i64 ((k:Int)+5)=((k+5:Nat):Int):=by rw[aU (by omega)];omega
 have h2:IntKind.wrap .u32 (((k+5:Nat)):Int)=((k+5:Nat):Int):=tE (by omega)
 refine aO ba KW ⟨by simp,by decide⟩ ?_
 simp only[bM]
 repeat first|with_reducible refine au ?_|simp only[h1,h2,go_sem,simprocAttr]
 exact⟨[_],rfl,dR.v rfl rfl .nil⟩
theorem ru(k:Nat):bR Try.prog 35 [.n .i64 k] [.v (eu (fF k))]:=by
 refine aO ba KS ⟨by simp,by decide⟩ ?_
 simp only[bM]
 repeat first|with_reducible refine au ?_|simp only[go_sem,simprocAttr]
 exact⟨[_],rfl,dR.v rfl rfl .nil⟩
def pY:List In:=[eb 0,eb 1,(8,2,0,1,0),fF 2]
def px:List In:=[eb 0,eb 1,eb 2,eb 3,eb 4,fF 0,fF 1,fF 2,fF 3,fF 4]
def Sq(i:Nat):List Nat:=(List.range 3).filter λr:Nat=>wM (pY.drop i) (r:Int)
theorem mz:mw pY=true:=by rfl
theorem rl:mw px=true:=by rfl
theorem sX:(dw [] ((3:Nat):Int) 0 pY).2=0:=by rfl
theorem IA:(dw [] ((5:Nat):Int) 0 px).2=0:=by rfl
theorem pA:ef pY:=by
 intro x hx
 simp only[pY,eb,fF,List.mem_cons,List.not_mem_nil,or_false] at hx
 rcases hx with rfl|rfl|rfl|rfl<;>simp
theorem Cj:ef px:=by
 intro x hx
 simp only[px,eb,fF,List.mem_cons,List.not_mem_nil,or_false] at hx
 rcases hx with rfl|rfl|rfl|rfl|rfl|rfl|rfl|rfl|rfl|rfl<;>simp
theorem rm:cq pY (bG pY (cP pY)) 3=Sq:=by
 funext i
 exact BZ (λj hj=>um mz _ hj) 3 i
theorem Iz:bR Try.prog 11 [aL 0 (aC []) 3 0 pY] [.v (.fs 1 5 (gC Sq)),.v (.n .i64 0)]:=by
 have:=Dc (la:=[]) (R:=3) (par:=0) (cs:=pY) sX pA
 rw[rm] at this
 exact this
theorem sV:bR Try.prog 13 [aL 0 (aC []) 3 0 pY] [.v (.n .i64 2),.v (.n .i64 0)]:=by
 have:=oy (la:=[]) (R:=3) (par:=0) (cs:=pY) sX pA
 rw[rm] at this
 exact this
theorem pz:cG pY 3=2/\ib pY 3=[0,1,0]:=by
 rw[zx mz,C3 mz]
 exact⟨by rfl,by rfl⟩
theorem pw:cG px 5=5/\ib px 5=[0,1,2,3,4]:=by
 rw[zx rl,C3 rl]
 exact⟨by rfl,by rfl⟩
def IB:List In:=[eb 0,eb 1,(8,0,0,1,0),fF 0]
theorem zb:bR Try.prog 17 [aL 0 (aC []) 3 0 pY,.n .i64 4] [.v (aL 0 (aC []) 2 0 IB),.v (.n .i64 0)]:=by
 have:=oA (la:=[]) (R:=3) (par:=0) (cs:=pY) sX pA (r:=4) (by omega) (by rw[pz.1];omega)
 rw[pz.1,pz.2] at this
 exact this
def sW:List In:=gk [0,1,2,3,4] 1 0 px
theorem rk:bR Try.prog 17 [aL 0 (aC []) 5 0 px,.n .i64 4] [.v (aL 0 (aC []) 4 4 sW),.v (.n .i64 0)]:=by
 have:=oz (la:=[]) (R:=5) (par:=0) (cs:=px) IA Cj (r:=4) (by omega) (by rw[pw.1];omega)
 rw[pw.1,pw.2] at this
 exact this
def za(k:Nat):List In:=px.take k
theorem rj(k:Nat)(hk:k<10):za (k+1)=za k++[px.getD k (0,0,0,0,0)]:=by
 unfold za
 rw[List.take_add_one,List.getD_eq_getElem?_getD,List.getElem?_eq_getElem (show k<px.length from hk)]
 rfl
theorem pq(k:Nat)(hk:k<=10):(za k).length=k:=by
 unfold za
 rw[List.length_take]
 exact Nat.min_eq_left hk
theorem sZ{M:List Nat}{H:AH}{b:Nat}{x:AB}(hm:b ∈ M)(hx:H.at b=some x)(hs:x.size=20)(hg:∀i j,i<4->j<5->x.get (0+i*5+j)=cC pY i j):Cv M H (.agg [.sl0,.n .i64 3,.n .i64 0,.sl b 0 4 4]) (aL 0 (aC []) 3 0 pY):=by
 refine .agg rfl λi v v' h1 h2=>?_
 match i,h1,h2 with
 |0,h1,h2=>cases h1;cases h2;exact .sl0 _ _
 |1,h1,h2=>cases h1;cases h2;exact .rfl rfl
 |2,h1,h2=>cases h1;cases h2;exact .rfl rfl
 |3,h1,h2=>cases h1;cases h2;exact .sl (x:=x) hm hx (by rw[hs];decide) (by decide) (by rw[hs];decide) hg (λi j _ hj=>bQ i hj)
 |i+4,h1,h2=>cases h1
theorem IE{M:List Nat}{H:AH}:Cv M H (.agg [.sl0,.n .i64 5,.n .i64 0,.fs 5 10 (cC px)]) (.agg [.fs 2 0 (aC []),.n .i64 5,.n .i64 0,.fs 5 10 (cC px)]):=by
 refine .agg rfl λi v v' h1 h2=>?_
 match i,h1,h2 with
 |0,h1,h2=>cases h1;cases h2;exact .sl0 _ _
 |1,h1,h2=>cases h1;cases h2;exact .rfl rfl
 |2,h1,h2=>cases h1;cases h2;exact .rfl rfl
 |3,h1,h2=>cases h1;cases h2;exact .rfl rfl
 |i+4,h1,h2=>cases h1
theorem IJ:GA Try.prog 126 (aE Try.prog 10) (.seq (.reg CX) (.seq (.seq (.reg CW) (.block 0 wW)) (.seq (.seq (.reg wT) (.block 2 wV)) (.seq (.reg wS) (.seq (.mix wU) .ret))))) (aF []) (aX []) (gP [.mv (.t 0)] λv H=>∃l,v=bB l/\dR [.v (.b true)] l H):=by
 have h4:=rk
 have hadd:∀j:Nat,j<200000->IntKind.wrap .i64 ((j:Int)+1)=((j+1:Nat):Int):=λj hj=>by rw[aU (by omega)];omega
 have sl:∀k:Nat,k<10->(k+1)*5<1099511627776/\(k+1)*40<=140737488355328/\k<=9223372036854775806:=λk h=>by omega
 have cD:∀k i j,i<k->k<10->cC (za (k+1)) i j=cC (za k) i j:=λk i j hi hk=>by
  unfold cC
  rw[rj k hk,List.getD_eq_getElem?_getD,List.getD_eq_getElem?_getD,List.getElem?_append_left (by rw[pq k (by omega)];exact hi),<-List.getD_eq_getElem?_getD]
 have cE:∀k j,k<10->cC (za (k+1)) k j=cC px k j:=λk j hk=>by
  unfold cC
  rw[rj k hk,List.getD_eq_getElem?_getD,List.getElem?_append_right (by rw[pq k (by omega)];exact Nat.le_refl _),pq k (by omega),Nat.sub_self]
  rfl
 have dP:∀k,k<5->px.getD k (0,0,0,0,0)=eb k:=λk hk=>by
  rcases(by omega:k=0\/k=1\/k=2\/k=3\/k=4) with rfl|rfl|rfl|rfl|rfl<;>rfl
 have dE:∀k,k<5->px.getD (5+k) (0,0,0,0,0)=fF k:=λk hk=>by
  rcases(by omega:k=0\/k=1\/k=2\/k=3\/k=4) with rfl|rfl|rfl|rfl|rfl<;>rfl
 (try simp only[go_sem,simprocAttr])
 iterate 3 (with_reducible refine GA.go ba rfl ?_;try simp only[go_sem,simprocAttr])
 refine GA.wk (Wk.mk (L:=[(8,.p 0 0)]) (bl:=[bj 0 25 [.sl0,.n .i64 5,.n .i64 0,.sl0]]) [0] [] ?_ ?_ ?_) ?_
 ·simp only[bg,bf,go_sem,simprocAttr]
  repeat' refine ab ?_ ?_
  all_goals first|exact bo|skip
 ·exact .cons rfl (.lstw (x:=_) (by simp only[go_sem,simprocAttr]<;>rfl) (by rfl) (by rfl) (by rfl) (by rfl) (by rfl) (by rfl) (by simp) (λi hi=>(by rcases eJ hi with rfl|rfl|rfl|rfl<;>(simp only[go_sem,simprocAttr];first|exact Wv.same rfl|exact Wv.os rfl)))) .nil
 ·simp
 refine GA.wk (Wk.nilb 0 3 5 60 (x:=bj 0 25 [.sl0,.n .i64 5,.n .i64 0,.sl0]) (by simp only[go_sem,simprocAttr]) (by simp only[go_sem,simprocAttr]) (by decide) (by decide) (by simp only[go_sem,simprocAttr]) rfl (by simp only[go_sem,simprocAttr])) ?_
 repeat first|with_reducible refine au ?_|simp only[go_sem,simprocAttr]
 refine GA.loop (I:=λmm e H=>∃(k m:Nat),mm=5-k/\k<=5/\m=0+k/\e=aF [(8,.p 0 0),(73,.n .i64 k)]/\H=aX [aG 60 5 m 0 (cC (za m)),bj 0 25 [.sl0,.n .i64 5,.n .i64 0,.os 1 m]]) (Wk.mk [1,0] [] ?_ ?_ ?_) ⟨0,0,rfl,Nat.zero_le _,rfl,rfl,rfl⟩ ?_
 ·simp only[bg,bf,go_sem,simprocAttr]
  repeat' refine ab ?_ ?_
  all_goals first|exact bo|skip
 ·exact .cons rfl (.rows (x:=_) (by simp only[go_sem,simprocAttr];rfl) (by rfl) (by rfl) (by rfl) (by show 0*5<=0;decide) (by exact Nat.le_refl _) (by decide) (λi j hi=>absurd (show i<0 from hi) (Nat.not_lt_zero _)) (λi j hi=>absurd (show i<0 from hi) (Nat.not_lt_zero _))) (.cons rfl (.lstw (x:=_) (by simp only[go_sem,simprocAttr]<;>rfl) (by rfl) (by rfl) (by rfl) (by rfl) (by rfl) (by rfl) (by simp) (λi hi=>(by rcases eJ hi with rfl|rfl|rfl|rfl<;>(simp only[go_sem,simprocAttr];first|exact Wv.same rfl|exact Wv.os rfl)))) .nil)
 ·simp
 rintro mm e H ⟨k,m,rfl,hk,hm,rfl,rfl⟩
 repeat first|with_reducible refine au ?_|simp only[go_sem,simprocAttr]
 refine⟨λh=>?_,λh=>?_⟩
 ·have hkl:k<5:=by omega
  have ha:=hadd k (by omega)
  obtain⟨s1,s2,s3⟩:=sl m (by omega)
  repeat first|with_reducible refine au ?_|simp only[h,s1,s2,s3,decide_true,go_sem,simprocAttr]
  refine aq [] (.cons (.rfl (by rfl)) .nil) (jl k (by omega)) (by simp only[AH.mark_next,ag,aA,aB,ao,ai,aw,af,av,ah,List.length_cons,List.length_nil];decide) ?_
  simp only[eu,eb,go_sem,simprocAttr]
  repeat first|with_reducible refine au ?_|simp only[ha,s1,s2,s3,decide_true,go_sem,simprocAttr]
  refine⟨_,_,_,?_,Wk.mk [3,0] [] ?_ ?_ ?_,k+1,m+1,rfl,by omega,by omega,rfl,rfl⟩
  ·omega
  ·simp only[bg,bf,go_sem,simprocAttr]
   repeat' refine ab ?_ ?_
   all_goals first|exact bo|skip
  ·exact .cons rfl (.snoc (by simp only[go_sem,simprocAttr]<;>rfl) (by simp) (by rfl) rfl (by decide) (by omega) (λi j hi _=>cD m i j hi (by omega)) (λj hj=>by
    rw[cE m j (by omega)];unfold cC;rw[show m=k by omega,dP k (by omega)];rcases ij hj with rfl|rfl|rfl|rfl|rfl<;>rfl) (λi j _ hj=>by rcases ij hj with rfl|rfl|rfl|rfl|rfl<;>rfl)) (.cons rfl (.lstw (x:=_) (by simp only[go_sem,simprocAttr]<;>rfl) (by rfl) (by rfl) (by rfl) (by rfl) (by rfl) (by rfl) (by simp) (λi hi=>(by rcases eJ hi with rfl|rfl|rfl|rfl<;>(simp only[go_sem,simprocAttr];first|exact Wv.same rfl|exact Wv.os rfl)))) .nil)
  ·simp
 have hk5:m=5:=by omega
 subst hk5
 repeat first|with_reducible refine au ?_|simp only[go_sem,simprocAttr]
 refine GA.loop (I:=λmm e H=>∃(k m:Nat),mm=5-k/\k<=5/\m=5+k/\e=aF [(8,.p 0 0),(84,.n .i64 k)]/\H=aX [aG 60 5 m 0 (cC (za m)),bj 0 25 [.sl0,.n .i64 5,.n .i64 0,.os 1 m]]) (Wk.mk [1,0] [] ?_ ?_ ?_) ⟨0,5,rfl,Nat.zero_le _,rfl,rfl,rfl⟩ ?_
 ·simp only[bg,bf,go_sem,simprocAttr]
  repeat' refine ab ?_ ?_
  all_goals first|exact bo|skip
 ·exact .cons rfl .k5 (.cons rfl (.lstw (x:=_) (by simp only[go_sem,simprocAttr]<;>rfl) (by rfl) (by rfl) (by rfl) (by rfl) (by rfl) (by rfl) (by simp) (λi hi=>(by rcases eJ hi with rfl|rfl|rfl|rfl<;>(simp only[go_sem,simprocAttr];first|exact Wv.same rfl|exact Wv.os rfl)))) .nil)
 ·simp
 rintro mm e H ⟨k,m,rfl,hk,hm,rfl,rfl⟩
 repeat first|with_reducible refine au ?_|simp only[go_sem,simprocAttr]
 refine⟨λh=>?_,λh=>?_⟩
 ·have hkl:k<5:=by omega
  have ha:=hadd k (by omega)
  obtain⟨s1,s2,s3⟩:=sl m (by omega)
  repeat first|with_reducible refine au ?_|simp only[h,s1,s2,s3,decide_true,go_sem,simprocAttr]
  refine aq [] (.cons (.rfl (by rfl)) .nil) (ru k) (by simp only[AH.mark_next,ag,aA,aB,ao,ai,aw,af,av,ah,List.length_cons,List.length_nil];decide) ?_
  simp only[eu,fF,go_sem,simprocAttr]
  repeat first|with_reducible refine au ?_|simp only[ha,s1,s2,s3,decide_true,go_sem,simprocAttr]
  refine⟨_,_,_,?_,Wk.mk [3,0] [] ?_ ?_ ?_,k+1,m+1,rfl,by omega,by omega,rfl,rfl⟩
  ·omega
  ·simp only[bg,bf,go_sem,simprocAttr]
   repeat' refine ab ?_ ?_
   all_goals first|exact bo|skip
  ·exact .cons rfl (.snoc (by simp only[go_sem,simprocAttr]<;>rfl) (by simp) (by rfl) rfl (by decide) (by omega) (λi j hi _=>cD m i j hi (by omega)) (λj hj=>by
    rw[cE m j (by omega)];unfold cC;rw[show m=5+k by omega,dE k (by omega)];rcases ij hj with rfl|rfl|rfl|rfl|rfl<;>rfl) (λi j _ hj=>by rcases ij hj with rfl|rfl|rfl|rfl|rfl<;>rfl)) (.cons rfl (.lstw (x:=_) (by simp only[go_sem,simprocAttr]<;>rfl) (by rfl) (by rfl) (by rfl) (by rfl) (by rfl) (by rfl) (by simp) (λi hi=>(by rcases eJ hi with rfl|rfl|rfl|rfl<;>(simp only[go_sem,simprocAttr];first|exact Wv.same rfl|exact Wv.os rfl)))) .nil)
  ·simp
 have hk5:m=10:=by omega
 subst hk5
 refine GA.wk (Wk.mk (L:=[(8,.p 0 0)]) (bl:=[bj 0 25 [.sl0,.n .i64 5,.n .i64 0,.fs 5 10 (cC px)]]) [0] [1] ?_ ?_ ?_) ?_
 ·simp only[bg,bf,go_sem,simprocAttr]
  repeat' refine ab ?_ ?_
  all_goals first|exact bo|skip
 ·exact .cons rfl (.lstw (x:=_) (by simp only[go_sem,simprocAttr]<;>rfl) (by rfl) (by rfl) (by rfl) (by rfl) (by rfl) (by rfl) (by simp) (λi hi=>(by rcases eJ hi with rfl|rfl|rfl|rfl<;>(simp only[go_sem,simprocAttr];first|exact Wv.same rfl|exact Wv.cv (Cv.own (ty:=60) (z:=0) (row:=cC (za 10)) (by simp) (by simp only[go_sem,simprocAttr]) (λi j _ hj=>bQ i hj)))))) .nil
 ·simp
 have hl18:((sW.length:Nat):Int)=18:=rfl
 have hc0:cC sW 0 0= .n .i64 0:=rfl
 have hc1:cC sW 0 1= .n .i64 0:=rfl
 have hc2:cC sW 0 2= .n .i64 (-1):=rfl
 have hc3:cC sW 0 3= .n .i64 (-1):=rfl
 have hc4:cC sW 0 4= .n .u32 5:=rfl
 have hlt:(0:Int)<18:=by omega
 have h00:(0:Int)<=0:=by omega
 have d1:decide ((0:Int)=0)=true:=decide_eq_true rfl
 have d2:decide ((4:Int)=4)=true:=decide_eq_true rfl
 have d3:decide ((18:Int)=18)=true:=decide_eq_true rfl
 have d4:decide ((5:Int)=5)=true:=decide_eq_true rfl
 have d5:decide ((-1:Int)= -1)=true:=decide_eq_true rfl
 have hx10:px.length=10:=rfl
 simp only[aL,hx10] at h4
 repeat first|with_reducible refine au ?_|simp only[go_sem,simprocAttr]
 refine aq [] (.cons IE (.cons (.rfl (by rfl)) .nil)) h4 (by simp only[AH.mark_next,ag,aA,aB,ao,ai,aw,af,av,ah,List.length_cons,List.length_nil];decide) ?_
 repeat first|with_reducible refine au ?_|simp only[d1,d2,d3,hl18,hlt,h00,hc0,hc1,hc2,hc3,hc4,decide_true,go_sem,simprocAttr]
 refine aq [] (.cons (.rfl (by rfl)) .nil) (jl 0 (by omega)) (by simp only[AH.mark_next,ag,aA,aB,ao,ai,aw,af,av,ah,List.length_cons,List.length_nil];decide) ?_
 simp only[eu,eb,go_sem,simprocAttr]
 repeat first|with_reducible refine au ?_|simp only[AL,wj,qB,IQ,SH.row,d1,d2,d3,d4,d5,hl18,hlt,h00,hc0,hc1,hc2,hc3,hc4,decide_true,go_sem,simprocAttr]
 exact⟨[_],rfl,dR.v rfl rfl .nil⟩
theorem ot:bR Try.prog 10 [] [.v (.b true)]:=by
 have h1:=Iz
 have h2:=sV
 have h3:=zb
 have h4:=rk
 have w0:IntKind.wrap .i64 0=0:=rfl
 have w1:IntKind.wrap .i64 (0+0)=0:=rfl
 have hne0:decide ((0:Int)=0)=true:=decide_eq_true rfl
 refine aO ba KP ⟨by simp,by decide⟩ ?_
 simp only[bM]
 repeat first|with_reducible refine au ?_|simp only[go_sem,simprocAttr]
 refine aq [] (.cons (.rfl (by rfl)) .nil) (jl 0 (by omega)) (by simp only[AH.mark_next,ag,aA,aB,ao,ai,aw,af,av,ah,List.length_cons,List.length_nil];decide) ?_
 simp only[eu,eb]
 repeat first|with_reducible refine au ?_|simp only[go_sem,simprocAttr]
 refine aq [] (.cons (.rfl (by rfl)) .nil) (jl 1 (by omega)) (by simp only[AH.mark_next,ag,aA,aB,ao,ai,aw,af,av,ah,List.length_cons,List.length_nil];decide) ?_
 simp only[eu,eb]
 repeat first|with_reducible refine au ?_|simp only[go_sem,simprocAttr]
 refine aq [] (.cons (.rfl (by rfl)) .nil) (ru 2) (by simp only[AH.mark_next,ag,aA,aB,ao,ai,aw,af,av,ah,List.length_cons,List.length_nil];decide) ?_
 simp only[eu,fF]
 repeat first|with_reducible refine au ?_|simp only[go_sem,simprocAttr]
 refine aq [0] (.cons (sZ (by simp) (by simp only[go_sem,simprocAttr]<;>rfl) rfl (λi j hi hj=>?_)) .nil) h1 (by simp only[AH.mark_next,ag,aA,aB,ao,ai,aw,af,av,ah,List.length_cons,List.length_nil];decide) ?_
 ·skip
  rcases(by omega:i=0\/i=1\/i=2\/i=3) with rfl|rfl|rfl|rfl<;>rcases(by omega:j=0\/j=1\/j=2\/j=3\/j=4) with rfl|rfl|rfl|rfl|rfl<;>rfl
 repeat first|with_reducible refine au ?_|simp only[go_sem,simprocAttr]
 refine aq [0] (.cons (sZ (by simp) (by simp only[go_sem,simprocAttr]<;>rfl) rfl (λi j hi hj=>?_)) .nil) h2 (by simp only[AH.mark_next,ag,aA,aB,ao,ai,aw,af,av,ah,List.length_cons,List.length_nil];decide) ?_
 ·skip
  rcases(by omega:i=0\/i=1\/i=2\/i=3) with rfl|rfl|rfl|rfl<;>rcases(by omega:j=0\/j=1\/j=2\/j=3\/j=4) with rfl|rfl|rfl|rfl|rfl<;>rfl
 repeat first|with_reducible refine au ?_|simp only[go_sem,simprocAttr]
 refine aq [0] (.cons (sZ (by simp) (by simp only[go_sem,simprocAttr]<;>rfl) rfl (λi j hi hj=>?_)) (.cons (.rfl (by rfl)) .nil)) h3 (by simp only[AH.mark_next,ag,aA,aB,ao,ai,aw,af,av,ah,List.length_cons,List.length_nil];decide) ?_
 ·skip
  rcases(by omega:i=0\/i=1\/i=2\/i=3) with rfl|rfl|rfl|rfl<;>rcases(by omega:j=0\/j=1\/j=2\/j=3\/j=4) with rfl|rfl|rfl|rfl|rfl<;>rfl
 simp only[aL]
 repeat first|with_reducible refine au ?_|simp only[w0,w1,hne0,decide_true,go_sem,simprocAttr]
 refine aq [3,4,5,6] (.cons (.rfl (by rfl)) (.cons (?_) (.cons (.rfl (by rfl)) .nil))) (nu 5 (by omega) Sq (λi=>?_)) (by simp only[AH.mark_next,ag,aA,aB,ao,ai,aw,af,av,ah,List.length_cons,List.length_nil];decide) ?_
 ·refine .slw (x:=_) (by simp) (by simp only[go_sem,simprocAttr]<;>rfl) (by decide) (by decide) (λi j hi hj=>?_) (λi j _ _=>rfl)
  have hj0:j=0:=by omega
  subst hj0
  rcases(by omega:i=0\/i=1\/i=2\/i=3\/i=4) with rfl|rfl|rfl|rfl|rfl
  ·exact .sl0 _ _
  ·refine .sl (x:=_) (by simp) (by simp only[go_sem,simprocAttr]<;>rfl) (by decide) (by decide) (by decide) (λi j hi hj=>?_) (λi j _ _=>rfl)
   rw[show i=0 by have:i<1:=hi;omega,show j=0 by omega];rfl
  ·refine .sl (x:=_) (by simp) (by simp only[go_sem,simprocAttr]<;>rfl) (by decide) (by decide) (by decide) (λi j hi hj=>?_) (λi j _ _=>rfl)
   have hi2:i<2:=hi
   rcases(by omega:i=0\/i=1) with rfl|rfl<;>rw[show j=0 by omega]<;>rfl
  ·refine .sl (x:=_) (by simp) (by simp only[go_sem,simprocAttr]<;>rfl) (by decide) (by decide) (by decide) (λi j hi hj=>?_) (λi j _ _=>rfl)
   rw[show i=0 by have:i<1:=hi;omega,show j=0 by omega];rfl
  ·exact .sl0 _ _
 ·exact Nat.le_trans (List.length_filter_le _ _) (by simp)
 have hl4:((IB.length:Nat):Int)=4:=rfl
 have hcz:cC IB 2 1= .n .i64 0:=rfl
 have hlt:(2:Int)<4:=by omega
 have h00:(0:Int)<=2:=by omega
 (try simp only[w0,w1,hne0,hl4,hcz,hlt,h00,decide_true,go_sem,simprocAttr])
 iterate 2 (with_reducible refine GA.go ba rfl ?_;try simp only[w0,w1,hne0,hl4,hcz,hlt,h00,decide_true,go_sem,simprocAttr])
 refine GA.wk (Wk.mk (L:=[]) (bl:=[]) [] [] ?_ ?_ ?_) IJ
 ·simp only[bg,bf,go_sem,simprocAttr]
  repeat' refine ab ?_ ?_
  all_goals first|exact bo|skip
 ·exact .nil
 ·simp
theorem wa(na:Nat)(ra:Nat->Nat->AV)(regs par:Int)(cs:List In):bR Try.prog 9 [aL na ra regs par cs] [.v (.b (jJ na regs cs))]:=by
 have hw:=wc na ra regs par cs
 refine aO ba LZ ⟨by simp,by decide⟩ ?_
 simp only[bM,aL] at hw ⊢
 repeat first|with_reducible refine au ?_|simp only[go_sem,simprocAttr]
 refine aq [] (.cons (.rfl (by rfl)) .nil) hw (by simp only[AH.mark_next,ag,aA,aB,ao,ai,aw,af,av,ah,List.length_cons,List.length_nil];decide) ?_
 unfold jJ
 cases rh na cs
 ·repeat first|with_reducible refine au ?_|simp only[go_sem,simprocAttr]
  exact bL rfl rfl
 ·by_cases h1:regs<=60
  ·repeat first|with_reducible refine au ?_|simp only[h1,decide_true,go_sem,simprocAttr]
   exact bL rfl rfl
  ·by_cases h2:1024<regs
   ·repeat first|with_reducible refine au ?_|simp only[h1,h2,decide_true,decide_false,go_sem,simprocAttr]
    exact bL rfl rfl
   ·repeat first|with_reducible refine au ?_|simp only[h1,h2,decide_true,decide_false,go_sem,simprocAttr]
    exact bL rfl rfl
theorem Ch{la:List (Bool×Int)}{regs:Int}{cs:List In}(hf:jJ la.length regs cs=true):la.length<=20/\cs.length<=300:=by
 unfold jJ rh at hf
 by_cases h1:(la.length:Int)<=20
 ·by_cases h2:(cs.length:Int)<=300
  ·exact⟨by omega,by omega⟩
  ·simp[h1,h2] at hf
 ·simp[h1] at hf
section
variable (la:List (Bool×Int)) (regs par:Int) (cs:List In) (ha:ef cs)
include ha
end
end Go.Proofs.Yteopfmnnhlhbmaa
namespace Go.Proofs.Yteopfmnnhlhbmaa
open Go.RowKit
def uj(la:List (Bool×Int))(regs par:Int)(cs:List In):Bool:=if jJ la.length regs cs then(if decide (par<=900) then decide ((dw la regs par cs).2=0) else false) else false
theorem yK(la:List (Bool×Int))(regs par:Int)(cs:List In)(ha:ef cs)(hl1:la.length<=9223372036854775807)(hl2:cs.length<=9223372036854775807):bR Try.prog 22 [aL la.length (aC la) regs par cs] [.v (.b (uj la regs par cs))]:=by
 have hw:=wa la.length (aC la) regs par cs
 have hck:=lP la regs par cs hl1 hl2 ha
 refine aO ba KG ⟨by simp,by decide⟩ ?_
 simp only[bM,aL] at hw hck ⊢
 repeat first|with_reducible refine au ?_|simp only[go_sem,simprocAttr]
 refine aq [] (.cons (.rfl (by rfl)) .nil) hck (by simp only[AH.mark_next,ag,aA,aB,ao,ai,aw,af,av,ah,List.length_cons,List.length_nil];decide) ?_
 repeat first|with_reducible refine au ?_|simp only[go_sem,simprocAttr]
 refine aq [] (.cons (.rfl (by rfl)) .nil) hw (by simp only[AH.mark_next,ag,aA,aB,ao,ai,aw,af,av,ah,List.length_cons,List.length_nil];decide) ?_
 unfold uj
 cases jJ la.length regs cs
 ·repeat first|with_reducible refine au ?_|simp only[go_sem,simprocAttr]
  exact bL rfl rfl
 ·by_cases h1:par<=900
  ·repeat first|with_reducible refine au ?_|simp only[h1,decide_true,go_sem,simprocAttr]
   exact bL rfl rfl
  ·repeat first|with_reducible refine au ?_|simp only[h1,decide_false,go_sem,simprocAttr]
   exact bL rfl rfl
theorem y9{la:List (Bool×Int)}{R:Nat}{par:Int}{cs:List In}(hf:jJ la.length R cs=true)(hz:(dw la R par cs).2=0):R<=60:=by
 have hR:=IW hz
 unfold jJ at hf
 by_cases h1:(R:Int)<=60
 ·omega
 ·rw[decide_eq_false h1,decide_eq_false (show ¬1024<(R:Int) by omega)] at hf
  simp at hf
theorem wC{la:List (Bool×Int)}{R:Nat}{par:Int}{cs:List In}(hz:(dw la R par cs).2=0)(ha:ef cs){n:Nat}(hn:4<=n/\n<=1024)(hroom:par+cG cs R<=1024)(hlen:cs.length<=300):
  ∃(R1:Nat) (p1:Int) (c1:List In),bR Try.prog 17 [aL la.length (aC la) R par cs,.n .i64 n] [.v (aL la.length (aC la) R1 p1 c1),.v (.n .i64 0)]/\(dw la R1 p1 c1).2=0/\ef c1/\R1<=n/\
   ((cG cs R<=n/\R1=cG cs R/\p1=par/\c1=cs.map (dM (ib cs R)))\/(n<cG cs R/\R1=n/\p1=par+(cG cs R:Int)-((n:Int)-3)/\c1=gk (ib cs R) ((n:Int)-3) par cs)):=by
 by_cases hc:cG cs R<=n
 ·exact⟨_,_,_,oA hz ha hn hc,Cw hz,rI ha,hc,.inl ⟨hc,rfl,rfl,rfl⟩⟩
 ·have h:=oz hz ha hn (by omega)
  have hl:=qr (ib cs R) ((n:Int)-3) par cs
  rw[if_neg (by omega)] at h
  exact⟨_,_,_,h,Ct hz ha hn (by omega) (by omega) (by omega),Ad hz ha hn (by omega) (by omega),Nat.le_refl _,.inr ⟨by omega,rfl,rfl,rfl⟩⟩
def dj(par:Int)(x:In):Bool:=(decide (x.1=37)||decide (x.1=38))&&decide (par<=x.2.2.2.2)
theorem n4(par:Int)(x:In)(row:Nat->AV)(h2:row 2= .n .i64 par)(ha:0<=x.2.2.2.2/\x.2.2.2.2<4294967296):bR Try.prog 30 [eu x,.fp 4 row 0] [.v (.b (dj par x))]:=by
 obtain⟨op,to,a,b,arg⟩:=x
 have hw:IntKind.wrap .i64 arg=arg:=aU (by simp only at ha;omega)
 refine aO ba KC ⟨by simp,by decide⟩ ?_
 simp only[bM,eu]
 unfold dj
 by_cases h37:op=37
 ·subst h37
  repeat first|with_reducible refine au ?_|simp only[h2,hw,decide_true,go_sem,simprocAttr]
  exact bL (by simp) rfl
 ·by_cases h38:op=38
  ·subst h38
   have hn:¬(38:Int)=37:=by decide
   repeat first|with_reducible refine au ?_|simp only[h2,hw,hn,decide_true,decide_false,go_sem,simprocAttr]
   exact bL (by simp) rfl
  ·repeat first|with_reducible refine au ?_|simp only[h37,h38,decide_false,go_sem,simprocAttr]
   exact bL (by simp[h37,h38]) rfl
def qo(x y:In):Bool:=decide (x.1=y.1)&&decide (x.2.2.2.2=y.2.2.2.2)
theorem v8(x y:In):bR Try.prog 31 [eu x,eu y] [.v (.b (qo x y))]:=by
 obtain⟨op,to,a,b,arg⟩:=x
 obtain⟨op2,to2,a2,b2,arg2⟩:=y
 refine aO ba Kz ⟨by simp,by decide⟩ ?_
 simp only[bM,eu]
 unfold qo
 by_cases h:op=op2
 ·subst h
  have hd:decide (op=op)=true:=decide_eq_true rfl
  repeat first|with_reducible refine au ?_|simp only[hd,decide_true,go_sem,simprocAttr]
  exact bL (by simp) rfl
 ·repeat first|with_reducible refine au ?_|simp only[h,decide_false,go_sem,simprocAttr]
  exact bL (by simp[h]) rfl
theorem mB(l l2:List In)(hl:l2.length=l.length)(hlen:l.length<=100000)(hs:∀i,i<l.length->qo (l.getD i (0,0,0,0,0)) (l2.getD i (0,0,0,0,0))=true):
  bR Try.prog 32 [.fs 5 l.length (cC l),.fs 5 l2.length (cC l2),.f 31 [] []] [.v (.b true)]:=by
 have hadd:∀j:Nat,j<200000->IntKind.wrap .i64 ((j:Int)+1)=((j+1:Nat):Int):=λj hj=>by rw[aU (by omega)];omega
 have hll:decide ((l.length:Int)=(l.length:Int))=true:=decide_eq_true rfl
 rw[hl]
 refine aO ba J7 ⟨by simp,by decide⟩ ?_
 simp only[bM]
 repeat first|with_reducible refine au ?_|simp only[hll,decide_true,go_sem,simprocAttr]
 refine GA.loop (I:=λmm e H=>∃(k:Nat),mm=l.length-k/\k<=l.length/\e=aF [(1,.fs 5 l.length (cC l2)),(2,.f 31 [] []),(15,.fs 5 l.length (cC l)),(16,.n .i64 l.length),(17,.n .i64 k)]/\H=aX []) (Wk.mk [] [] ?_ ?_ ?_) ⟨0,rfl,Nat.zero_le _,rfl,rfl⟩ ?_
 ·simp only[bg,bf,go_sem,simprocAttr]
  repeat' refine ab ?_ ?_
  all_goals first|exact bo|skip
 ·exact .nil
 ·simp
 rintro mm e H ⟨k,rfl,hk,rfl,rfl⟩
 repeat first|with_reducible refine au ?_|simp only[go_sem,simprocAttr]
 refine⟨λh=>?_,λh=>?_⟩
 ·have hkl:k<l.length:=by omega
  have hk0:(0:Int)<=(k:Int):=by omega
  have ha:=hadd k (by omega)
  have hf:=v8 (l.getD k (0,0,0,0,0)) (l2.getD k (0,0,0,0,0))
  rw[hs k hkl] at hf
  have a0:=tg l k
  have a1:=zR l k
  have a2:=zQ l k
  have a3:=zP l k
  have a4:=zO l k
  have b0:=tg l2 k
  have b1:=zR l2 k
  have b2:=zQ l2 k
  have b3:=zP l2 k
  have b4:=zO l2 k
  simp only[eu] at hf
  repeat first|with_reducible refine au ?_|simp only[hk0,h,a0,a1,a2,a3,a4,b0,b1,b2,b3,b4,decide_true,go_sem,simprocAttr]
  refine I0 hf ?_
  repeat first|with_reducible refine au ?_|simp only[ha,go_sem,simprocAttr]
  refine⟨_,_,_,?_,Wk.mk [] [] ?_ ?_ ?_,k+1,rfl,by omega,rfl,rfl⟩
  ·omega
  ·simp only[bg,bf,go_sem,simprocAttr]
   repeat' refine ab ?_ ?_
   all_goals first|exact bo|skip
  ·exact .nil
  ·simp
 ·repeat first|with_reducible refine au ?_|simp only[go_sem,simprocAttr]
  exact⟨[_],rfl,dR.v rfl rfl .nil⟩
/-! ### DeleteFunc-/
theorem r7{H:AH}{b o:Nat}{x:AB}{l:List AV}(hb:b<1000000)(hx:H.at b=some x)(h0:0<l.length)(h1:o+l.length<=x.size)(h2:x.fzn<=o):H.storeN b o l=some (H.upd b (x.putN o l)):=by
 match l,h0 with
 |v::l,_=>
  rw[iQ hb,hx]
  simp only
  rw[if_pos ⟨by simpa using h1,h2⟩]
theorem db.row5{r:Nat->Option Nat}{H:AH}{b ty:Nat}{l l2:List In}{i:Nat}{x:In}(hx:H.at b=some ((aG ty 5 l.length 0 (cC l)).putN (i*5) [.n .i64 x.1,.n .i64 x.2.1,.n .i64 x.2.2.1,.n .i64 x.2.2.2.1,.n .u32 x.2.2.2.2]))(hi:i<l.length)(hl:l.length<=100000)(h2:l2=l.set i x):
  db r [] H b (aG ty 5 l2.length 0 (cC l2)):=by
 subst h2
 rw[List.length_set]
 refine .rows hx rfl rfl rfl (Nat.le_refl _) (Nat.le_refl _) (by decide) (λq j hq hj=>?_) (λq j _ hj=>by rcases ij hj with rfl|rfl|rfl|rfl|rfl<;>rfl)
 rw[eH (by simp only[List.length_cons,List.length_nil];omega)]
 simp only[List.length_cons,List.length_nil]
 by_cases e:q=i
 ·subst e
  rw[if_pos ⟨by omega,by omega⟩,show q*5+j-q*5=j by omega]
  unfold cC
  rw[List.getD_eq_getElem?_getD,List.getElem?_set_self hi,Option.getD_some]
  rcases ij hj with rfl|rfl|rfl|rfl|rfl<;>rfl
 ·rw[if_neg (by omega),aI q j hj]
  unfold cC
  rw[List.getD_eq_getElem?_getD,List.getD_eq_getElem?_getD,List.getElem?_set_ne (Ne.symm e)]
theorem nU{α:Type}(p:α->Bool)(d:α):∀(l:List α) (i:Nat),(B7 p l i= -1/\∀x ∈ l,p x=false)\/∃k,k<l.length/\B7 p l i=((i+k:Nat):Int)/\p (l.getD k d)=true/\∀x ∈ l.take k,p x=false
 |[],i=> .inl ⟨rfl,λx hx=>by cases hx⟩
 |y::l,i=>by
  unfold B7
  by_cases h:p y=true
  ·rw[if_pos h]
   exact .inr ⟨0,by simp,rfl,h,λx hx=>by simp at hx⟩
  ·rw[if_neg h]
   have hf:p y=false:=by simpa using h
   rcases nU p d l (i+1) with⟨e,ha⟩|⟨k,hk,e,ht,ha⟩
   ·exact .inl ⟨e,λx hx=>by
     rcases List.mem_cons.1 hx with rfl|hx
     ·exact hf
     ·exact ha x hx⟩
   ·refine .inr ⟨k+1,by simp only[List.length_cons];omega,by rw[e];congr 1;omega,by rw[List.getD_cons_succ];exact ht,λx hx=>?_⟩
    rw[List.take_succ_cons] at hx
    rcases List.mem_cons.1 hx with rfl|hx
    ·exact hf
    ·exact ha x hx
def kept(p:In->Bool)(cs:List In)(j:Nat):List In:=(cs.take j).filter λx=> !p x
theorem fD{p:In->Bool}{cs:List In}{j:Nat}(h:j<cs.length):kept p cs (j+1)=kept p cs j++(if p (cs.getD j (0,0,0,0,0))=true then[] else[cs.getD j (0,0,0,0,0)]):=by
 unfold kept
 rw[List.take_add_one,List.filter_append,List.getD_eq_getElem?_getD,List.getElem?_eq_getElem h]
 cases hp:p cs[j]<;>simp[hp]
structure Kp(p:In->Bool)(cs:List In)(j:Nat)(dk:List In):Prop where
 len:dk.length=cs.length
 lo:dk.take (kept p cs j).length=kept p cs j
 hi:dk.drop j=cs.drop j
 lt:(kept p cs j).length<j
 le:j<=cs.length
theorem Kp.start{p:In->Bool}{cs:List In}{k:Nat}(hk:k<cs.length)(h1:p (cs.getD k (0,0,0,0,0))=true)(h2:∀x ∈ cs.take k,p x=false):Kp p cs (k+1) cs:=by
 have e1:kept p cs k=cs.take k:=List.filter_eq_self.2 (λx hx=>by rw[h2 x hx];rfl)
 have e:kept p cs (k+1)=cs.take k:=by rw[fD hk,if_pos h1,List.append_nil,e1]
 have hl:(cs.take k).length=k:=by rw[List.length_take];omega
 exact⟨rfl,by rw[e,hl],rfl,by rw[e,hl];omega,hk⟩
theorem Kp.at_{p:In->Bool}{cs dk:List In}{j:Nat}(h:Kp p cs j dk)(hj:j<cs.length):dk.getD j (0,0,0,0,0)=cs.getD j (0,0,0,0,0):=by
 have:=congrArg (λl=>l.getD 0 (0,0,0,0,0)) h.hi
 simpa [List.getD_eq_getElem?_getD,List.getElem?_drop] using this
theorem Kp.skip{p:In->Bool}{cs dk:List In}{j:Nat}(h:Kp p cs j dk)(hj:j<cs.length)(hp:p (cs.getD j (0,0,0,0,0))=true):Kp p cs (j+1) dk:=by
 have e:kept p cs (j+1)=kept p cs j:=by rw[fD hj,if_pos hp,List.append_nil]
 refine⟨h.len,by rw[e];exact h.lo,?_,by rw[e];have:=h.lt;omega,hj⟩
 rw[<-List.drop_drop,<-List.drop_drop,h.hi]
theorem Kp.keep{p:In->Bool}{cs dk:List In}{j:Nat}(h:Kp p cs j dk)(hj:j<cs.length)(hp:¬p (cs.getD j (0,0,0,0,0))=true):Kp p cs (j+1) (dk.set (kept p cs j).length (cs.getD j (0,0,0,0,0)))/\(kept p cs (j+1)).length=(kept p cs j).length+1:=by
 have e:kept p cs (j+1)=kept p cs j++[cs.getD j (0,0,0,0,0)]:=by rw[fD hj,if_neg hp]
 have hl:(kept p cs (j+1)).length=(kept p cs j).length+1:=by rw[e,List.length_append,List.length_singleton]
 have hlt:=h.lt
 have hdl:=h.len
 refine⟨⟨by rw[List.length_set];exact hdl,?_,?_,by omega,hj⟩,hl⟩
 ·rw[hl,List.take_add_one,List.take_set_of_le (Nat.le_refl _),h.lo,List.getElem?_set_self (by omega),e]
  rfl
 ·rw[List.drop_set_of_lt (by omega),<-List.drop_drop,<-List.drop_drop,h.hi]
theorem yy{p:In->Bool}{cs:List In}:kept p cs cs.length=cs.filter λx=> !p x:=by
 unfold kept
 rw[List.take_length]
theorem iJ(par:Int)(cs:List In)(hl:cs.length<=100000)(ha:ef cs)(row:Nat->AV)(hr:row 2= .n .i64 par)(hrp:∀j,j<4->(row j).pu 2=true)(h0:cs≠[]->(cs.filter λx=> !dj par x)≠[]):
  jU Try.prog 28 [.os 0 cs.length,.f 30 [] [.fp 4 row 0]] (aX [aG 60 5 cs.length 0 (cC cs)])
   (λv H'=>v= .os 0 (cs.filter λx=> !dj par x).length/\H'=aX [aG 60 5 (cs.filter λx=> !dj par x).length 0 (cC (cs.filter λx=> !dj par x))]):=by
 have hadd:∀j:Nat,j<200000->IntKind.wrap .i64 ((j:Int)+1)=((j+1:Nat):Int):=λj hj=>by rw[aU (by omega)];omega
 have hif:=mg cs 30 [] [.fp 4 row 0] (dj par) (λf hf=>n4 par f row hr (ha f hf)) (by omega) rfl
 refine qz ba MQ (by simp) ?_
 refine GA.wk (Wk.arg _ _ _ (by simp)) ?_
 simp only[bM]
 refine GA.wk (Wk.mk (L:=[(0,.os 0 cs.length),(1,.f 30 [] [.fp 4 row 0])]) (bl:=[aG 60 5 cs.length 0 (cC cs)]) [0] [] ?_ ?_ ?_) ?_
 ·simp only[bg,bf,go_sem,simprocAttr]
  repeat' refine ab ?_ ?_
  all_goals first|exact bo|skip
 ·exact .cons rfl .k5 .nil
 ·simp
 repeat first|with_reducible refine au ?_|simp only[go_sem,simprocAttr]
 refine vX [0] (fargs:=[.fs 5 cs.length (cC cs),.f 30 [] [.fp 4 row 0]]) (.cons (Cv.own (ty:=60) (z:=0) (by simp) (by simp only[go_sem,simprocAttr]) (λi j _ hj=>bQ i hj)) (.cons (.rfl (by rfl)) .nil)) hif (by simp only[AH.mark_next,ag,aA,aB,ao,ai,aw,af,av,ah,List.length_cons,List.length_nil];decide) (λr hr=>by rw[List.mem_singleton.1 hr];rfl) ?_
 rcases nU (dj par) (0,0,0,0,0) cs 0 with⟨e1,hall⟩|⟨k0,hk0,e1,ht,hall⟩
 ·rw[e1]
  have hself:(cs.filter λx=> !dj par x)=cs:=List.filter_eq_self.2 (λx hx=>by rw[hall x hx];rfl)
  have hd:decide ((-1:Int)= -1)=true:=decide_eq_true rfl
  rw[hself]
  repeat first|with_reducible refine au ?_|simp only[hd,decide_true,go_sem,simprocAttr]
 rw[e1,Nat.zero_add]
 have hne:¬((k0:Int)= -1):=by omega
 have hck:=hadd k0 (by omega)
 have hcs:cs≠[]:=λh=>by rw[h] at hk0;simp at hk0
 have hm0:=List.length_pos_iff.2 (h0 hcs)
 clear hif h0
 repeat first|with_reducible refine au ?_|simp only[hne,hck,decide_false,go_sem,simprocAttr]
 refine GA.loop (I:=λmm e H=>∃(j m:Nat) (dk:List In),mm=cs.length-j/\m=(kept (dj par) cs j).length/\Kp (dj par) cs j dk/\e=aF [(0,.os 0 cs.length),(1,.f 30 [] [.fp 4 row 0]),(5,.n .i64 m),(6,.n .i64 j)]/\H=aX [aG 60 5 dk.length 0 (cC dk)]) (Wk.mk [0] [] ?_ ?_ ?_) ⟨k0+1,k0,cs,rfl,?_,.start hk0 ht hall,rfl,rfl⟩ ?_
 ·simp only[bg,bf,go_sem,simprocAttr]
  repeat' refine ab ?_ ?_
  all_goals first|exact bo|skip
 ·exact .cons rfl .k5 .nil
 ·simp
 ·rw[fD hk0,if_pos ht,List.append_nil]
  have e:kept (dj par) cs k0=cs.take k0:=List.filter_eq_self.2 (λx hx=>by rw[hall x hx];rfl)
  rw[e,List.length_take];omega
 clear hk0 ht hall e1 hne hck
 rintro mm e H ⟨j,m,dk,rfl,hm,hK,rfl,rfl⟩
 have hdl:=hK.len
 have hml:=hK.lt
 rw[<-hm] at hml
 repeat first|with_reducible refine au ?_|simp only[go_sem,simprocAttr]
 refine⟨λh=>?_,λh=>?_⟩
 ·have hjl:j<cs.length:=by omega
  have hj0:(0:Int)<=(j:Int):=by omega
  have hat:=hK.at_ hjl
  have hxm:cs.getD j (0,0,0,0,0) ∈ cs:=by rw[List.getD_eq_getElem?_getD,List.getElem?_eq_getElem hjl];exact List.getElem_mem _
  have hf:=n4 par (cs.getD j (0,0,0,0,0)) row hr (ha _ hxm)
  have a0:=tg dk j
  have a1:=zR dk j
  have a2:=zQ dk j
  have a3:=zP dk j
  have a4:=zO dk j
  rw[hat] at a0 a1 a2 a3 a4
  have hkeep:=hK.keep hjl
  have hskip:=hK.skip hjl
  have hsu:=fD (p:=dj par) hjl
  have haj:=hadd j (by omega)
  have ham:=hadd m (by omega)
  have hz0:j*5<dk.length*5:=by omega
  have hz1:j*5+1<dk.length*5:=by omega
  have hz2:j*5+1+1<dk.length*5:=by omega
  have hz3:j*5+1+1+1<dk.length*5:=by omega
  have hz4:j*5+1+1+1+1<dk.length*5:=by omega
  have g0:=aI (ty:=60) (n:=dk.length) (z:=0) (row:=cC dk) j 0 (by decide:0<5)
  have g1:=aI (ty:=60) (n:=dk.length) (z:=0) (row:=cC dk) j 1 (by decide:1<5)
  have g2:=aI (ty:=60) (n:=dk.length) (z:=0) (row:=cC dk) j 2 (by decide:2<5)
  have g3:=aI (ty:=60) (n:=dk.length) (z:=0) (row:=cC dk) j 3 (by decide:3<5)
  have g4:=aI (ty:=60) (n:=dk.length) (z:=0) (row:=cC dk) j 4 (by decide:4<5)
  rw[Nat.add_zero] at g0
  rw[show j*5+2=j*5+1+1 from rfl] at g2
  rw[show j*5+3=j*5+1+1+1 from rfl] at g3
  rw[show j*5+4=j*5+1+1+1+1 from rfl] at g4
  generalize hx:cs.getD j (0,0,0,0,0)=x at hat hf a0 a1 a2 a3 a4 hkeep hskip hsu
  rw[a0] at g0
  rw[a1] at g1
  rw[a2] at g2
  rw[a3] at g3
  rw[a4] at g4
  simp only[eu] at hf
  repeat first|with_reducible refine au ?_|simp only[hj0,h,hz0,hz1,hz2,hz3,hz4,g0,g1,g2,g3,g4,decide_true,go_sem,simprocAttr]
  refine aq [] (.cons (.rfl (by rfl)) (.cons (.rfl (by rfl)) .nil)) hf (by simp only[AH.mark_next,ag,aA,aB,ao,ai,aw,af,av,ah,List.length_cons,List.length_nil];decide) ?_
  by_cases hp:dj par x=true
  ·have hk2:=hskip hp
   have hsu2:(kept (dj par) cs (j+1)).length=(kept (dj par) cs j).length:=by rw[hsu,if_pos hp,List.append_nil]
   rw[hp]
   repeat first|with_reducible refine au ?_|simp only[haj,go_sem,simprocAttr]
   refine⟨_,_,_,?_,Wk.mk [0] [] ?_ ?_ ?_,j+1,m,dk,rfl,by rw[hsu2];exact hm,hk2,rfl,rfl⟩
   ·omega
   ·simp only[bg,bf,go_sem,simprocAttr]
    repeat' refine ab ?_ ?_
    all_goals first|exact bo|skip
   ·exact .cons rfl .k5 .nil
   ·simp
  ·obtain⟨hk2,hsu2⟩:=hkeep hp
   have hpf:dj par x=false:=by simpa using hp
   rw[hpf]
   have hm0':(0:Int)<=(m:Int):=by omega
   have hmn:(m:Int)<(cs.length:Int):=by omega
   have hmz:m*5+5<=dk.length*5:=by omega
   repeat first|with_reducible refine au ?_|simp only[haj,ham,hm0',hmn,hmz,decide_true,go_sem,simprocAttr]
   refine⟨_,_,_,?_,Wk.mk [0] [] ?_ ?_ ?_,j+1,m+1,dk.set m x,rfl,by rw[hsu2,hm],by rw[hm];exact hk2,rfl,rfl⟩
   ·omega
   ·simp only[bg,bf,go_sem,simprocAttr]
    repeat' refine ab ?_ ?_
    all_goals first|exact bo|skip
   ·exact .cons rfl (.row5 (x:=x) (by simp only[go_sem,simprocAttr]<;>rfl) (by omega) (by omega) rfl) .nil
   ·simp
 ·have hjn:j=cs.length:=by have:=hK.le;omega
  subst hjn
  have hke:=yy (p:=dj par) (cs:=cs)
  rw[hke] at hm
  rw[<-hm] at hm0
  have hm1:¬((m:Int)=0):=by omega
  have hm2:(0:Int)<(m:Int):=by omega
  have hm3:(m:Int)<=(cs.length:Int):=by omega
  have hm4:(m:Int)<(cs.length:Int):=by omega
  have hm5:(0:Int)<=(m:Int):=by omega
  have hm6:0<cs.length-m:=by omega
  have hst:AH.storeN (aX [aG 60 5 dk.length 0 (cC dk)]) 0 (m*5) (ly (cs.length-m) [.n .i64 0,.n .i64 0,.n .i64 0,.n .i64 0,.n .u32 0])=some (AH.upd (aX [aG 60 5 dk.length 0 (cC dk)]) 0 ((aG 60 5 dk.length 0 (cC dk)).putN (m*5) (ly (cs.length-m) [.n .i64 0,.n .i64 0,.n .i64 0,.n .i64 0,.n .u32 0]))):=by
   have hzl:(ly (cs.length-m) [AV.n .i64 0,.n .i64 0,.n .i64 0,.n .i64 0,.n .u32 0]).length=(cs.length-m)*5:=i9 _ _
   refine r7 (by decide) (by simp only[go_sem,simprocAttr]) (by rw[hzl];omega) ?_ (Nat.zero_le _)
   rw[hzl]
   show m*5+(cs.length-m)*5<=dk.length*5
   omega
  generalize hz:ly (cs.length-m) [AV.n .i64 0,.n .i64 0,.n .i64 0,.n .i64 0,.n .u32 0]=zz at hst
  have hnn:(cs.length:Int)<=(cs.length:Int):=Int.le_refl _
  (try simp only[hm1,hm2,hm3,hm4,hm5,hm6,hnn,hz,hst,decide_true,go_sem,simprocAttr])
  iterate 5 (with_reducible refine GA.go ba rfl ?_;try simp only[hm1,hm2,hm3,hm4,hm5,hm6,hnn,hz,hst,decide_true,go_sem,simprocAttr])
  have hlo:=hK.lo
  rw[hke,<-hm] at hlo
  have hzl:zz.length=(cs.length-m)*5:=by rw[<-hz];exact i9 _ _
  generalize hkl:(cs.filter λx=> !dj par x)=kl at hm hlo ⊢
  have hget:∀q,q<kl.length->dk.getD q (0,0,0,0,0)=kl.getD q (0,0,0,0,0):=λq hq=>by
   rw[<-hlo,List.getD_eq_getElem?_getD,List.getD_eq_getElem?_getD,List.getElem?_take_of_lt (by omega)]
  refine GA.wk (Wk.mk (L:=[(4,.os 0 kl.length)]) (bl:=[aG 60 5 kl.length 0 (cC kl)]) [0] [] ?_ ?_ ?_) ?_
  ·rw[hm]
   simp only[bg,bf,go_sem,simprocAttr]
   repeat' refine ab ?_ ?_
   all_goals first|exact bo|skip
  ·refine .cons rfl (.rows (x:=_) (by simp only[go_sem,simprocAttr]<;>rfl) (by rfl) (by rfl) (by rfl) (by show kl.length*5<=dk.length*5;omega) (by exact Nat.le_refl _) (by decide) (λq j hq hj=>?_) (λq j _ hj=>by rcases ij hj with rfl|rfl|rfl|rfl|rfl<;>rfl)) .nil
   rw[eH (by rw[hzl];omega),if_neg (by omega),aI q j hj]
   unfold cC
   rw[hget q hq]
  ·simp
  repeat first|with_reducible refine au ?_|simp only[go_sem,simprocAttr]
theorem c9{cd:List RI}{pr:List Int}:∀(t:T) (w:Bool) (d k:Nat) (e:Int),t.wf w d->fK cd k t.flat->uI pr k (t.rq k e)->∀q,k<=q->q<k+t.size->aj cd q=28->∃b,b<q/\aj cd b=27/\pr.getD b 0=(q:Int)
 |.nil,w,d,k,e,hw,hc,hp,q,h1,h2,hb=>by simp only[T.size] at h2;omega
 |.plain i r,w,d,k,e,hw,hc,hp,q,h1,h2,hb=>by
  obtain⟨⟨g1,g2,g3,g4⟩,g5,g6⟩:=hw
  simp only[T.size] at h2
  have hi:aj cd k=i.op:=by show(cd.getD k default).op=_;rw[hc.head]
  by_cases eq:q=k
  ·subst eq
   rw[hi] at hb
   exact absurd hb g2
  ·exact c9 r w d (k+1) e g6 hc.tail hp.tail q (by omega) (by omega) hb
 |.ite i a j r,w,d,k,e,hw,hc,hp,q,h1,h2,hb=>by
  obtain⟨g1,g2,g3,g4,g5⟩:=hw
  simp only[T.size] at h2
  have hi:aj cd k=i.op:=by show(cd.getD k default).op=_;rw[hc.head]
  have hal:a.flat.length=a.size:=a.flat_length
  have hql:(a.rq (k+1) e).length=a.size:=a.rq_length _ _
  have hcr:=hc.tail.right
  have hpr:=hp.tail.right
  rw[hal] at hcr
  rw[hql] at hpr
  have hj:aj cd (k+1+a.size)=j.op:=by show(cd.getD (k+1+a.size) default).op=_;rw[hcr.head]
  by_cases e1:q=k
  ·subst e1;rw[hi,g1] at hb;omega
  by_cases e2:q<k+1+a.size
  ·exact c9 a w _ (k+1) e g4 hc.tail.left hp.tail.left q (by omega) (by omega) hb
  by_cases e3:q=k+1+a.size
  ·subst e3;rw[hj,g2] at hb;omega
  ·have:=hpr.tail
   rw[show k+1+a.size+1=k+a.size+2 by omega] at this
   have hc2:=hcr.tail
   rw[show k+1+a.size+1=k+a.size+2 by omega] at hc2
   exact c9 r w d (k+a.size+2) e g5 hc2 this q (by omega) (by omega) hb
 |.ite2 i a x b j r,w,d,k,e,hw,hc,hp,q,h1,h2,hb=>by
  obtain⟨g1,g2,g3,g4,g5,g6,g7⟩:=hw
  simp only[T.size] at h2
  have hi:aj cd k=i.op:=by show(cd.getD k default).op=_;rw[hc.head]
  have hal:a.flat.length=a.size:=a.flat_length
  have hbl:b.flat.length=b.size:=b.flat_length
  have hql:(a.rq (k+1) e).length=a.size:=a.rq_length _ _
  have hqb:(b.rq (k+a.size+2) e).length=b.size:=b.rq_length _ _
  have hcr:=hc.tail.right
  have hpr:=hp.tail.right
  rw[hal] at hcr
  rw[hql] at hpr
  have hpk:=hp.head
  have hcr2:=hcr.tail
  have hpr2:=hpr.tail
  rw[show k+1+a.size+1=k+a.size+2 by omega] at hcr2 hpr2
  have hcr3:=hcr2.right
  have hpr3:=hpr2.right
  rw[hbl] at hcr3
  rw[hqb] at hpr3
  have hj:aj cd (k+a.size+2+b.size)=j.op:=by show(cd.getD (k+a.size+2+b.size) default).op=_;rw[hcr3.head]
  by_cases e1:q=k
  ·subst e1;rw[hi,g1] at hb;omega
  by_cases e2:q<k+1+a.size
  ·exact c9 a w _ (k+1) e g5 hc.tail.left hp.tail.left q (by omega) (by omega) hb
  by_cases e3:q=k+1+a.size
  ·subst e3
   exact⟨k,by omega,by rw[hi,g1],by rw[hpk];omega⟩
  by_cases e4:q<k+a.size+2+b.size
  ·exact c9 b w _ (k+a.size+2) e g6 hcr2.left hpr2.left q (by omega) (by omega) hb
  by_cases e5:q=k+a.size+2+b.size
  ·subst e5;rw[hj,g3] at hb;omega
  ·have h3:=hpr3.tail
   rw[show k+a.size+2+b.size+1=k+a.size+b.size+3 by omega] at h3
   have h4:=hcr3.tail
   rw[show k+a.size+2+b.size+1=k+a.size+b.size+3 by omega] at h4
   exact c9 r w d (k+a.size+b.size+3) e g7 h4 h3 q (by omega) (by omega) hb
 |.loop i a j r,w,d,k,e,hw,hc,hp,q,h1,h2,hb=>by
  obtain⟨g1,g2,g3,g4,g5⟩:=hw
  simp only[T.size] at h2
  have hi:aj cd k=i.op:=by show(cd.getD k default).op=_;rw[hc.head]
  have hal:a.flat.length=a.size:=a.flat_length
  have hql:(a.rq (k+1) ((k+a.size+1:Nat):Int)).length=a.size:=a.rq_length _ _
  have hcr:=hc.tail.right
  have hpr:=hp.tail.right
  rw[hal] at hcr
  rw[hql] at hpr
  have hj:aj cd (k+1+a.size)=j.op:=by show(cd.getD (k+1+a.size) default).op=_;rw[hcr.head]
  by_cases e1:q=k
  ·subst e1;rw[hi,g1] at hb;omega
  by_cases e2:q<k+1+a.size
  ·exact c9 a true _ (k+1) _ g4 hc.tail.left hp.tail.left q (by omega) (by omega) hb
  by_cases e3:q=k+1+a.size
  ·subst e3;rw[hj,g2] at hb;omega
  ·have h3:=hpr.tail
   rw[show k+1+a.size+1=k+a.size+2 by omega] at h3
   have h4:=hcr.tail
   rw[show k+1+a.size+1=k+a.size+2 by omega] at h4
   exact c9 r w d (k+a.size+2) e g5 h4 h3 q (by omega) (by omega) hb
theorem rZ.else_{la:List (Bool×Int)}{regs par:Int}{cs:List In}(h:rZ la regs par cs){i:Nat}(hi:i<cs.length)(ho:bT cs i=28):∃b,b<i/\bT cs b=27/\cP cs b=i:=by
 obtain⟨_,hl,_,t,ht,hw,he⟩:=h.pt
 have hs:cs.length=t.size:=by rw[<-t.flat_length,<-ht,List.length_map]
 obtain⟨b,h1,h2,h3⟩:=c9 (cd:=cs.map bp) (pr:=rX cs) t false 8 0 0 hw (by rw[ht];exact λj hj=>by simp) (by rw[he];exact λj hj=>by simp) i (Nat.zero_le _) (by omega) (by rw[dh];exact ho)
 refine⟨b,h1,by rw[dh] at h2;exact h2,?_⟩
 unfold cP
 omega
theorem rZ.pred{la:List (Bool×Int)}{regs par:Int}{cs:List In}(h:rZ la regs par cs){i:Nat}(hi:i<cs.length):∃b,b<=i/\i+1 ∈ bG cs (cP cs) b:=by
 by_cases ho:bT cs i=28
 ·obtain⟨b,h1,h2,h3⟩:=h.else_ hi ho
  refine⟨b,by omega,?_⟩
  unfold bG
  rw[if_pos (.inl h2),h3]
  simp
 ·refine⟨i,Nat.le_refl _,?_⟩
  unfold bG
  rw[if_neg ho]
  repeat' split
  all_goals simp
theorem yq{la:List (Bool×Int)}{regs par:Int}{cs:List In}(h:rZ la regs par cs){p q:Nat}(hpq:p≠q):∀i,i<=cs.length->bm cs (bG cs (cP cs)) i (p:Int)->bm cs (bG cs (cP cs)) i (q:Int)->fJ cs (bG cs (cP cs)) (p:Int) (q:Int):=by
 intro i
 induction i using Nat.strongRecOn with
 |_ i ih=>
  intro hi h1 h2
  match i,ih,hi,h1,h2 with
  |0,_,_,h1,h2=>exact .inl ⟨by omega,h1,h2⟩
  |i+1,ih,hi,h1,h2=>
   obtain⟨b,hb,hn⟩:=h.pred (show i<cs.length by omega)
   have hbl:b<cs.length:=by omega
   by_cases e1:(p:Int)=qe cs b
   ·exact .inr ⟨b,i+1,hbl,hn,by omega,.inl ⟨e1,by omega,h2⟩⟩
   by_cases e2:(q:Int)=qe cs b
   ·exact .inr ⟨b,i+1,hbl,hn,by omega,.inr ⟨e2,by omega,h1⟩⟩
   exact ih b (by omega) (by omega) (.flow hbl hn h1 e1) (.flow hbl hn h2 e2)
theorem ma{cs:List In}{nx:Nat->List Nat}{i:Nat}{r:Int}(h:bm cs nx i r):cN cs r=true:=by
 induction h with
 |read hi h=>exact gG.2 ⟨_,hi,by unfold bO;exact List.mem_append_left _ h⟩
 |flow _ _ _ _ ih=>exact ih
theorem vi{l:List Nat}{n:Nat}(hn:l.Nodup)(hl:∀x ∈ l,x<n):l.length<=n:=by
 have h1:(l.map λx:Nat=>(x:Int)).Nodup:=by
  rw[List.Nodup,List.pairwise_map]
  exact List.Pairwise.imp (λ{a b} h e=>h (by omega)) hn
 have:=fv (R:=n) h1 (λr hr=>by
  obtain⟨x,hx,rfl⟩:=List.mem_map.1 hr
  have:=hl x hx
  omega)
 rwa [List.length_map] at this
theorem IG{occ:Nat->Bool}{nb:Nat->Nat->Prop}{n:Nat}{K:Nat->Nat}(hc:rT occ nb n K){r s:Nat}(hs:s<r)(hr:r<n)(h1:occ r=true)(h2:occ s=true)(hb:nb r s):K s≠K r:=λe=>(hc.yes r hr h1).1 ⟨s,hs,h2,hb,e⟩
theorem yp{la:List (Bool×Int)}{R:Nat}{par:Int}{cs:List In}(hz:(dw la R par cs).2=0){i:Nat}(hi:i<=cs.length):(cq cs (bG cs (cP cs)) R i).length<=cG cs R:=by
 have hk:=bV hz
 have hcol:=jM cs R
 have hne:∀{r s:Nat},s<r->r ∈ cq cs (bG cs (cP cs)) R i->s ∈ cq cs (bG cs (cP cs)) R i->clr cs R s≠clr cs R r:=λ{r s} hsr hr hs=>by
  obtain⟨r1,r2⟩:=fB.1 hr
  obtain⟨s1,s2⟩:=fB.1 hs
  exact IG hcol hsr r1 (ma r2) (ma s2) (jD.2 (yq hk (by omega) i hi r2 s2))
 have hnd:((cq cs (bG cs (cP cs)) R i).map (clr cs R)).Nodup:=by
  have hp:=jB cs (bG cs (cP cs)) R i
  have hall:(cq cs (bG cs (cP cs)) R i).Pairwise λa b=>a ∈ cq cs (bG cs (cP cs)) R i/\b ∈ cq cs (bG cs (cP cs)) R i/\a<b:=by
   refine List.Pairwise.imp_of_mem (λ{a b} ha hb h=>⟨ha,hb,h⟩) hp
  rw[List.Nodup,List.pairwise_map]
  exact hall.imp λ{a b} h=>hne h.2.2 h.2.1 h.1
 have:=vi (n:=cG cs R) hnd (λx hx=>by
  obtain⟨r,hr,rfl⟩:=List.mem_map.1 hx
  obtain⟨r1,r2⟩:=fB.1 hr
  exact lu (occ:=λr=>cN cs (r:Int)) r1 (ma r2))
 rwa [List.length_map] at this
theorem tR{la:List (Bool×Int)}{R:Nat}{par:Int}{cs:List In}(hz:(dw la R par cs).2=0):∀n,n<=cs.length+1->AJ (cq cs (bG cs (cP cs)) R) n<=cG cs R
 |0,_=>Nat.zero_le _
 |n+1,h=>by
  have h1:=tR hz n (by omega)
  have h2:=yp hz (show n<=cs.length by omega)
  unfold AJ
  omega
/-! ### what is left when the moves of spilled registers are struck-/
theorem zo{R par nA:Int}{x y:In}(h:iM R par nA x)(h1:y.1=x.1)(h2:y.2.2.2.2=x.2.2.2.2):dj par y=false:=by
 unfold dj
 rw[h1,h2]
 have ha:=h.arg
 by_cases e:x.1=37
 ·rw[e,x5] at ha
  rw[decide_eq_false (show ¬par<=x.2.2.2.2 by omega),Bool.and_false]
 ·by_cases e2:x.1=38
  ·rw[e2,x4] at ha
   rw[decide_eq_false (show ¬par<=x.2.2.2.2 by omega),Bool.and_false]
  ·rw[decide_eq_false e,decide_eq_false e2];rfl
theorem A2{x y:In}(h1:y.1=x.1)(h2:y.2.2.2.2=x.2.2.2.2):qo y x=true:=by
 unfold qo
 rw[decide_eq_true h1,decide_eq_true h2];rfl
theorem y8{R par nA:Int}{cs:List In}(h:∀x ∈ cs,iM R par nA x)(f:In->In)(hf:∀x,(f x).1=x.1/\(f x).2.2.2.2=x.2.2.2.2):((cs.map f).filter λx=> !dj par x)=cs.map f:=
 List.filter_eq_self.2 λy hy=>by
  obtain⟨x,hx,rfl⟩:=List.mem_map.1 hy
  rw[zo (h x hx) (hf x).1 (hf x).2];rfl
theorem re{par q c:Int}{r n:Nat}(hcn:c<(n:Int))(hp:0<=par)(h2:par+n-(r-3)<=1024)(hr:4<=r):((g8 ((r:Int)-3) par q c).filter λx=> !dj par x)=[]:=by
 unfold g8
 split
 ·have hc:=lw (kept:=(r:Int)-3) (first:=par) (c:=c) (by omega) (by omega)
  have:dj par (38,(r:Int)-3+q,-1,-1,ff ((r:Int)-3) par c)=true:=by
   unfold dj
   simp only
   rw[hc,decide_eq_true (show par<=par+c-((r:Int)-3) by omega)];rfl
  rw[List.filter_cons_of_neg (by rw[this];decide)];rfl
 ·rfl
theorem y6{par c:Int}{r n:Nat}(hcn:c<(n:Int))(hp:0<=par)(h2:par+n-(r-3)<=1024)(hr:4<=r):((tN ((r:Int)-3) par c).filter λx=> !dj par x)=[]:=by
 unfold tN
 split
 ·have hc:=lw (kept:=(r:Int)-3) (first:=par) (c:=c) (by omega) (by omega)
  have:dj par (37,-1,(r:Int)-3+2,-1,ff ((r:Int)-3) par c)=true:=by
   unfold dj
   simp only
   rw[hc,decide_eq_true (show par<=par+c-((r:Int)-3) by omega)];rfl
  rw[List.filter_cons_of_neg (by rw[this];decide)];rfl
 ·rfl
theorem q9{R par nA:Int}{nm:List Int}{r n:Nat}(hr:4<=r/\r<=1024)(hp:0<=par)(h2:par+n-(r-3)<=1024):∀(cs:List In),(∀x ∈ cs,iM R par nA x)->(∀x ∈ cs,∀v:Int,0<=v->v<R->v ∈ bO x->0<=dp nm v/\dp nm v<(n:Int))->
  ((gk nm ((r:Int)-3) par cs).filter λx=> !dj par x)=cs.map λx=>He ((r:Int)-3) (dM nm x)
 |[],_,_=>rfl
 |x::cs,h,hn=>by
  have hx:=(h x (List.mem_cons_self ..)).rnm (R2:=n) (hn x (List.mem_cons_self ..))
  have hd:=zo (y:=He ((r:Int)-3) (dM nm x)) (h x (List.mem_cons_self ..)) rfl rfl
  have ih:=q9 hr hp h2 cs (λy hy=>h y (List.mem_cons_of_mem _ hy)) (λy hy=>hn y (List.mem_cons_of_mem _ hy))
  obtain⟨b1,b2,b3⟩:=hx.regs3
  have c1:(dM nm x).2.1<(n:Int):=by rcases b1 with h|h<;>omega
  have c2:(dM nm x).2.2.1<(n:Int):=by rcases b2 with h|h<;>omega
  have c3:(dM nm x).2.2.2.1<(n:Int):=by rcases b3 with h|h<;>omega
  rw[nG,List.filter_append,ih,List.map_cons]
  unfold rV
  rw[List.filter_append,List.filter_append,List.filter_append,re c2 hp h2 hr.1,re c3 hp h2 hr.1,y6 c1 hp h2 hr.1,List.filter_cons_of_pos (by rw[hd];rfl)]
  rfl
end Go.Proofs.Yteopfmnnhlhbmaa