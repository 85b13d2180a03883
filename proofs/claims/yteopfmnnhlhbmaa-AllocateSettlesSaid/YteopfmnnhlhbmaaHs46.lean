/- A part of the proof of AllocateSettles: AlE AlF AlG AlH StA AzA EqA AzB LcA StB. No condition. -/
import Derived.Test.YteopfmnnhlhbmaaHs17
import Derived.Test.YteopfmnnhlhbmaaHs35
import Derived.Test.YteopfmnnhlhbmaaHs45
import Derived.Test.YteopfmnnhlhbmaaHs33
import Derived.Test.YteopfmnnhlhbmaaHs13
import Derived.Test.YteopfmnnhlhbmaaHs16
set_option linter.unusedSimpArgs false
set_option linter.unusedVariables false
set_option linter.constructorNameAsVariable false
set_option maxRecDepth 100000
set_option maxHeartbeats 4000000
namespace Go.Proofs.Yteopfmnnhlhbmaa
open Go.RowKit
theorem dB{cd:List RI}{pr:List Int}:∀(t:T) (w:Bool) (d k:Nat) (e:Int),t.wf w d->fS cd k t.flat->v7 pr k (t.rq k e)->(w=true->0<=e)->∀q,k<=q->q<k+t.size->dQ (aj cd q)->
  0<=pr.getD q 0/\(aj cd q=27->∃p:Nat,pr.getD q 0=(p:Int)/\(aj cd p=31->pr.getD p 0=(q:Int)))
 |.nil,w,d,k,e,hw,hc,hp,he,q,h1,h2,hb=>by simp only[T.size] at h2;omega
 |.plain i r,w,d,k,e,hw,hc,hp,he,q,h1,h2,hb=>by
  obtain⟨⟨g1,g2,g3,g4⟩,g5,g6⟩:=hw
  simp only[T.size] at h2
  have hi:aj cd k=i.op:=by show(cd.getD k default).op=_;rw[hc.head]
  by_cases eq:q=k
  ·subst eq
   rw[hp.head]
   rw[hi] at hb ⊢
   have h30:i.op=30:=by unfold dQ at hb;omega
   rw[if_pos h30]
   exact⟨he (g5 h30),λh=>by omega⟩
  ·exact dB r w d (k+1) e g6 hc.tail hp.tail he q (by omega) (by omega) hb
 |.ite i a j r,w,d,k,e,hw,hc,hp,he,q,h1,h2,hb=>by
  obtain⟨g1,g2,g3,g4,g5⟩:=hw
  simp only[T.size] at h2
  have hi:aj cd k=i.op:=by show(cd.getD k default).op=_;rw[hc.head]
  have hal:a.flat.length=a.size:=a.flat_length
  have hql:(a.rq (k+1) e).length=a.size:=a.rq_length _ _
  have hcr:=hc.tail.right
  have hpr:=hp.tail.right
  rw[hal] at hcr
  rw[hql] at hpr
  have hj:aj cd (k+1+a.size)=j.op:=by show(cd.getD (k+1+a.size) default).op=_;rw[hcr.head]
  have hpk:=hp.head
  have hpj:=hpr.head
  by_cases e1:q=k
  ·subst e1
   rw[hpk]
   refine⟨by omega,λ_=>⟨q+a.size+1,rfl,λ_=>?_⟩⟩
   rw[show q+a.size+1=q+1+a.size by omega,hpj]
  by_cases e2:q<k+1+a.size
  ·exact dB a w _ (k+1) e g4 hc.tail.left hp.tail.left he q (by omega) (by omega) hb
  by_cases e3:q=k+1+a.size
  ·subst e3
   rw[hpj,hj,g2]
   exact⟨by omega,λh=>by omega⟩
  ·have:=hpr.tail
   rw[show k+1+a.size+1=k+a.size+2 by omega] at this
   have hc2:=hcr.tail
   rw[show k+1+a.size+1=k+a.size+2 by omega] at hc2
   exact dB r w d (k+a.size+2) e g5 hc2 this he q (by omega) (by omega) hb
 |.ite2 i a x b j r,w,d,k,e,hw,hc,hp,he,q,h1,h2,hb=>by
  obtain⟨g1,g2,g3,g4,g5,g6,g7⟩:=hw
  simp only[T.size] at h2
  have hal:a.flat.length=a.size:=a.flat_length
  have hbl:b.flat.length=b.size:=b.flat_length
  have hql:(a.rq (k+1) e).length=a.size:=a.rq_length _ _
  have hqb:(b.rq (k+a.size+2) e).length=b.size:=b.rq_length _ _
  have hcr:=hc.tail.right
  have hpr:=hp.tail.right
  rw[hal] at hcr
  rw[hql] at hpr
  have hx:aj cd (k+1+a.size)=x.op:=by show(cd.getD (k+1+a.size) default).op=_;rw[hcr.head]
  have hpk:=hp.head
  have hpx:=hpr.head
  have hcr2:=hcr.tail
  have hpr2:=hpr.tail
  rw[show k+1+a.size+1=k+a.size+2 by omega] at hcr2 hpr2
  have hcr3:=hcr2.right
  have hpr3:=hpr2.right
  rw[hbl] at hcr3
  rw[hqb] at hpr3
  have hj:aj cd (k+a.size+2+b.size)=j.op:=by show(cd.getD (k+a.size+2+b.size) default).op=_;rw[hcr3.head]
  have hpj:=hpr3.head
  by_cases e1:q=k
  ·subst e1
   rw[hpk]
   refine⟨by omega,λ_=>⟨q+a.size+1,rfl,λh=>?_⟩⟩
   rw[show q+a.size+1=q+1+a.size by omega,hx,g2] at h
   omega
  by_cases e2:q<k+1+a.size
  ·exact dB a w _ (k+1) e g5 hc.tail.left hp.tail.left he q (by omega) (by omega) hb
  by_cases e3:q=k+1+a.size
  ·subst e3
   rw[hpx,hx,g2]
   exact⟨by omega,λh=>by omega⟩
  by_cases e4:q<k+a.size+2+b.size
  ·exact dB b w _ (k+a.size+2) e g6 hcr2.left hpr2.left he q (by omega) (by omega) hb
  by_cases e5:q=k+a.size+2+b.size
  ·subst e5
   rw[hpj,hj,g3]
   exact⟨by omega,λh=>by omega⟩
  ·have h3:=hpr3.tail
   rw[show k+a.size+2+b.size+1=k+a.size+b.size+3 by omega] at h3
   have h4:=hcr3.tail
   rw[show k+a.size+2+b.size+1=k+a.size+b.size+3 by omega] at h4
   exact dB r w d (k+a.size+b.size+3) e g7 h4 h3 he q (by omega) (by omega) hb
 |.loop i a j r,w,d,k,e,hw,hc,hp,he,q,h1,h2,hb=>by
  obtain⟨g1,g2,g3,g4,g5⟩:=hw
  simp only[T.size] at h2
  have hi:aj cd k=i.op:=by show(cd.getD k default).op=_;rw[hc.head]
  have hal:a.flat.length=a.size:=a.flat_length
  have hql:(a.rq (k+1) ((k+a.size+1:Nat):Int)).length=a.size:=a.rq_length _ _
  have hcr:=hc.tail.right
  have hpr:=hp.tail.right
  rw[hal] at hcr
  rw[hql] at hpr
  have hj:aj cd (k+1+a.size)=j.op:=by show(cd.getD (k+1+a.size) default).op=_;rw[hcr.head]
  have hpk:=hp.head
  have hpj:=hpr.head
  by_cases e1:q=k
  ·subst e1
   rw[hpk,hi,g1]
   exact⟨by omega,λh=>by omega⟩
  by_cases e2:q<k+1+a.size
  ·exact dB a true _ (k+1) _ g4 hc.tail.left hp.tail.left (λ_=>by omega) q (by omega) (by omega) hb
  by_cases e3:q=k+1+a.size
  ·subst e3
   rw[hpj,hj,g2]
   exact⟨by omega,λh=>by omega⟩
  ·have h3:=hpr.tail
   rw[show k+1+a.size+1=k+a.size+2 by omega] at h3
   have h4:=hcr.tail
   rw[show k+1+a.size+1=k+a.size+2 by omega] at h4
   exact dB r w d (k+a.size+2) e g5 h4 h3 he q (by omega) (by omega) hb
def dJ(cs:List In)(i:Nat):Nat:=((rI cs).getD i 0).toNat
structure OQ(cs:List In):Prop where
 len:(rI cs).length=cs.length
 at_:∀i,i<cs.length->dQ (bV cs i)->(rI cs).getD i 0=(dJ cs i:Int)/\dJ cs i<cs.length
 back:∀i,i<cs.length->bV cs i=27->bV cs (dJ cs i)=31->dJ cs (dJ cs i)=i
theorem z7.pok{la:List (Bool×Int)}{regs par:Int}{cs:List In}(h:z7 la regs par cs):OQ cs:=by
 obtain⟨_,hl,_,t,ht,hw,he⟩:=h.pt
 have hs:cs.length=t.size:=by rw[<-t.flat_length,<-ht,List.length_map]
 have hfact:=dB (cd:=cs.map bo) (pr:=rI cs) t false 8 0 0 hw (by rw[ht];exact λj hj=>by simp) (by rw[he];exact λj hj=>by simp) (λh=>by cases h)
 have hrng:=fE (n:=(cs.length:Int)) t 0 0
 have hat:∀i,i<cs.length->dQ (bV cs i)->(rI cs).getD i 0=(dJ cs i:Int)/\dJ cs i<cs.length:=λi hi hb=>by
  have h1:=(hfact i (Nat.zero_le _) (by omega) (by rw[dW];exact hb)).1
  have hm:(rI cs).getD i 0 ∈ t.rq 0 0:=by rw[<-he,List.getD_eq_getElem?_getD,List.getElem?_eq_getElem (by omega)];exact List.getElem_mem _
  have h2:=hrng ⟨by omega,by omega⟩ (by omega) _ hm
  unfold dJ
  omega
 refine⟨hl,hat,λi hi h27 h31=>?_⟩
 obtain⟨p,h1,h2⟩:=(hfact i (Nat.zero_le _) (by omega) (by rw[dW];exact .inl h27)).2 (by rw[dW];exact h27)
 obtain⟨h3,h4⟩:=hat i hi (.inl h27)
 have hpp:dJ cs i=p:=by omega
 rw[hpp] at h31 ⊢
 have:=h2 (by rw[dW];exact h31)
 unfold dJ
 omega
theorem rG{op a b:Int}(h:op=28\/op=31):aA op a b=[]:=by
 rcases h with rfl|rfl<;>rfl
theorem gb{op to:Int}(h:dQ op):aW op to= -1:=by
 unfold dQ at h
 rcases h with rfl|rfl|rfl|rfl|rfl<;>rfl
theorem lx{op a b r:Int}:r ∈ aA op a b↔(wM op=true/\r=a)\/(wL op=true/\r=b):=by
 have e:aA op a b=(if wM op then[a] else[])++(if wL op then[b] else[]):=rfl
 rw[e,List.mem_append]
 cases wM op<;>cases wL op<;>simp
theorem dg{x:In}{r:Int}:r ∈ bK x↔(wM x.1=true/\r=x.2.2.1)\/(wL x.1=true/\r=x.2.2.2.1)\/r=aW x.1 x.2.1:=by
 unfold bK
 rw[List.mem_append,lx,List.mem_singleton,or_assoc]
theorem jE.reads{regs par nA:Int}{x:In}(h:jE regs par nA x):∀r ∈ aA x.1 x.2.2.1 x.2.2.2.1,0<=r/\r<regs:=by
 intro r hr
 rcases lx.1 hr with⟨h1,rfl⟩|⟨h1,rfl⟩
 ·have:=h.a;rwa [if_pos h1] at this
 ·have:=h.b;rwa [if_pos h1] at this
theorem jE.writes{regs par nA:Int}{x:In}(h:jE regs par nA x)(h0:0<=regs):aW x.1 x.2.1<regs/\ -1<=aW x.1 x.2.1:=by
 have:=h.to
 unfold aW
 split
 ·rename_i hu;rw[if_pos hu] at this;omega
 ·omega
theorem jE.uses{regs par nA:Int}{x:In}(h:jE regs par nA x)(h0:0<=regs):∀r ∈ bK x,r<regs:=by
 intro r hr
 rcases dg.1 hr with⟨h1,rfl⟩|⟨h1,rfl⟩|rfl
 ·have:=h.a;rw[if_pos h1] at this;omega
 ·have:=h.b;rw[if_pos h1] at this;omega
 ·exact(h.writes h0).1
theorem jE.regs3{regs par nA:Int}{x:In}(h:jE regs par nA x):(x.2.1= -1\/(0<=x.2.1/\x.2.1<regs/\x.2.1 ∈ bK x))/\(x.2.2.1= -1\/(0<=x.2.2.1/\x.2.2.1<regs/\x.2.2.1 ∈ bK x))/\(x.2.2.2.1= -1\/(0<=x.2.2.2.1/\x.2.2.2.1<regs/\x.2.2.2.1 ∈ bK x)):=by
 refine⟨?_,?_,?_⟩
 ·have:=h.to
  split at this
  ·rename_i hu
   refine .inr ⟨this.1,this.2,dg.2 (.inr (.inr ?_))⟩
   unfold aW;rw[if_pos hu]
  ·exact .inl this
 ·have:=h.a
  split at this
  ·rename_i hu;exact .inr ⟨this.1,this.2,dg.2 (.inl ⟨hu,rfl⟩)⟩
  ·exact .inl this
 ·have:=h.b
  split at this
  ·rename_i hu;exact .inr ⟨this.1,this.2,dg.2 (.inr (.inl ⟨hu,rfl⟩))⟩
  ·exact .inl this
/-! ### the same live registers-/
section
variable {cs:List In}
theorem je{pt:Nat->Nat}{i:Nat}(h:¬bV cs i=27){k:Nat}:k ∈ nxt cs pt i↔k ∈ b6 cs pt i:=by
 unfold nxt b6
 generalize bV cs i=op at*
 by_cases h1:op=29
 ·subst h1;simp
 by_cases h2:op=30
 ·subst h2;simp
 by_cases h3:op=28
 ·subst h3;simp
 by_cases h4:op=31
 ·subst h4
  simp only[show ¬(31:Int)=27 by decide,show ¬(31:Int)=29 by decide,show ¬(31:Int)=30 by decide,show ¬(31:Int)=28 by decide,or_self,if_false,if_true]
  split
  ·simp only[List.mem_cons,List.not_mem_nil,or_false]
   exact or_comm
  ·exact Iff.rfl
 ·simp[h,h1,h2,h3,h4]
theorem rP{pt:Nat->Nat}{i:Nat}(h:bV cs i=27):nxt cs pt i=[i+1,if bV cs (pt i)=31 then pt i else pt i+1]/\b6 cs pt i=[i+1,pt i+1]:=by
 unfold nxt b6
 constructor
 ·rw[if_pos h]
 ·simp[h]
theorem qj(hp:OQ cs){i:Nat}(hi:i<cs.length)(h27:bV cs i=27)(h31:bV cs (dJ cs i)=31){r:Int}(hr:0<=r){nx:Nat->List Nat}(hnx:∀j,bV cs j=31->¬bV cs (dJ cs j)=29->nx j=[j+1]):
  bt cs nx (dJ cs i) r↔bt cs nx (dJ cs i+1) r:=by
 have hb:=hp.back i hi h27 h31
 have hl:=(hp.at_ i hi (.inl h27)).2
 have hn:nx (dJ cs i)=[dJ cs i+1]:=hnx _ h31 (by rw[hb,h27];decide)
 have hrd:aA (cs.getD (dJ cs i) (0,0,0,0,0)).1 (cs.getD (dJ cs i) (0,0,0,0,0)).2.2.1 (cs.getD (dJ cs i) (0,0,0,0,0)).2.2.2.1=[]:=rG (.inr h31)
 have hwr:aW (cs.getD (dJ cs i) (0,0,0,0,0)).1 (cs.getD (dJ cs i) (0,0,0,0,0)).2.1= -1:=gb (.inr (.inr (.inr (.inr h31))))
 constructor
 ·intro h
  generalize hj:dJ cs i=j at*
  cases h with
  |read _ h2=>rw[hrd] at h2;cases h2
  |@flow _ k _ _ hk h _=>
   rw[hn] at hk
   simp at hk
   subst hk
   exact h
 ·intro h
  exact .flow hl (by rw[hn];simp) h (by rw[hwr];omega)
theorem G1(pt:Nat->Nat)(j:Nat)(h:bV cs j=31)(h2:¬bV cs (pt j)=29):nxt cs pt j=[j+1]:=by
 unfold nxt
 simp[h,h2]
theorem AU(pt:Nat->Nat)(j:Nat)(h:bV cs j=31)(h2:¬bV cs (pt j)=29):b6 cs pt j=[j+1]:=by
 unfold b6
 simp[h,h2]
theorem cQ(hp:OQ cs){R:Nat}(hR:∀x ∈ cs,∀r ∈ aA x.1 x.2.2.1 x.2.2.2.1,0<=r/\r<(R:Int)){i:Nat}{r:Int}:bt cs (nxt cs (dJ cs)) i r↔bt cs (b6 cs (dJ cs)) i r:=by
 constructor
 ·intro h
  induction h with
  |read hi h=>exact .read hi h
  |@flow i k r hi hk h hw ih=>
   by_cases h27:bV cs i=27
   ·obtain⟨e1,e2⟩:=rP (pt:=dJ cs) h27
    rw[e1] at hk
    by_cases h31:bV cs (dJ cs i)=31
    ·rw[if_pos h31] at hk
     simp only[List.mem_cons,List.not_mem_nil,or_false] at hk
     rcases hk with rfl|rfl
     ·exact .flow hi (by rw[e2];simp) ih hw
     ·exact .flow hi (by rw[e2];simp) ((qj hp hi h27 h31 (ih.range hR).1 (λj=>AU _ j)).1 ih) hw
    ·rw[if_neg h31] at hk
     exact .flow hi (by rw[e2];exact hk) ih hw
   ·exact .flow hi ((je h27).1 hk) ih hw
 ·intro h
  induction h with
  |read hi h=>exact .read hi h
  |@flow i k r hi hk h hw ih=>
   by_cases h27:bV cs i=27
   ·obtain⟨e1,e2⟩:=rP (pt:=dJ cs) h27
    rw[e2] at hk
    simp only[List.mem_cons,List.not_mem_nil,or_false] at hk
    rcases hk with rfl|rfl
    ·exact .flow hi (by rw[e1];simp) ih hw
    ·by_cases h31:bV cs (dJ cs i)=31
     ·exact .flow hi (by rw[e1,if_pos h31];simp) ((qj hp hi h27 h31 (ih.range hR).1 (λj=>G1 _ j)).2 ih) hw
     ·exact .flow hi (by rw[e1,if_neg h31];simp) ih hw
   ·exact .flow hi ((je h27).2 hk) ih hw
theorem sb(hp:OQ cs){R:Nat}(hR:∀x ∈ cs,∀r ∈ aA x.1 x.2.2.1 x.2.2.2.1,0<=r/\r<(R:Int)):dy cs (nxt cs (dJ cs)) R=dy cs (b6 cs (dJ cs)) R:=by
 funext i
 unfold dy
 congr 1
 funext r
 exact decide_eq_decide.2 (cQ hp hR)
theorem vy(hp:OQ cs){R:Nat}(hR:∀x ∈ cs,∀r ∈ aA x.1 x.2.2.1 x.2.2.2.1,0<=r/\r<(R:Int)){p q:Int}:fQ cs (nxt cs (dJ cs)) p q↔fQ cs (b6 cs (dJ cs)) p q:=by
 have hs:∀i k,0<=rx cs i->(k ∈ nxt cs (dJ cs) i↔k ∈ b6 cs (dJ cs) i):=λi k hw=>je (λh27=>by
  have:rx cs i= -1:=gb (.inl h27)
  omega)
 unfold fQ
 constructor
 ·rintro (⟨h1,h2,h3⟩|⟨i,k,h1,h2,h3,h4⟩)
  ·exact .inl ⟨h1,(cQ hp hR).1 h2,(cQ hp hR).1 h3⟩
  ·refine .inr ⟨i,k,h1,(hs i k h3).1 h2,h3,?_⟩
   rcases h4 with⟨a,b,c⟩|⟨a,b,c⟩
   ·exact .inl ⟨a,b,(cQ hp hR).1 c⟩
   ·exact .inr ⟨a,b,(cQ hp hR).1 c⟩
 ·rintro (⟨h1,h2,h3⟩|⟨i,k,h1,h2,h3,h4⟩)
  ·exact .inl ⟨h1,(cQ hp hR).2 h2,(cQ hp hR).2 h3⟩
  ·refine .inr ⟨i,k,h1,(hs i k h3).2 h2,h3,?_⟩
   rcases h4 with⟨a,b,c⟩|⟨a,b,c⟩
   ·exact .inl ⟨a,b,(cQ hp hR).2 c⟩
   ·exact .inr ⟨a,b,(cQ hp hR).2 c⟩
theorem fQ.range{nx:Nat->List Nat}{R:Nat}(hR:∀x ∈ cs,∀r ∈ aA x.1 x.2.2.1 x.2.2.2.1,0<=r/\r<(R:Int))(hW:∀x ∈ cs,aW x.1 x.2.1<(R:Int)){p q:Int}(h:fQ cs nx p q):(0<=p/\p<(R:Int))/\(0<=q/\q<(R:Int)):=by
 have hw:∀i,i<cs.length->rx cs i<(R:Int):=λi hi=>hW _ (by rw[List.getD_eq_getElem?_getD,List.getElem?_eq_getElem hi];exact List.getElem_mem hi)
 rcases h with⟨_,h2,h3⟩|⟨i,k,h1,h2,h3,⟨h4,h5,h6⟩|⟨h4,h5,h6⟩⟩
 ·exact⟨h2.range hR,h3.range hR⟩
 ·have:=hw i h1;exact⟨by omega,h6.range hR⟩
 ·have:=hw i h1;exact⟨h6.range hR,by omega⟩
/-! ### the same names-/
theorem jP(R:Nat):bA cs (R+1)=if cJ cs (R:Int)=true then bA cs R++[R] else bA cs R:=by
 unfold bA
 rw[List.range_succ,List.filter_append]
 cases h:cJ cs (R:Int)<;>simp[h]
theorem gH:∀R,gI (λr=>cJ cs (r:Int)) R=(bA cs R).length
 |0=>rfl
 |R+1=>by
  rw[jP]
  unfold gI
  rw[gH R]
  split
  ·rw[List.length_append,List.length_singleton]
  ·rfl
theorem tE{l l2:List Nat}:∀{k:Nat},k<=l.length->mF (l++l2) k=mF l k
 |0,_=>rfl
 |k+1,h=>by
  unfold mF
  rw[tE (by omega),List.getD_eq_getElem?_getD,List.getElem?_append_left (by omega),<-List.getD_eq_getElem?_getD]
theorem tD:∀(R v:Nat),v<R->cJ cs (v:Int)=true->mF (bA cs R) (bA cs R).length (v:Int)=some ((gI (λr=>cJ cs (r:Int)) v:Nat):Int)
 |0,v,h,_=>by omega
 |R+1,v,h,ho=>by
  rw[jP]
  by_cases e:v=R
  ·subst e
   rw[if_pos ho,List.length_append,List.length_singleton]
   unfold mF
   rw[if_pos (by rw[List.getD_eq_getElem?_getD,List.getElem?_append_right (Nat.le_refl _),Nat.sub_self];rfl),gH]
  ·have ih:=tD R v (by omega) ho
   split
   ·rw[List.length_append,List.length_singleton]
    unfold mF
    rw[if_neg (by rw[List.getD_eq_getElem?_getD,List.getElem?_append_right (Nat.le_refl _),Nat.sub_self];simp;omega),tE (Nat.le_refl _),ih]
   ·exact ih
theorem A1{l:List Nat}{k:Nat}{v:Int}(hv:v<0):mF l k v=none:=by
 cases hx:mF l k v with
 |none=>rfl
 |some y=>obtain⟨i,h1,h2,_⟩:=lF hx;omega
theorem qR(f:Nat->Bool)(R r:Nat)(h:r<R):(sJ f R).getD r 0=((gI f r:Nat):Int):=by
 unfold sJ
 rw[List.getD_eq_getElem?_getD,List.getElem?_map,List.getElem?_range h]
 rfl
theorem lJ{nm:Int->Option Int}{nl:List Int}{x:In}{regs par nA:Int}(h:jE regs par nA x)(hneg:nm (-1)=none)(hyes:∀v:Int,0<=v->v<regs->v ∈ bK x->nm v=some (nl.getD v.toNat 0)):eI nm x=eY nl x:=by
 obtain⟨h1,h2,h3⟩:=h.regs3
 have key:∀v:Int,(v= -1\/(0<=v/\v<regs/\v ∈ bK x))->fF nm v=cX nl v:=λv hv=>by
  unfold fF cX
  rcases hv with rfl|⟨g1,g2,g3⟩
  ·rw[hneg,if_pos (by decide)];rfl
  ·rw[hyes v g1 g2 g3,if_neg (by omega)];rfl
 unfold eI eY
 rw[key _ h1,key _ h2,key _ h3]
theorem gU{x:In}(hx:x ∈ cs){r:Int}(h:r ∈ bK x):cJ cs r=true:=by
 unfold cJ
 rw[List.any_eq_true]
 exact⟨x,hx,List.contains_iff_mem.2 h⟩
theorem o9{regs:Nat}{par nA:Int}(hin:∀x ∈ cs,jE regs par nA x):cs.map (eI (mF (bA cs regs) (bA cs regs).length))=cs.map (eY (sJ (λr=>cJ cs (r:Int)) regs)):=by
 refine List.map_congr_left (λx hx=>lJ (hin x hx) (A1 (by decide)) (λv h0 h1 hv=>?_))
 obtain⟨n,rfl⟩:∃n:Nat,v=n:=⟨v.toNat,by omega⟩
 rw[tD regs n (by omega) (gU hx hv),Int.toNat_natCast,qR _ _ _ (by omega)]
end
end Go.Proofs.Yteopfmnnhlhbmaa
namespace Go.Proofs.Yteopfmnnhlhbmaa
open Go.RowKit
theorem nB{P:Program}{f:FuncId}{args:List AV}{Pr:(Nat->Option OB)->Prop}{Post Post':(Nat->Option OB)->List RT->(Nat->Option OB)->Prop}(h:ij P f args Pr Post)(hp:∀M rs N,Post M rs N->Post' M rs N):ij P f args Pr Post':=λM hM=>
 ⟨(h M hM).1,λφ w args' a b c=>((h M hM).2 φ w args' a b c).mono λe w' hq=>by
  cases e with
  |panicked c=>exact hq.elim
  |outgrown=>exact hq.elim
  |returned u=>
   obtain⟨v,Hc,σ',⟨rs,N,l,q1,q2⟩,q3⟩:=hq
   exact⟨v,Hc,σ',⟨rs,N,l,hp _ _ _ q1,q2⟩,q3⟩⟩
theorem nK{K:Nat->Nat}{l l2:List Nat}:∀{k:Nat},k<=l.length->cI K (l++l2) k=cI K l k
 |0,_=>rfl
 |k+1,h=>by
  unfold cI
  rw[nK (by omega),List.getD_eq_getElem?_getD,List.getElem?_append_left (by omega),<-List.getD_eq_getElem?_getD]
theorem nJ{cs:List In}{K:Nat->Nat}:∀R,cI K (bA cs R) (bA cs R).length=j3 K (λr=>cJ cs (r:Int)) R
 |0=>rfl
 |R+1=>by
  rw[jP]
  unfold j3
  have ih:=nJ (cs:=cs) (K:=K) R
  split
  ·rw[List.length_append,List.length_singleton]
   unfold cI
   rw[nK (Nat.le_refl _),ih,List.getD_eq_getElem?_getD,List.getElem?_append_right (Nat.le_refl _),Nat.sub_self]
   rfl
  ·exact ih
theorem iq{cs:List In}{R i:Nat}(h:i<(bA cs R).length):(bA cs R).getD i 0<R/\cJ cs (((bA cs R).getD i 0:Nat):Int)=true:=by
 rw[<-gp,List.getD_eq_getElem?_getD,List.getElem?_eq_getElem h]
 exact List.getElem_mem h
theorem u7{cs:List In}{R:Nat}{T:Int->List Int}{nb:Nat->Nat->Prop}(hT:∀a b,a<R->b<R->(((b:Nat):Int) ∈ T (a:Int)↔nb a b)){K K0:Nat->Nat}(h:zW T (bA cs R) K (bA cs R).length)(h0:rn (λr=>cJ cs (r:Int)) nb R K0):
  ∀i,i<(bA cs R).length->K ((bA cs R).getD i 0)=K0 ((bA cs R).getD i 0):=by
 intro i
 induction i using Nat.strongRecOn with
 |_ i ih=>
  intro hi
  obtain⟨m1,m2⟩:=iq hi
  refine(h i hi).uniq ((h0.yes _ m1 m2).congr (λc=>?_))
  constructor
  ·rintro ⟨s,h1,h2,h3,h4⟩
   have hm:s ∈ bA cs R:=gp.2 ⟨by omega,h2⟩
   obtain⟨j,hj,e⟩:=List.getElem_of_mem hm
   have e2:(bA cs R).getD j 0=s:=by rw[List.getD_eq_getElem?_getD,List.getElem?_eq_getElem hj,e];rfl
   have hji:j<i:=by
    rcases Nat.lt_trichotomy j i with g|g|g
    ·exact g
    ·subst g;omega
    ·have:=oO (cK cs R) g hj;omega
   exact⟨j,hji,by rw[e2];exact(hT _ _ m1 (by omega)).2 h3,by rw[ih j hji hj,e2];exact h4⟩
  ·rintro ⟨j,h1,h2,h3⟩
   have hj:j<(bA cs R).length:=by omega
   obtain⟨n1,n2⟩:=iq hj
   exact⟨_,oO (cK cs R) h1 hi,n2,(hT _ _ m1 n1).1 h2,by rw[<-ih j h1 hj];exact h3⟩
noncomputable def A6(cs:List In)(nx:Nat->List Nat)(R:Nat)(p:Int):List Int:=((List.range R).filter λq:Nat=> @decide (fQ cs nx p (q:Int)) (Classical.propDecidable _)).map λq:Nat=>(q:Int)
theorem tG{cs:List In}{nx:Nat->List Nat}{R:Nat}{p q:Int}:q ∈ A6 cs nx R p↔(0<=q/\q<(R:Int))/\fQ cs nx p q:=by
 unfold A6
 simp only[List.mem_map,List.mem_filter,List.mem_range]
 constructor
 ·rintro ⟨n,⟨h1,h2⟩,rfl⟩
  rw[@decide_eq_true_iff _ (Classical.propDecidable _)] at h2
  exact⟨by omega,h2⟩
 ·rintro ⟨h1,h2⟩
  obtain⟨n,rfl⟩:∃n:Nat,q=n:=⟨q.toNat,by omega⟩
  exact⟨n,⟨by omega,by rw[@decide_eq_true_iff _ (Classical.propDecidable _)];exact h2⟩,rfl⟩
theorem uW(cs:List In)(nx:Nat->List Nat)(R:Nat)(p:Int):(A6 cs nx R p).Nodup:=by
 unfold A6
 exact List.Pairwise.map _ (λa b h e=>h (by omega)) (List.Pairwise.filter _ List.nodup_range)
theorem A5(cs:List In)(nx:Nat->List Nat)(R:Nat)(p:Int):(A6 cs nx R p).length<=R:=by
 unfold A6
 rw[List.length_map]
 have:=List.length_filter_le (λq:Nat=> @decide (fQ cs nx p (q:Int)) (Classical.propDecidable _)) (List.range R)
 rw[List.length_range] at this
 exact this
section
variable {la:List (Bool×Int)} {R:Nat} {par:Int} {cs:List In} (hz:(dM la R par cs).2=0) (ha:eT cs)
include hz
theorem Ib:∀x ∈ cs,jE R par la.length x:=λx hx=>sk ((bX hz).ins x hx)
theorem aR:R<=1024:=by have:=(bX hz).nregs;omega
theorem OM:0<=par/\par<=1024:=by
 have h:=hz
 unfold dM bv at h
 split at h
 ·simp at h
 split at h
 ·simp at h
 split at h
 ·simp at h
 rename_i hr
 omega
theorem B8:∀x ∈ cs,0<=x.1/\x.1<39:=λx hx=>(Ib hz x hx).op
theorem j7:∀x ∈ cs,∀r ∈ aA x.1 x.2.2.1 x.2.2.2.1,0<=r/\r<(R:Int):=λx hx=>(Ib hz x hx).reads
theorem B6:∀x ∈ cs,aW x.1 x.2.1<(R:Int):=λx hx=>((Ib hz x hx).writes (by omega)).1
theorem OK:∀x ∈ cs,∀r ∈ bK x,r<(R:Int):=λx hx=>(Ib hz x hx).uses (by omega)
theorem zS:bS Try.prog 66 [.fs 5 cs.length (cC cs)] [.v (.fs 1 cs.length (gC (nxt cs (dJ cs))))]:=by
 have h:=bX hz
 obtain⟨_,hl,_,t,ht,hw,he⟩:=h.pt
 have hs:cs.length=t.size:=by rw[<-t.flat_length,<-ht,List.length_map]
 refine vA cs h.ncs (cF (cs.map bo) (cs.map bo).length 0 ⟨[],[],λ_=>[],λ_=>none⟩).pm (dJ cs) (λi hi hb=>?_) (sR cs h.ncs h.nest)
 obtain⟨g1,g2⟩:=h.pok.at_ i hi hb
 refine⟨?_,g2⟩
 rw[ht,vT t hw,if_pos ⟨by omega,by omega,by rw[Int.toNat_natCast,<-ht,dW];exact hb⟩,Int.toNat_natCast,<-he,g1]
theorem aNx:∀i,i<cs.length->∀k ∈ nxt cs (dJ cs) i,k<=cs.length:=λi hi k hk=>by
 have hp:=(bX hz).pok
 by_cases h27:bV cs i=27
 ·rw[(rP h27).1] at hk
  have:=(hp.at_ i hi (.inl h27)).2
  simp only[List.mem_cons,List.not_mem_nil,or_false] at hk
  rcases hk with rfl|rfl
  ·omega
  ·split<;>omega
 ·exact AR hi (λhb=>(hp.at_ i hi hb).2) k ((je h27).1 hk)
omit hz in
theorem OP:∀i,(nxt cs (dJ cs) i).length<=2:=λi=>by unfold nxt;(repeat' split)<;>simp
omit hz in
theorem aW1:∀i k,i<cs.length->k ∈ nxt cs (dJ cs) i->k=i->aW (cs.getD i (0,0,0,0,0)).1 (cs.getD i (0,0,0,0,0)).2.1= -1:=λi k hi hk e=>by
 by_cases hb:dQ (bV cs i)
 ·exact gb hb
 ·unfold dQ at hb
  unfold nxt at hk
  rw[if_neg (by omega),if_neg (by omega),if_neg (by omega),if_neg (by omega)] at hk
  simp at hk
  omega
include ha
theorem CH:bS Try.prog 11 [aB la.length (aC la) R par cs] [.v (.fs 1 (cs.length+1) (gC (dy cs (b6 cs (dJ cs)) R))),.v (.n .i64 0)]:=by
 have h:=bX hz
 have hn:=h.ncs
 have hA:=h.nA
 have hR:=aR hz
 have:=Bl la R par cs (by omega) ha hz (nxt cs (dJ cs)) R (by omega) (zS hz) hn (B8 hz) (aNx hz) OP (j7 hz) aW1
 rw[sb h.pok (j7 hz)] at this
 exact this
theorem s6:bS Try.prog 27 [aB la.length (aC la) R par cs] [.v (.n .i64 (dM la R par cs).1),.v (.n .i64 0)]:=by
 have h:=bX hz
 have hn:=h.ncs
 have hA:=h.nA
 have:=nN la R par cs (by omega) (by omega) ha
 rw[hz] at this
 exact this
theorem B7:bS Try.prog 39 [aB la.length (aC la) R par cs] [.v (.n .i64 (pS (la.map iY) R par (cs.map bo)).1),.v (.n .i64 0)]:=by
 have h:=bX hz
 have hn:=h.ncs
 have hA:=h.nA
 have:=ly la R par cs (by omega) (by omega) ha
 rw[hz] at this
 exact this
omit ha in
theorem OL:bS Try.prog 23 [.fs 5 cs.length (cC cs)] [.v (.fs 1 (rI cs).length (iC .i64 (rI cs))),.v (.n .i64 0),.v (.n .i64 0)]:=by
 have h:=bX hz
 obtain⟨_,hl,_,t,ht,hw,he⟩:=h.pt
 rw[he]
 exact uC cs t ht hw h.ncs
omit ha in
theorem Ia:bS Try.prog 40 [aB la.length (aC la) R par cs] [.v (.fs 1 (cs.length+1) (λi _=> .fs 1 R (bC (Hk cs (b6 cs (dJ cs)) i))))]:=by
 have h:=bX hz
 have hR:=aR hz
 exact uG la par cs R (by omega) h.ncs (rI cs) h.pok.len (dJ cs) _ _ rfl rfl (OL hz) h.pok.at_ (B8 hz) (j7 hz)
theorem Rg:bS Try.prog 12 [aB la.length (aC la) R par cs] [.v (.fs 1 (cs.length+1) (gC (dy cs (b6 cs (dJ cs)) R))),.v (.n .i64 0)]:=by
 have h:=bX hz
 have hn:=h.ncs
 have hR:=aR hz
 exact xh la.length (aC la) R par cs _ (B7 hz ha) (cs.length+1) R (by omega) (by omega) _ (Ia hz)
theorem vZ:bS Try.prog 13 [aB la.length (aC la) R par cs] [.v (.n .i64 (Cp (dy cs (b6 cs (dJ cs)) R) (cs.length+1))),.v (.n .i64 0)]:=by
 have hn:=(bX hz).ncs
 have hR:=aR hz
 exact oq la.length (aC la) R par cs _ _ (by omega) 0 (λi=>by have:=vr cs (b6 cs (dJ cs)) R i;omega) (CH hz ha)
omit ha in
theorem OO:bS Try.prog 52 [.fs 5 cs.length (cC cs)] [.v (.fs 1 (bA cs R).length (λj _=> .n .i64 (((bA cs R).getD j 0:Nat):Int)))]:=by
 have hR:=aR hz
 exact mM cs R (by omega) (bX hz).ncs (B8 hz) (OK hz) (λx hx=>by
  rw[jH]
  have:(aA x.1 x.2.2.1 x.2.2.2.1).length<=2:=by unfold aA;(repeat' split)<;>simp
  omega)
omit ha in
def mb(cs:List In)(R:Nat):List In:=cs.map (eY (sJ (λr=>cJ cs (r:Int)) R))
theorem q9:bS Try.prog 20 [aB la.length (aC la) R par cs] [.v (aB la.length (aC la) (bA cs R).length par (mb cs R)),.v (.n .i64 0)]:=by
 have h:=bX hz
 have hA:=h.nA
 have hR:=aR hz
 have hl:=lC cs R
 have:=sH la R par cs _ (by omega) h.ncs (bA cs R) (cK cs R) (by omega) (s6 hz ha) (OO hz)
 rw[o9 (Ib hz)] at this
 exact this
noncomputable def clr(cs:List In)(R:Nat):Nat->Nat:=OG (λr=>cJ cs (r:Int)) (λr s=>vx cs (b6 cs (dJ cs)) r s=true) R
noncomputable def dk(cs:List In)(R:Nat):Nat:=j3 (clr cs R) (λr=>cJ cs (r:Int)) R
omit hz ha in
theorem kT(cs:List In)(R:Nat):rn (λr=>cJ cs (r:Int)) (λr s=>vx cs (b6 cs (dJ cs)) r s=true) R (clr cs R):=yY _ _ _
omit ha in
theorem ul:ij Try.prog 42 [.fs 5 cs.length (cC cs)] (λ_=>True) (λM rs N=>∃(r1:Nat) (x:dj),rs=[.v (.cv (.map (some r1))),.v (.n .i64 (dk cs R))]/\N r1=some (.mp x)/\x.get=fi (jG (clr cs R) (bA cs R) (bA cs R).length)):=by
 have h:=bX hz
 have hR:=aR hz
 have hl:=lC cs R
 have hi:=jW cs (nxt cs (dJ cs)) R (zS hz) h.ncs (B8 hz) (aNx hz) OP (j7 hz) aW1
 have hin:=nB hi (Post':=λM rs N=>∃(r0:Nat) (pa:Int->Option Nat) (T':Int->List Int),rs=[.v (.cv (.map (some r0)))]/\f9 r0 pa T' N/\(∀p,(T' p).Nodup)/\(∀p q,q ∈ T' p↔q ∈ A6 cs (b6 cs (dJ cs)) R p)) (λM rs N ⟨r0,pa,T',e1,e2,e3,e4⟩=>⟨r0,pa,T',e1,e2,e3,λp q=>by
  rw[e4,tG,vy h.pok (j7 hz)]
  exact⟨λg=>⟨(fQ.range (j7 hz) (B6 hz) g).2,g⟩,λg=>g.2⟩⟩)
 refine nB (sI cs (A6 cs (b6 cs (dJ cs)) R) (bA cs R) (cK cs R) (by omega) (uW _ _ _) (λp=>by have:=A5 cs (b6 cs (dJ cs)) R p;omega) hin (OO hz)) (λM rs N ⟨r1,x,K,e1,e2,e3,e4⟩=>?_)
 have hu:=u7 (cs:=cs) (R:=R) (T:=A6 cs (b6 cs (dJ cs)) R) (nb:=λr s=>vx cs (b6 cs (dJ cs)) r s=true) (λa b ha hb=>by
  rw[tG,lP]
  exact⟨λg=>g.2,λg=>⟨by omega,g⟩⟩) e4 (kT cs R)
 rw[gG hu,nJ] at e1
 rw[jQ hu] at e3
 exact⟨r1,x,e1,e2,e3⟩
omit ha in
end
end Go.Proofs.Yteopfmnnhlhbmaa
namespace Go.Proofs.Yteopfmnnhlhbmaa
open Go.RowKit
noncomputable def iW(cs:List In)(R:Nat):List Int:=kL (clr cs R) R
theorem HT{cs:List In}{R v:Nat}(h:v<R):clr cs R v<R:=by
 have:=(kT cs R).le v h
 omega
theorem kU(cs:List In)(R:Nat):dk cs R<=R:=tY (λr hr=>(kT cs R).le r hr)
section
variable {la:List (Bool×Int)} {R:Nat} {par:Int} {cs:List In} (hz:(dM la R par cs).2=0) (ha:eT cs)
include hz
theorem jS:∀x ∈ cs,eI (jG (clr cs R) (bA cs R) (bA cs R).length) x=eY (iW cs R) x:=λx hx=>by
 refine lJ (Ib hz x hx) ?_ (λv h0 h1 hv=>?_)
 ·cases h:jG (clr cs R) (bA cs R) (bA cs R).length (-1) with
  |none=>rfl
  |some y=>
   obtain⟨i,_,h2,_⟩:=(jg (cK cs R) (Nat.le_refl _) _ _).1 h
   omega
 ·obtain⟨n,rfl⟩:∃n:Nat,v=n:=⟨v.toNat,by omega⟩
  have hm:n ∈ bA cs R:=gp.2 ⟨by omega,gU hx hv⟩
  obtain⟨i,hi,e⟩:=List.getElem_of_mem hm
  have e2:(bA cs R).getD i 0=n:=by rw[List.getD_eq_getElem?_getD,List.getElem?_eq_getElem hi,e];rfl
  refine(jg (cK cs R) (Nat.le_refl _) _ _).2 ⟨i,hi,by rw[e2],?_⟩
  rw[e2,Int.toNat_natCast]
  exact oH _ _ _ (by omega)
theorem Ao:∀x ∈ cs,(-1<=cX (iW cs R) x.2.1/\cX (iW cs R) x.2.1<100000)/\(-1<=cX (iW cs R) x.2.2.1/\cX (iW cs R) x.2.2.1<100000)/\(-1<=cX (iW cs R) x.2.2.2.1/\cX (iW cs R) x.2.2.2.1<100000):=λx hx=>by
 have hR:=aR hz
 have key:∀v:Int,(v= -1\/(0<=v/\v<(R:Int)/\v ∈ bK x))-> -1<=cX (iW cs R) v/\cX (iW cs R) v<100000:=λv hv=>by
  unfold cX
  rcases hv with rfl|⟨h0,h1,_⟩
  ·rw[if_pos (by decide)];omega
  ·rw[if_neg (by omega)]
   have hv:v.toNat<R:=by omega
   have e:(iW cs R).getD v.toNat 0=((clr cs R v.toNat:Nat):Int):=oH _ _ _ hv
   rw[e]
   have:=HT (cs:=cs) hv
   omega
 obtain⟨h1,h2,h3⟩:=(Ib hz x hx).regs3
 exact⟨key _ h1,key _ h2,key _ h3⟩
include ha
theorem j8{r:Nat}(hr:4<=r/\r<=1024)(hn:dk cs R<=r):bS Try.prog 17 [aB la.length (aC la) R par cs,.n .i64 r] [.v (aB la.length (aC la) (dk cs R) par (cs.map (eY (iW cs R)))),.v (.n .i64 0)]:=by
 have h:=bX hz
 have hA:=h.nA
 have:=zM la R par cs _ (by omega) h.ncs r (dk cs R) hr _ (s6 hz ha) (ul hz) hn
 rw[List.map_congr_left (jS hz)] at this
 exact this
theorem nW{r:Nat}(hr:4<=r/\r<=1024)(hn:r<dk cs R):bS Try.prog 17 [aB la.length (aC la) R par cs,.n .i64 r] (if 1024<par+(dk cs R:Int)-((r:Int)-3)\/16384<(ib (iW cs R) ((r:Int)-3) par cs).length then[.v Cb,.v (.n .i64 6)] else[.v (aB la.length (aC la) r (par+(dk cs R:Int)-((r:Int)-3)) (ib (iW cs R) ((r:Int)-3) par cs)),.v (.n .i64 0)]):=by
 have h:=bX hz
 have hA:=h.nA
 have hR:=aR hz
 have hcl:=kU cs R
 have e:n3 (jG (clr cs R) (bA cs R) (bA cs R).length) ((r:Int)-3) par cs=ib (iW cs R) ((r:Int)-3) par cs:=by
  unfold n3 ib
  rw[List.map_congr_left (λx hx=>by rw[jS hz x hx])]
 have hg:∀y ∈ cs,(-1<=fF (jG (clr cs R) (bA cs R) (bA cs R).length) y.2.1/\fF (jG (clr cs R) (bA cs R) (bA cs R).length) y.2.1<100000)/\(-1<=fF (jG (clr cs R) (bA cs R) (bA cs R).length) y.2.2.1/\fF (jG (clr cs R) (bA cs R) (bA cs R).length) y.2.2.1<100000)/\(-1<=fF (jG (clr cs R) (bA cs R) (bA cs R).length) y.2.2.2.1/\fF (jG (clr cs R) (bA cs R) (bA cs R).length) y.2.2.2.1<100000):=λy hy=>by
  have e1:=jS hz y hy
  unfold eI eY at e1
  simp only[Prod.mk.injEq,true_and] at e1
  obtain⟨e1,e2,e3,_⟩:=e1
  rw[e1,e2,e3]
  exact Ao hz y hy
 have:=zL la R par cs _ (by omega) h.ncs r (dk cs R) hr _ (s6 hz ha) (ul hz) hn (by omega) (OM hz) hg
 rw[e] at this
 exact this
end
end Go.Proofs.Yteopfmnnhlhbmaa
namespace Go.Proofs.Yteopfmnnhlhbmaa
open Go.RowKit
theorem w7{regs n:Int}{u:Bool}(h:if u=true then 0<=n/\n<regs else n= -1):¬ax regs n u=false:=by
 unfold ax
 cases u
 ·rw[if_neg (by decide)] at h ⊢
  subst h;decide
 ·rw[if_pos rfl] at h ⊢
  rw[decide_eq_true h];decide
theorem jE.chk{regs par nA:Int}{x:In}(h:jE regs par nA x):cV regs par nA (bo x)=0:=by
 obtain⟨k,hk⟩:∃k:Nat,x.1=(k:Int):=⟨x.1.toNat,by have:=h.op;omega⟩
 obtain⟨s1,s2,s3⟩:=iA k (by have:=h.op;omega)
 have e:x.1.toNat=k:=by omega
 have g1:=h.to
 have g2:=h.a
 have g3:=h.b
 unfold wM at g2
 unfold wL at g3
 rw[e,s1,<-hk] at g1
 rw[e,s2,<-hk] at g2
 rw[e,s3,<-hk] at g3
 have h1:cU (bo x).op=true:=h.isop
 have h4:¬bn nA par (bo x).op<(bo x).arg:=by
  have:(bo x).arg<=bn nA par (bo x).op:=h.arg
  omega
 unfold cV
 rw[if_neg (by rw[h1];decide),if_neg]
 rintro (h|h|h|h)
 ·exact w7 g1 h
 ·exact w7 g2 h
 ·exact w7 g3 h
 ·exact h4 h
theorem sM{la:List (Bool×Int)}{R par R2 par2:Int}{cs cs2:List In}(hz:(dM la R par cs).2=0)(hR2:0<=R2/\R2<=1024)(hp:0<=par2/\par2<=1024)(hl:cs2.length<=16384)
  (hi:∀x ∈ cs2,jE R2 par2 la.length x) (hn:dx (cs2.map (·.1)) []=some []):(dM la R2 par2 cs2).2=0:=by
 have hn2:(aQ (cs2.map bo) 0 []).2=false:=(gu _ _ _).2 (by rw[tv];exact hn)
 have hc2:bM R2 par2 ((la.map iY).length:Nat) (cs2.map bo) 0=none:=nM _ _ λi hm=>by
  obtain⟨x,hx,rfl⟩:=List.mem_map.1 hm
  rw[List.length_map]
  exact(hi x hx).chk
 unfold dM bv at hz ⊢
 split at hz
 ·simp at hz
 rename_i h8
 rw[if_neg h8]
 split at hz
 ·simp at hz
 rename_i n hn1
 split at hz
 ·simp at hz
 rename_i hr
 rw[if_neg (by omega),if_neg (by rw[List.length_map];omega),hc2]
 simp only[hn2]
 rfl
theorem oz{la:List (Bool×Int)}{R par:Int}{cs:List In}(hz:(dM la R par cs).2=0):dx (cs.map (·.1)) []=some []:=by
 have:=(gu _ _ _).1 (bX hz).nest
 rwa [tv] at this
/-! ### other names-/
theorem jE.rnm{R par nA R2:Int}{nm:List Int}{x:In}(h:jE R par nA x)(hn:∀v:Int,0<=v->v<R->v ∈ bK x->0<=cX nm v/\cX nm v<R2):jE R2 par nA (eY nm x):=by
 obtain⟨h1,h2,h3⟩:=h.regs3
 have key:∀{u:Bool} {v:Int},(if u=true then 0<=v/\v<R else v= -1)->(v= -1\/(0<=v/\v<R/\v ∈ bK x))->if u=true then 0<=cX nm v/\cX nm v<R2 else cX nm v= -1:=λ{u v} g1 g2=>by
  split at g1
  ·rename_i hu
   rw[if_pos hu]
   rcases g2 with rfl|⟨a,b,c⟩
   ·omega
   ·exact hn _ a b c
  ·rename_i hu
   rw[if_neg hu,g1]
   rfl
 exact⟨h.op,key h.to h1,key h.a h2,key h.b h3,h.arg,h.isop⟩
theorem tu(nm:List Int)(cs:List In):(cs.map (eY nm)).map (·.1)=cs.map (·.1):=by
 rw[List.map_map];rfl
theorem qV{nm:List Int}{cs:List In}(h:eT cs):eT (cs.map (eY nm)):=λx hx=>by
 obtain⟨y,hy,rfl⟩:=List.mem_map.1 hx
 exact h y hy
theorem pb{K:Nat->Nat}{occ:Nat->Bool}:∀{n v:Nat},v<n->occ v=true->K v<j3 K occ n
 |0,v,h,_=>by omega
 |n+1,v,h,ho=>by
  unfold j3
  by_cases e:v=n
  ·subst e;rw[if_pos ho];omega
  ·have:=pb (K:=K) (n:=n) (by omega) ho
   split<;>omega
theorem ua{f:Nat->Bool}:∀{n v:Nat},v<n->f v=true->gI f v<gI f n
 |0,v,h,_=>by omega
 |n+1,v,h,ho=>by
  show gI f v<gI f n+(if f n then 1 else 0)
  by_cases e:v=n
  ·subst e;rw[if_pos ho];omega
  ·have:=ua (n:=n) (by omega) ho
   omega
section
variable {la:List (Bool×Int)} {R:Nat} {par:Int} {cs:List In} (hz:(dM la R par cs).2=0)
include hz
theorem Ie:R<=1024:=by have:=(bX hz).nregs;omega
theorem ow:0<=par/\par<=1024:=OM hz
theorem BP:(dM la (dk cs R:Nat) par (cs.map (eY (iW cs R)))).2=0:=by
 have hk:=bX hz
 have hR:=Ie hz
 have hc:=kU cs R
 refine sM hz (by omega) (ow hz) (by rw[List.length_map];exact hk.ncs) (λy hy=>?_) (by rw[tu];exact oz hz)
 obtain⟨x,hx,rfl⟩:=List.mem_map.1 hy
 refine(hk.inC x hx).rnm λv h0 h1 hv=>?_
 have ho:=gU hx hv
 obtain⟨n,rfl⟩:∃n:Nat,v=n:=⟨v.toNat,by omega⟩
 have e:cX (iW cs R) (n:Int)=((clr cs R n:Nat):Int):=by
  unfold cX
  rw[if_neg (by omega),Int.toNat_natCast]
  exact oH _ _ _ (by omega)
 rw[e]
 have:clr cs R n<dk cs R:=pb (by omega) ho
 omega
omit hz in
theorem oh{v:Nat}(h:v<R):cX (sJ (λr=>cJ cs (r:Int)) R) (v:Int)=((gI (λr=>cJ cs (r:Int)) v:Nat):Int):=by
 unfold cX
 rw[if_neg (by omega),Int.toNat_natCast,qR _ _ _ h]
theorem ud:(dM la ((bA cs R).length:Nat) par (mb cs R)).2=0:=by
 have hk:=bX hz
 have hR:=Ie hz
 have hc:=lC cs R
 refine sM hz (by omega) (ow hz) (by unfold mb;rw[List.length_map];exact hk.ncs) (λy hy=>?_) (by unfold mb;rw[tu];exact oz hz)
 obtain⟨x,hx,rfl⟩:=List.mem_map.1 hy
 refine(hk.inC x hx).rnm λv h0 h1 hv=>?_
 have ho:=gU hx hv
 obtain⟨n,rfl⟩:∃n:Nat,v=n:=⟨v.toNat,by omega⟩
 rw[oh (by omega)]
 have:=ua (f:=λr=>cJ cs (r:Int)) (n:=R) (v:=n) (by omega) ho
 have e:=gH (cs:=cs) R
 omega
end
/-! ### Compact changes nothing in what it has returned-/
theorem ur{nm:List Int}{x:In}{v:Int}(h:v ∈ bK x):cX nm v ∈ bK (eY nm x):=by
 rcases dg.1 h with⟨h1,rfl⟩|⟨h1,rfl⟩|rfl
 ·exact dg.2 (.inl ⟨h1,rfl⟩)
 ·exact dg.2 (.inr (.inl ⟨h1,rfl⟩))
 ·refine dg.2 (.inr (.inr ?_))
  show cX nm (aW x.1 x.2.1)=aW x.1 (cX nm x.2.1)
  unfold aW
  split<;>rfl
theorem t6{f:Nat->Bool}:∀{n r:Nat},r<gI f n->∃v,v<n/\f v=true/\gI f v=r
 |0,r,h=>by
  have h:r<0:=h
  omega
 |n+1,r,h=>by
  have h:r<gI f n+(if f n then 1 else 0):=h
  by_cases h2:r<gI f n
  ·obtain⟨v,h3,h4⟩:=t6 h2
   exact⟨v,by omega,h4⟩
  ·cases hf:f n
   ·rw[hf] at h
    simp at h
    omega
   ·rw[hf] at h
    simp at h
    exact⟨n,by omega,hf,by omega⟩
theorem l9{f:Nat->Bool}{n:Nat}(h:∀r,r<n->f r=true):∀k,k<=n->gI f k=k
 |0,_=>rfl
 |k+1,hk=>by
  show gI f k+(if f k then 1 else 0)=k+1
  rw[l9 h k (by omega),h k (by omega)]
  rfl
section
variable {la:List (Bool×Int)} {R:Nat} {par:Int} {cs:List In} (hz:(dM la R par cs).2=0)
include hz
omit hz in
theorem tA{r:Nat}(h:r<(bA cs R).length):cJ (mb cs R) (r:Int)=true:=by
 rw[<-gH] at h
 obtain⟨v,h1,h2,h3⟩:=t6 h
 obtain⟨i,hi,hv⟩:=gq.1 h2
 have hm:cs.getD i (0,0,0,0,0) ∈ cs:=by rw[List.getD_eq_getElem?_getD,List.getElem?_eq_getElem hi];exact List.getElem_mem _
 have:=ur (nm:=sJ (λr=>cJ cs (r:Int)) R) hv
 rw[oh h1,h3] at this
 exact gU (List.mem_map.2 ⟨_,hm,rfl⟩) this
omit hz in
theorem xo:(bA (mb cs R) (bA cs R).length).length=(bA cs R).length:=by
 rw[<-gH]
 exact l9 (λr hr=>tA hr) _ (Nat.le_refl _)
theorem yZ:mb (mb cs R) (bA cs R).length=mb cs R:=by
 refine(List.map_congr_left (g:=λx=>x) λy hy=>?_).trans (List.map_id' _)
 have hin:=(bX (ud hz)).inC y hy
 obtain⟨h1,h2,h3⟩:=hin.regs3
 have key:∀v:Int,(v= -1\/(0<=v/\v<(((bA cs R).length:Nat):Int)/\v ∈ bK y))->cX (sJ (λr=>cJ (mb cs R) (r:Int)) (bA cs R).length) v=v:=λv hv=>by
  rcases hv with rfl|⟨a,b,_⟩
  ·rfl
  ·obtain⟨n,rfl⟩:∃n:Nat,v=n:=⟨v.toNat,by omega⟩
   rw[oh (by omega),l9 (λr hr=>tA hr) n (by omega)]
 obtain⟨op,to,a,b,arg⟩:=y
 unfold eY
 simp only at h1 h2 h3 ⊢
 rw[key _ h1,key _ h2,key _ h3]
end
/-! ### spilled code-/
theorem uB(nm:List Int)(kept first:Int)(x:In)(cs:List In):ib nm kept first (x::cs)=rD kept first (eY nm x)++ib nm kept first cs:=rfl
theorem xD(kept first q c:Int)(o:List NB):dx ((ip kept first q c).map (·.1)) o=some o:=by
 unfold ip
 split
 ·show(aq 38 o).bind (dx [])=some o
  rw[nG ⟨by decide,by decide,by decide,by decide,by decide⟩];rfl
 ·rfl
theorem xC(kept first c:Int)(o:List NB):dx ((wh kept first c).map (·.1)) o=some o:=by
 unfold wh
 split
 ·show(aq 37 o).bind (dx [])=some o
  rw[nG ⟨by decide,by decide,by decide,by decide,by decide⟩];rfl
 ·rfl
theorem xF(op:Int)(o:List NB):dx [op] o=aq op o:=by
 show(aq op o).bind (λo=>some o)=_
 cases aq op o<;>rfl
theorem qe(nm:List Int)(kept first:Int):∀(cs:List In) (o:List NB),dx ((ib nm kept first cs).map (·.1)) o=dx (cs.map (·.1)) o
 |[],o=>rfl
 |x::cs,o=>by
  rw[uB]
  unfold rD
  simp only[List.map_append,np,xD,Option.bind_some]
  rw[show List.map (λx:In=>x.1) [OV kept (eY nm x)]=[x.1] from rfl,xF,List.map_cons,dx]
  cases aq x.1 o with
  |none=>rfl
  |some o2=>
   simp only[Option.bind_some,xC]
   exact qe nm kept first cs o2
theorem uZ{nA par par2 op:Int}(h:par<=par2):bn nA par op<=bn nA par2 op:=by
 unfold bn
 repeat' split
 all_goals omega
theorem ug{kept first c:Int}(h0:0<=first+c-kept)(h1:first+c-kept<100000):fU kept first c=first+c-kept:=tc (by omega)
theorem G4(nA p:Int):bn nA p 38=p-1:=by
 unfold bn
 rw[if_neg (by decide),if_neg (by decide),if_neg (by decide),if_neg (by decide),if_pos (by decide)]
theorem G5(nA p:Int):bn nA p 37=p-1:=by
 unfold bn
 rw[if_neg (by decide),if_neg (by decide),if_neg (by decide),if_neg (by decide),if_pos (by decide)]
theorem tN{nA par q c:Int}{r n:Nat}(hr:4<=r/\r<=1024)(hq:0<=q/\q<=2)(hcn:c<(n:Int))(hp:0<=par)(h2:par+n-(r-3)<=1024):
  ∀y ∈ ip ((r:Int)-3) par q c,jE r (par+n-(r-3)) nA y/\(0<=y.2.2.2.2/\y.2.2.2.2<4294967296):=by
 intro y hy
 unfold ip at hy
 split at hy
 ·rename_i hk
  obtain rfl:=List.mem_singleton.1 hy
  have hc:=ug (kept:=(r:Int)-3) (first:=par) (c:=c) (by omega) (by omega)
  refine⟨⟨(by decide:(0:Int)<=38/\(38:Int)<39),?_,?_,?_,?_,(by decide:cU 38=true)⟩,?_⟩
  ·show if(b7 38).getD 1 false=true then 0<=(r:Int)-3+q/\(r:Int)-3+q<(r:Int) else(r:Int)-3+q= -1
   rw[if_pos (by decide)];omega
  ·show if wM 38=true then _ else _
   rw[if_neg (by decide)]
  ·show if wL 38=true then _ else _
   rw[if_neg (by decide)]
  ·show fU _ _ _<=bn _ _ 38
   rw[G4,hc];omega
  ·simp only;rw[hc];omega
 ·cases hy
theorem Br{nA par c:Int}{r n:Nat}(hr:4<=r/\r<=1024)(hcn:c<(n:Int))(hp:0<=par)(h2:par+n-(r-3)<=1024):
  ∀y ∈ wh ((r:Int)-3) par c,jE r (par+n-(r-3)) nA y/\(0<=y.2.2.2.2/\y.2.2.2.2<4294967296):=by
 intro y hy
 unfold wh at hy
 split at hy
 ·rename_i hk
  obtain rfl:=List.mem_singleton.1 hy
  have hc:=ug (kept:=(r:Int)-3) (first:=par) (c:=c) (by omega) (by omega)
  refine⟨⟨(by decide:(0:Int)<=37/\(37:Int)<39),?_,?_,?_,?_,(by decide:cU 37=true)⟩,?_⟩
  ·show if(b7 37).getD 1 false=true then _ else _
   rw[if_neg (by decide)]
  ·show if wM 37=true then _ else _
   rw[if_pos (by decide)];simp only;omega
  ·show if wL 37=true then _ else _
   rw[if_neg (by decide)]
  ·show fU _ _ _<=bn _ _ 37
   rw[G5,hc];omega
  ·simp only;rw[hc];omega
 ·cases hy
theorem Bq{R par nA:Int}{nm:List Int}{x:In}{r:Nat}{n:Nat}(h:jE R par nA x)(hr:4<=r/\r<=1024)(hn:∀v:Int,0<=v->v<R->v ∈ bK x->0<=cX nm v/\cX nm v<(n:Int))(hp:0<=par)(hc:(r:Int)<n)(h2:par+n-(r-3)<=1024)
  (hx2:0<=x.2.2.2.2/\x.2.2.2.2<4294967296):∀y ∈ rD ((r:Int)-3) par (eY nm x),jE r (par+n-(r-3)) nA y/\(0<=y.2.2.2.2/\y.2.2.2.2<4294967296):=by
 have hx:=h.rnm (R2:=n) hn
 have hza:(eY nm x).2.2.2.2=x.2.2.2.2:=rfl
 rw[<-hza] at hx2
 generalize eY nm x=z at hx hx2
 have b1:z.2.1<(n:Int):=by rcases hx.regs3.1 with h|h<;>omega
 have b2:z.2.2.1<(n:Int):=by rcases hx.regs3.2.1 with h|h<;>omega
 have b3:z.2.2.2.1<(n:Int):=by rcases hx.regs3.2.2 with h|h<;>omega
 intro y hy
 unfold rD at hy
 rcases List.mem_append.1 hy with hy|hy
 ·rcases List.mem_append.1 hy with hy|hy
  ·exact tN hr (by omega) b2 hp h2 y hy
  ·exact tN hr (by omega) b3 hp h2 y hy
 rcases List.mem_append.1 hy with hy|hy
 ·obtain rfl:=List.mem_singleton.1 hy
  have key:∀{u:Bool} {v q:Int},0<=q/\q<=2->(if u=true then 0<=v/\v<(n:Int) else v= -1)->if u=true then 0<=iV ((r:Int)-3) q v/\iV ((r:Int)-3) q v<(r:Int) else iV ((r:Int)-3) q v= -1:=λ{u v q} hq g=>by
   split at g
   ·rename_i hu
    rw[if_pos hu]
    unfold iV
    split<;>omega
   ·rename_i hu
    rw[if_neg hu,g]
    unfold iV
    rw[if_neg (by omega)]
  have ham:z.2.2.2.2<=bn nA par z.1:=hx.arg
  have hmo:=uZ (nA:=nA) (par:=par) (par2:=par+n-(r-3)) (op:=z.1) (by omega)
  exact⟨⟨hx.op,key (by omega) hx.to,key (by omega) hx.a,key (by omega) hx.b,(by omega:z.2.2.2.2<=bn nA (par+n-(r-3)) z.1),hx.isop⟩,hx2⟩
 ·exact Br hr b1 hp h2 y hy
section
variable {la:List (Bool×Int)} {R:Nat} {par:Int} {cs:List In} (hz:(dM la R par cs).2=0) (ha:eT cs)
include hz
omit hz in
theorem A2{x:In}(hx:x ∈ cs):∀v:Int,0<=v->v<(R:Int)->v ∈ bK x->0<=cX (iW cs R) v/\cX (iW cs R) v<((dk cs R:Nat):Int):=λv h0 h1 hv=>by
 have ho:=gU hx hv
 obtain⟨n,rfl⟩:∃n:Nat,v=n:=⟨v.toNat,by omega⟩
 have e:cX (iW cs R) (n:Int)=((clr cs R n:Nat):Int):=by
  unfold cX
  rw[if_neg (by omega),Int.toNat_natCast]
  exact oH _ _ _ (by omega)
 rw[e]
 have:clr cs R n<dk cs R:=pb (by omega) ho
 omega
include ha
theorem wQ{r:Nat}(hr:4<=r/\r<=1024)(hn:r<dk cs R)(h2:par+(dk cs R:Int)-((r:Int)-3)<=1024):
  ∀y ∈ ib (iW cs R) ((r:Int)-3) par cs,jE r (par+(dk cs R:Int)-((r:Int)-3)) la.length y/\(0<=y.2.2.2.2/\y.2.2.2.2<4294967296):=λy hy=>by
 unfold ib at hy
 obtain⟨l,hl,hyl⟩:=List.mem_flatten.1 hy
 obtain⟨x,hx,rfl⟩:=List.mem_map.1 hl
 exact Bq ((bX hz).inC x hx) hr (A2 hx) (ow hz).1 (by omega) h2 (ha x hx) y hyl
theorem BO{r:Nat}(hr:4<=r/\r<=1024)(hn:r<dk cs R)(h2:par+(dk cs R:Int)-((r:Int)-3)<=1024)(hl:(ib (iW cs R) ((r:Int)-3) par cs).length<=16384):
  (dM la r (par+(dk cs R:Int)-((r:Int)-3)) (ib (iW cs R) ((r:Int)-3) par cs)).2=0:=
 sM hz (by omega) (by have:=(ow hz).1;omega) hl (λy hy=>(wQ hz ha hr hn h2 y hy).1) (by rw[qe];exact oz hz)
theorem zE{r:Nat}(hr:4<=r/\r<=1024)(hn:r<dk cs R)(h2:par+(dk cs R:Int)-((r:Int)-3)<=1024):eT (ib (iW cs R) ((r:Int)-3) par cs):=λy hy=>(wQ hz ha hr hn h2 y hy).2
end
end Go.Proofs.Yteopfmnnhlhbmaa
namespace Go.Proofs.Yteopfmnnhlhbmaa
open Go.RowKit
def wm:List In->Int->Bool
 |[],_=>false
 |x::l,r=>(aA x.1 x.2.2.1 x.2.2.2.1).contains r||(!decide (r=aW x.1 x.2.1)&&wm l r)
def lX(cs:List In):Bool:=cs.all λx=>decide (¬dQ x.1)
theorem BA{cs:List In}(h:lX cs=true){i:Nat}(hi:i<cs.length):¬dQ (bV cs i):=by
 have:=List.all_eq_true.1 h (cs.getD i (0,0,0,0,0)) (by rw[List.getD_eq_getElem?_getD,List.getElem?_eq_getElem hi];exact List.getElem_mem hi)
 exact of_decide_eq_true this
theorem tT{cs:List In}(h:lX cs=true)(pt:Nat->Nat){i:Nat}(hi:i<cs.length):b6 cs pt i=[i+1]:=by
 have:=BA h hi
 unfold dQ at this
 unfold b6
 rw[if_neg (by omega),if_neg (by omega),if_neg (by omega)]
theorem r9{cs:List In}{nx:Nat->List Nat}(hnx:∀i,i<cs.length->nx i=[i+1]){i:Nat}{r:Int}:bt cs nx i r↔wm (cs.drop i) r=true:=by
 constructor
 ·intro h
  induction h with
  |@read i r hi h=>
   rw[List.drop_eq_getElem_cons hi]
   have e:cs.getD i (0,0,0,0,0)=cs[i]:=by rw[List.getD_eq_getElem?_getD,List.getElem?_eq_getElem hi];rfl
   rw[e] at h
   unfold wm
   rw[List.contains_iff_mem.2 h];rfl
  |@flow i k r hi hk h hw ih=>
   rw[hnx i hi] at hk
   simp at hk
   subst hk
   rw[List.drop_eq_getElem_cons hi]
   have e:cs.getD i (0,0,0,0,0)=cs[i]:=by rw[List.getD_eq_getElem?_getD,List.getElem?_eq_getElem hi];rfl
   rw[e] at hw
   unfold wm
   rw[ih,decide_eq_false hw]
   simp
 ·intro h
  by_cases hi:i<cs.length
  ·have e:cs.getD i (0,0,0,0,0)=cs[i]:=by rw[List.getD_eq_getElem?_getD,List.getElem?_eq_getElem hi];rfl
   have ih:wm (cs.drop (i+1)) r=true->bt cs nx (i+1) r:=λh=>(r9 hnx).2 h
   rw[List.drop_eq_getElem_cons hi] at h
   unfold wm at h
   simp only[Bool.or_eq_true,Bool.and_eq_true,Bool.not_eq_true',decide_eq_false_iff_not] at h
   rcases h with h|⟨h1,h2⟩
   ·exact .read hi (by rw[e];exact List.contains_iff_mem.1 h)
   ·exact .flow hi (by rw[hnx i hi];simp) (ih h2) (by rw[e];exact h1)
  ·rw[List.drop_eq_nil_of_le (by omega)] at h
   cases h
termination_by cs.length-i
decreasing_by omega
theorem Bm{cs:List In}{nx:Nat->List Nat}(hnx:∀i,i<cs.length->nx i=[i+1])(R i:Nat):dy cs nx R i=(List.range R).filter λr:Nat=>wm (cs.drop i) (r:Int):=by
 unfold dy
 congr 1
 funext r
 rw[Bool.eq_iff_iff,@decide_eq_true_iff _ (Classical.propDecidable _)]
 exact r9 hnx
def OY(cs:List In)(p q:Int):Bool:=(!decide (p=q)&&(wm cs p&&wm cs q))||(List.range cs.length).any λi=>decide (0<=rx cs i)&&((decide (p=rx cs i)&&(!decide (q=p)&&wm (cs.drop (i+1)) q))||(decide (q=rx cs i)&&(!decide (p=q)&&wm (cs.drop (i+1)) p)))
theorem yf{cs:List In}{nx:Nat->List Nat}(hnx:∀i,i<cs.length->nx i=[i+1]){p q:Int}:fQ cs nx p q↔OY cs p q=true:=by
 unfold fQ OY
 simp only[Bool.or_eq_true,Bool.and_eq_true,Bool.not_eq_true',decide_eq_false_iff_not,decide_eq_true_eq,List.any_eq_true,List.mem_range,r9 hnx,List.drop_zero]
 constructor
 ·rintro (h|⟨i,k,h1,h2,h3,h4⟩)
  ·exact .inl h
  ·rw[hnx i h1] at h2
   simp at h2
   subst h2
   exact .inr ⟨i,h1,h3,h4⟩
 ·rintro (h|⟨i,h1,h3,h4⟩)
  ·exact .inl h
  ·exact .inr ⟨i,i+1,h1,by rw[hnx i h1];simp,h3,h4⟩
def A9(l:List Nat):Nat:=((List.range (l.length+1)).find? λc=> !l.contains c).getD 0
def iM(cs:List In):Nat->List Nat
 |0=>[]
 |r+1=>iM cs r++[if cJ cs (r:Int)=true then A9 (((List.range r).filter λs:Nat=>cJ cs (s:Int)&&OY cs (r:Int) (s:Int)).map λs=>(iM cs r).getD s 0) else 0]
theorem jx(cs:List In):∀n,(iM cs n).length=n
 |0=>rfl
 |n+1=>by unfold iM;rw[List.length_append,List.length_singleton,jx cs n]
theorem jy(cs:List In):∀(n r:Nat),r<n->(iM cs n).getD r 0=(iM cs (r+1)).getD r 0
 |0,r,h=>by omega
 |n+1,r,h=>by
  by_cases e:r=n
  ·subst e;rfl
  ·conv=>lhs;unfold iM
   rw[List.getD_eq_getElem?_getD,List.getElem?_append_left (by rw[jx];omega),<-List.getD_eq_getElem?_getD]
   exact jy cs n r (by omega)
theorem xM(l:List Nat):ee (λc=>c ∈ l) (A9 l):=by
 unfold A9
 cases h:(List.range (l.length+1)).find? (λc=> !l.contains c) with
 |none=>
  exfalso
  have h1:=List.find?_eq_none.1 h
  have:=fA (l:=List.range (l.length+1)) (l':=l) List.nodup_range (λc hc=>by
   have:=h1 c hc
   simpa using this)
  rw[List.length_range] at this
  omega
 |some c=>
  rw[Option.getD_some]
  obtain⟨h1,l1,l2,h2,h3⟩:=List.find?_eq_some_iff_append.1 h
  refine⟨by simpa using h1,λc' hc'=>?_⟩
  have hlen:l1.length=c:=by
   have e1:(List.range (l.length+1))[l1.length]? =some c:=by rw[h2,List.getElem?_append_right (Nat.le_refl _),Nat.sub_self];rfl
   obtain⟨q1,q2⟩:=List.getElem?_eq_some_iff.1 e1
   rw[List.getElem_range] at q2
   exact q2
  have hm:c' ∈ l1:=by
   have e1:(List.range (l.length+1))[c']? =some c':=List.getElem?_range (by
    have:=congrArg List.length h2
    simp at this
    omega)
   rw[h2,List.getElem?_append_left (by omega)] at e1
   exact List.mem_of_getElem? e1
  have:=h3 c' hm
  simpa using this
theorem yX(cs:List In){nx:Nat->List Nat}(hnx:∀i,i<cs.length->nx i=[i+1])(n:Nat):rn (λr=>cJ cs (r:Int)) (λr s=>vx cs nx r s=true) n (λr=>(iM cs n).getD r 0):=by
 have key:∀r,r<n->(iM cs n).getD r 0=if cJ cs (r:Int)=true then A9 (((List.range r).filter λs:Nat=>cJ cs (s:Int)&&OY cs (r:Int) (s:Int)).map λs=>(iM cs n).getD s 0) else 0:=λr hr=>by
  rw[jy cs n r hr]
  conv=>lhs;unfold iM
  rw[List.getD_eq_getElem?_getD,List.getElem?_append_right (by rw[jx];exact Nat.le_refl _),jx,Nat.sub_self,List.getElem?_cons_zero,Option.getD_some]
  split
  ·congr 1
   refine List.map_congr_left (λs hs=>?_)
   have hs:=List.mem_range.1 (List.mem_filter.1 hs).1
   rw[jy cs n s (by omega),jy cs r s hs]
  ·rfl
 refine⟨λr hr ho=>?_,λr hr ho=>?_⟩
 ·have e:=key r hr
  rw[if_pos ho] at e
  show ee _ ((iM cs n).getD r 0)
  rw[e]
  refine(xM _).congr (λc=>?_)
  simp only[List.mem_map,List.mem_filter,List.mem_range,Bool.and_eq_true]
  constructor
  ·rintro ⟨s,⟨h1,h2,h3⟩,h4⟩
   exact⟨s,h1,h2,lP.2 ((yf hnx).2 h3),h4⟩
  ·rintro ⟨s,h1,h2,h3,h4⟩
   exact⟨s,⟨h1,h2,(yf hnx).1 (lP.1 h3)⟩,h4⟩
 ·have e:=key r hr
  rw[if_neg (by show ¬_;rw[show cJ cs (r:Int)=false from ho];decide)] at e
  exact e
theorem CA{cs:List In}(h:lX cs=true)(R:Nat):∀r,r<R->clr cs R r=(iM cs R).getD r 0:=
 (kT cs R).uniq (yX cs (λi hi=>tT h _ hi) R) (λ_ _=>Iff.rfl)
theorem Ct{cs:List In}(h:lX cs=true)(R:Nat):iW cs R=(List.range R).map λr=>(((iM cs R).getD r 0:Nat):Int):=by
 unfold iW kL
 exact List.map_congr_left (λr hr=>by rw[CA h R r (List.mem_range.1 hr)])
theorem y8{cs:List In}(h:lX cs=true)(R:Nat):dk cs R=j3 (λr=>(iM cs R).getD r 0) (λr=>cJ cs (r:Int)) R:=l7 (CA h R)
theorem ntG(l:List Nat)(i j:Nat):eZ l i j= .n .i64 ((l.getD i 0:Nat):Int):=rfl
theorem vN(l:List Nat)(hl:l.length<=100000):bS Try.prog 16 [.fs 1 l.length (eZ l),.fs 1 l.length (eZ l)] [.v (.b true)]:=by
 have hadd:∀j:Nat,j<200000->IntKind.wrap .i64 ((j:Int)+1)=((j+1:Nat):Int):=λj hj=>by rw[aX (by omega)];omega
 have hll:decide ((l.length:Int)=(l.length:Int))=true:=decide_eq_true rfl
 refine aN bh Jr ⟨by simp,by decide⟩ ?_
 simp only[bN]
 repeat first|with_reducible refine am ?_|simp only[hll,decide_true,go_sem,simprocAttr]
 refine GA.loop (I:=λmm e H=>∃(k:Nat),mm=l.length-k/\k<=l.length/\e=aF [(0,.fs 1 l.length (eZ l)),(1,.fs 1 l.length (eZ l)),(12,.n .i64 l.length),(13,.n .i64 k)]/\H=ba []) (Wk.mk [] [] ?_ ?_ ?_) ⟨0,rfl,Nat.zero_le _,rfl,rfl⟩ ?_
 ·simp only[bj,bc,go_sem,simprocAttr]
  repeat' refine ab ?_ ?_
  all_goals first|exact bw|skip
 ·exact .nil
 ·simp
 rintro mm e H ⟨k,rfl,hk,rfl,rfl⟩
 repeat first|with_reducible refine am ?_|simp only[go_sem,simprocAttr]
 refine⟨λh=>?_,λh=>?_⟩
 ·have hkl:k<l.length:=by omega
  have hk0:(0:Int)<=(k:Int):=by omega
  have ha:=hadd k (by omega)
  have hg:=ntG l k 0
  have hvv:decide (((l.getD k 0:Nat):Int)=((l.getD k 0:Nat):Int))=true:=decide_eq_true rfl
  repeat first|with_reducible refine am ?_|simp only[hk0,h,hg,hvv,ha,decide_true,go_sem,simprocAttr]
  refine⟨_,_,_,?_,Wk.mk [] [] ?_ ?_ ?_,k+1,rfl,by omega,rfl,rfl⟩
  ·omega
  ·simp only[bj,bc,go_sem,simprocAttr]
   repeat' refine ab ?_ ?_
   all_goals first|exact bw|skip
  ·exact .nil
  ·simp
 ·repeat first|with_reducible refine am ?_|simp only[go_sem,simprocAttr]
  exact⟨[_],rfl,ea.v rfl rfl .nil⟩
theorem mV(n:Nat)(hn:n<=100000)(L:Nat->List Nat)(hL:∀i,(L i).length<=100000):bS Try.prog 15 [.fs 1 n (gC L),.fs 1 n (gC L),.f 16 [] []] [.v (.b true)]:=by
 have hadd:∀j:Nat,j<200000->IntKind.wrap .i64 ((j:Int)+1)=((j+1:Nat):Int):=λj hj=>by rw[aX (by omega)];omega
 have hll:decide ((n:Int)=(n:Int))=true:=decide_eq_true rfl
 refine aN bh JD ⟨by simp,by decide⟩ ?_
 simp only[bN]
 repeat first|with_reducible refine am ?_|simp only[hll,decide_true,go_sem,simprocAttr]
 refine GA.loop (I:=λmm e H=>∃(k:Nat),mm=n-k/\k<=n/\e=aF [(1,.fs 1 n (gC L)),(2,.f 16 [] []),(15,.fs 1 n (gC L)),(16,.n .i64 n),(17,.n .i64 k)]/\H=ba []) (Wk.mk [] [] ?_ ?_ ?_) ⟨0,rfl,Nat.zero_le _,rfl,rfl⟩ ?_
 ·simp only[bj,bc,go_sem,simprocAttr]
  repeat' refine ab ?_ ?_
  all_goals first|exact bw|skip
 ·exact .nil
 ·simp
 rintro mm e H ⟨k,rfl,hk,rfl,rfl⟩
 repeat first|with_reducible refine am ?_|simp only[go_sem,simprocAttr]
 refine⟨λh=>?_,λh=>?_⟩
 ·have hkl:k<n:=by omega
  have hk0:(0:Int)<=(k:Int):=by omega
  have ha:=hadd k (by omega)
  have hg:gC L k 0= .fs 1 (L k).length (eZ (L k)):=rfl
  repeat first|with_reducible refine am ?_|simp only[hk0,h,hg,decide_true,go_sem,simprocAttr]
  refine Ht (vN (L k) (hL k)) ?_
  repeat first|with_reducible refine am ?_|simp only[ha,go_sem,simprocAttr]
  refine⟨_,_,_,?_,Wk.mk [] [] ?_ ?_ ?_,k+1,rfl,by omega,rfl,rfl⟩
  ·omega
  ·simp only[bj,bc,go_sem,simprocAttr]
   repeat' refine ab ?_ ?_
   all_goals first|exact bw|skip
  ·exact .nil
  ·simp
 ·repeat first|with_reducible refine am ?_|simp only[go_sem,simprocAttr]
  exact⟨[_],rfl,ea.v rfl rfl .nil⟩
def dV(k:Nat):In:=(0,(k:Int),-1,-1,((k+5:Nat):Int))
def fo(k:Nat):In:=(34,-1,(k:Int),-1,0)
theorem ja(k:Nat)(hk:k<=1000):bS Try.prog 34 [.n .i64 k] [.v (iI (dV k))]:=by
 have h1:IntKind.wrap .i64 ((k:Int)+5)=((k+5:Nat):Int):=by rw[aX (by omega)];omega
 have h2:IntKind.wrap .u32 (((k+5:Nat)):Int)=((k+5:Nat):Int):=tc (by omega)
 refine aN bh JX ⟨by simp,by decide⟩ ?_
 simp only[bN]
 repeat first|with_reducible refine am ?_|simp only[h1,h2,go_sem,simprocAttr]
 exact⟨[_],rfl,ea.v rfl rfl .nil⟩
theorem qK(k:Nat):bS Try.prog 35 [.n .i64 k] [.v (iI (fo k))]:=by
 refine aN bh JU ⟨by simp,by decide⟩ ?_
 simp only[bN]
 repeat first|with_reducible refine am ?_|simp only[go_sem,simprocAttr]
 exact⟨[_],rfl,ea.v rfl rfl .nil⟩
def pA:List In:=[dV 0,dV 1,(8,2,0,1,0),fo 2]
def oV:List In:=[dV 0,dV 1,dV 2,dV 3,dV 4,fo 0,fo 1,fo 2,fo 3,fo 4]
def Rf(i:Nat):List Nat:=(List.range 3).filter λr:Nat=>wm (pA.drop i) (r:Int)
theorem lZ:lX pA=true:=by rfl
theorem qG:lX oV=true:=by rfl
theorem sB:(dM [] ((3:Nat):Int) 0 pA).2=0:=by rfl
theorem HJ:(dM [] ((5:Nat):Int) 0 oV).2=0:=by rfl
theorem oX:eT pA:=by
 intro x hx
 simp only[pA,dV,fo,List.mem_cons,List.not_mem_nil,or_false] at hx
 rcases hx with rfl|rfl|rfl|rfl<;>simp
theorem BE:eT oV:=by
 intro x hx
 simp only[oV,dV,fo,List.mem_cons,List.not_mem_nil,or_false] at hx
 rcases hx with rfl|rfl|rfl|rfl|rfl|rfl|rfl|rfl|rfl|rfl<;>simp
theorem qH:dy pA (b6 pA (dJ pA)) 3=Rf:=by
 funext i
 exact Bm (λj hj=>tT lZ _ hj) 3 i
theorem HH:bS Try.prog 11 [aB 0 (aC []) 3 0 pA] [.v (.fs 1 5 (gC Rf)),.v (.n .i64 0)]:=by
 have:=CH (la:=[]) (R:=3) (par:=0) (cs:=pA) sB oX
 rw[qH] at this
 exact this
theorem sx:bS Try.prog 13 [aB 0 (aC []) 3 0 pA] [.v (.n .i64 2),.v (.n .i64 0)]:=by
 have:=vZ (la:=[]) (R:=3) (par:=0) (cs:=pA) sB oX
 rw[qH] at this
 exact this
theorem oW:dk pA 3=2/\iW pA 3=[0,1,0]:=by
 rw[y8 lZ,Ct lZ]
 exact⟨by rfl,by rfl⟩
theorem oU:dk oV 5=5/\iW oV 5=[0,1,2,3,4]:=by
 rw[y8 qG,Ct qG]
 exact⟨by rfl,by rfl⟩
def HK:List In:=[dV 0,dV 1,(8,0,0,1,0),fo 0]
theorem yF:bS Try.prog 17 [aB 0 (aC []) 3 0 pA,.n .i64 4] [.v (aB 0 (aC []) 2 0 HK),.v (.n .i64 0)]:=by
 have:=j8 (la:=[]) (R:=3) (par:=0) (cs:=pA) sB oX (r:=4) (by omega) (by rw[oW.1];omega)
 rw[oW.1,oW.2] at this
 exact this
def sA:List In:=ib [0,1,2,3,4] 1 0 oV
theorem qF:bS Try.prog 17 [aB 0 (aC []) 5 0 oV,.n .i64 4] [.v (aB 0 (aC []) 4 4 sA),.v (.n .i64 0)]:=by
 have:=nW (la:=[]) (R:=5) (par:=0) (cs:=oV) HJ BE (r:=4) (by omega) (by rw[oU.1];omega)
 rw[oU.1,oU.2] at this
 exact this
def yE(k:Nat):List In:=oV.take k
theorem qE(k:Nat)(hk:k<10):yE (k+1)=yE k++[oV.getD k (0,0,0,0,0)]:=by
 unfold yE
 rw[List.take_add_one,List.getD_eq_getElem?_getD,List.getElem?_eq_getElem (show k<oV.length from hk)]
 rfl
theorem oT(k:Nat)(hk:k<=10):(yE k).length=k:=by
 unfold yE
 rw[List.length_take]
 exact Nat.min_eq_left hk
theorem sD{M:List Nat}{H:AH}{b:Nat}{x:AB}(hm:b ∈ M)(hx:H.at b=some x)(hs:x.size=20)(hg:∀i j,i<4->j<5->x.get (0+i*5+j)=cC pA i j):Cv M H (.agg [.sl0,.n .i64 3,.n .i64 0,.sl b 0 4 4]) (aB 0 (aC []) 3 0 pA):=by
 refine .agg rfl λi v v' h1 h2=>?_
 match i,h1,h2 with
 |0,h1,h2=>cases h1;cases h2;exact .sl0 _ _
 |1,h1,h2=>cases h1;cases h2;exact .rfl rfl
 |2,h1,h2=>cases h1;cases h2;exact .rfl rfl
 |3,h1,h2=>cases h1;cases h2;exact .sl (x:=x) hm hx (by rw[hs];decide) (by decide) (by rw[hs];decide) hg (λi j _ hj=>ch i hj)
 |i+4,h1,h2=>cases h1
theorem HQ{M:List Nat}{H:AH}:Cv M H (.agg [.sl0,.n .i64 5,.n .i64 0,.fs 5 10 (cC oV)]) (.agg [.fs 2 0 (aC []),.n .i64 5,.n .i64 0,.fs 5 10 (cC oV)]):=by
 refine .agg rfl λi v v' h1 h2=>?_
 match i,h1,h2 with
 |0,h1,h2=>cases h1;cases h2;exact .sl0 _ _
 |1,h1,h2=>cases h1;cases h2;exact .rfl rfl
 |2,h1,h2=>cases h1;cases h2;exact .rfl rfl
 |3,h1,h2=>cases h1;cases h2;exact .rfl rfl
 |i+4,h1,h2=>cases h1
theorem H5:GA Try.prog 126 (aK Try.prog 10) (.seq (.reg Cm) (.seq (.seq (.reg Cl) (.block 0 wA)) (.seq (.seq (.reg ww) (.block 2 wy)) (.seq (.reg wv) (.seq (.mix wx) .ret))))) (aF []) (ba []) (jw [.mv (.t 0)] λv H=>∃l,v=bG l/\ea [.v (.b true)] l H):=by
 have h4:=qF
 have hadd:∀j:Nat,j<200000->IntKind.wrap .i64 ((j:Int)+1)=((j+1:Nat):Int):=λj hj=>by rw[aX (by omega)];omega
 have sl:∀k:Nat,k<10->(k+1)*5<1099511627776/\(k+1)*40<=140737488355328/\k<=9223372036854775806:=λk h=>by omega
 have cD:∀k i j,i<k->k<10->cC (yE (k+1)) i j=cC (yE k) i j:=λk i j hi hk=>by
  unfold cC
  rw[qE k hk,List.getD_eq_getElem?_getD,List.getD_eq_getElem?_getD,List.getElem?_append_left (by rw[oT k (by omega)];exact hi),<-List.getD_eq_getElem?_getD]
 have cE:∀k j,k<10->cC (yE (k+1)) k j=cC oV k j:=λk j hk=>by
  unfold cC
  rw[qE k hk,List.getD_eq_getElem?_getD,List.getElem?_append_right (by rw[oT k (by omega)];exact Nat.le_refl _),oT k (by omega),Nat.sub_self]
  rfl
 have dP:∀k,k<5->oV.getD k (0,0,0,0,0)=dV k:=λk hk=>by
  rcases(by omega:k=0\/k=1\/k=2\/k=3\/k=4) with rfl|rfl|rfl|rfl|rfl<;>rfl
 have dE:∀k,k<5->oV.getD (5+k) (0,0,0,0,0)=fo k:=λk hk=>by
  rcases(by omega:k=0\/k=1\/k=2\/k=3\/k=4) with rfl|rfl|rfl|rfl|rfl<;>rfl
 (try simp only[go_sem,simprocAttr])
 iterate 3 (with_reducible refine GA.go bh rfl ?_;try simp only[go_sem,simprocAttr])
 refine GA.wk (Wk.mk (L:=[(8,.p 0 0)]) (bl:=[bf 0 25 [.sl0,.n .i64 5,.n .i64 0,.sl0]]) [0] [] ?_ ?_ ?_) ?_
 ·simp only[bj,bc,go_sem,simprocAttr]
  repeat' refine ab ?_ ?_
  all_goals first|exact bw|skip
 ·exact .cons rfl (.lstw (x:=_) (by simp only[go_sem,simprocAttr]<;>rfl) (by rfl) (by rfl) (by rfl) (by rfl) (by rfl) (by rfl) (by simp) (λi hi=>(by rcases jl hi with rfl|rfl|rfl|rfl<;>(simp only[go_sem,simprocAttr];first|exact Wv.same rfl|exact Wv.os rfl)))) .nil
 ·simp
 refine GA.wk (Wk.nilb 0 3 5 60 (x:=bf 0 25 [.sl0,.n .i64 5,.n .i64 0,.sl0]) (by simp only[go_sem,simprocAttr]) (by simp only[go_sem,simprocAttr]) (by decide) (by decide) (by simp only[go_sem,simprocAttr]) rfl (by simp only[go_sem,simprocAttr])) ?_
 repeat first|with_reducible refine am ?_|simp only[go_sem,simprocAttr]
 refine GA.loop (I:=λmm e H=>∃(k m:Nat),mm=5-k/\k<=5/\m=0+k/\e=aF [(8,.p 0 0),(73,.n .i64 k)]/\H=ba [aI 60 5 m 0 (cC (yE m)),bf 0 25 [.sl0,.n .i64 5,.n .i64 0,.os 1 m]]) (Wk.mk [1,0] [] ?_ ?_ ?_) ⟨0,0,rfl,Nat.zero_le _,rfl,rfl,rfl⟩ ?_
 ·simp only[bj,bc,go_sem,simprocAttr]
  repeat' refine ab ?_ ?_
  all_goals first|exact bw|skip
 ·exact .cons rfl (.rows (x:=_) (by simp only[go_sem,simprocAttr];rfl) (by rfl) (by rfl) (by rfl) (by show 0*5<=0;decide) (by exact Nat.le_refl _) (by decide) (λi j hi=>absurd (show i<0 from hi) (Nat.not_lt_zero _)) (λi j hi=>absurd (show i<0 from hi) (Nat.not_lt_zero _))) (.cons rfl (.lstw (x:=_) (by simp only[go_sem,simprocAttr]<;>rfl) (by rfl) (by rfl) (by rfl) (by rfl) (by rfl) (by rfl) (by simp) (λi hi=>(by rcases jl hi with rfl|rfl|rfl|rfl<;>(simp only[go_sem,simprocAttr];first|exact Wv.same rfl|exact Wv.os rfl)))) .nil)
 ·simp
 rintro mm e H ⟨k,m,rfl,hk,hm,rfl,rfl⟩
 repeat first|with_reducible refine am ?_|simp only[go_sem,simprocAttr]
 refine⟨λh=>?_,λh=>?_⟩
 ·have hkl:k<5:=by omega
  have ha:=hadd k (by omega)
  obtain⟨s1,s2,s3⟩:=sl m (by omega)
  repeat first|with_reducible refine am ?_|simp only[h,s1,s2,s3,decide_true,go_sem,simprocAttr]
  refine aw [] (.cons (.rfl (by rfl)) .nil) (ja k (by omega)) (by simp only[AH.mark_next,ag,aD,aE,av,ao,az,af,ay,ah,List.length_cons,List.length_nil];decide) ?_
  simp only[iI,dV,go_sem,simprocAttr]
  repeat first|with_reducible refine am ?_|simp only[ha,s1,s2,s3,decide_true,go_sem,simprocAttr]
  refine⟨_,_,_,?_,Wk.mk [3,0] [] ?_ ?_ ?_,k+1,m+1,rfl,by omega,by omega,rfl,rfl⟩
  ·omega
  ·simp only[bj,bc,go_sem,simprocAttr]
   repeat' refine ab ?_ ?_
   all_goals first|exact bw|skip
  ·exact .cons rfl (.snoc (by simp only[go_sem,simprocAttr]<;>rfl) (by simp) (by rfl) rfl (by decide) (by omega) (λi j hi _=>cD m i j hi (by omega)) (λj hj=>by
    rw[cE m j (by omega)];unfold cC;rw[show m=k by omega,dP k (by omega)];rcases iG hj with rfl|rfl|rfl|rfl|rfl<;>rfl) (λi j _ hj=>by rcases iG hj with rfl|rfl|rfl|rfl|rfl<;>rfl)) (.cons rfl (.lstw (x:=_) (by simp only[go_sem,simprocAttr]<;>rfl) (by rfl) (by rfl) (by rfl) (by rfl) (by rfl) (by rfl) (by simp) (λi hi=>(by rcases jl hi with rfl|rfl|rfl|rfl<;>(simp only[go_sem,simprocAttr];first|exact Wv.same rfl|exact Wv.os rfl)))) .nil)
  ·simp
 have hk5:m=5:=by omega
 subst hk5
 repeat first|with_reducible refine am ?_|simp only[go_sem,simprocAttr]
 refine GA.loop (I:=λmm e H=>∃(k m:Nat),mm=5-k/\k<=5/\m=5+k/\e=aF [(8,.p 0 0),(84,.n .i64 k)]/\H=ba [aI 60 5 m 0 (cC (yE m)),bf 0 25 [.sl0,.n .i64 5,.n .i64 0,.os 1 m]]) (Wk.mk [1,0] [] ?_ ?_ ?_) ⟨0,5,rfl,Nat.zero_le _,rfl,rfl,rfl⟩ ?_
 ·simp only[bj,bc,go_sem,simprocAttr]
  repeat' refine ab ?_ ?_
  all_goals first|exact bw|skip
 ·exact .cons rfl .k5 (.cons rfl (.lstw (x:=_) (by simp only[go_sem,simprocAttr]<;>rfl) (by rfl) (by rfl) (by rfl) (by rfl) (by rfl) (by rfl) (by simp) (λi hi=>(by rcases jl hi with rfl|rfl|rfl|rfl<;>(simp only[go_sem,simprocAttr];first|exact Wv.same rfl|exact Wv.os rfl)))) .nil)
 ·simp
 rintro mm e H ⟨k,m,rfl,hk,hm,rfl,rfl⟩
 repeat first|with_reducible refine am ?_|simp only[go_sem,simprocAttr]
 refine⟨λh=>?_,λh=>?_⟩
 ·have hkl:k<5:=by omega
  have ha:=hadd k (by omega)
  obtain⟨s1,s2,s3⟩:=sl m (by omega)
  repeat first|with_reducible refine am ?_|simp only[h,s1,s2,s3,decide_true,go_sem,simprocAttr]
  refine aw [] (.cons (.rfl (by rfl)) .nil) (qK k) (by simp only[AH.mark_next,ag,aD,aE,av,ao,az,af,ay,ah,List.length_cons,List.length_nil];decide) ?_
  simp only[iI,fo,go_sem,simprocAttr]
  repeat first|with_reducible refine am ?_|simp only[ha,s1,s2,s3,decide_true,go_sem,simprocAttr]
  refine⟨_,_,_,?_,Wk.mk [3,0] [] ?_ ?_ ?_,k+1,m+1,rfl,by omega,by omega,rfl,rfl⟩
  ·omega
  ·simp only[bj,bc,go_sem,simprocAttr]
   repeat' refine ab ?_ ?_
   all_goals first|exact bw|skip
  ·exact .cons rfl (.snoc (by simp only[go_sem,simprocAttr]<;>rfl) (by simp) (by rfl) rfl (by decide) (by omega) (λi j hi _=>cD m i j hi (by omega)) (λj hj=>by
    rw[cE m j (by omega)];unfold cC;rw[show m=5+k by omega,dE k (by omega)];rcases iG hj with rfl|rfl|rfl|rfl|rfl<;>rfl) (λi j _ hj=>by rcases iG hj with rfl|rfl|rfl|rfl|rfl<;>rfl)) (.cons rfl (.lstw (x:=_) (by simp only[go_sem,simprocAttr]<;>rfl) (by rfl) (by rfl) (by rfl) (by rfl) (by rfl) (by rfl) (by simp) (λi hi=>(by rcases jl hi with rfl|rfl|rfl|rfl<;>(simp only[go_sem,simprocAttr];first|exact Wv.same rfl|exact Wv.os rfl)))) .nil)
  ·simp
 have hk5:m=10:=by omega
 subst hk5
 refine GA.wk (Wk.mk (L:=[(8,.p 0 0)]) (bl:=[bf 0 25 [.sl0,.n .i64 5,.n .i64 0,.fs 5 10 (cC oV)]]) [0] [1] ?_ ?_ ?_) ?_
 ·simp only[bj,bc,go_sem,simprocAttr]
  repeat' refine ab ?_ ?_
  all_goals first|exact bw|skip
 ·exact .cons rfl (.lstw (x:=_) (by simp only[go_sem,simprocAttr]<;>rfl) (by rfl) (by rfl) (by rfl) (by rfl) (by rfl) (by rfl) (by simp) (λi hi=>(by rcases jl hi with rfl|rfl|rfl|rfl<;>(simp only[go_sem,simprocAttr];first|exact Wv.same rfl|exact Wv.cv (Cv.own (ty:=60) (z:=0) (row:=cC (yE 10)) (by simp) (by simp only[go_sem,simprocAttr]) (λi j _ hj=>ch i hj)))))) .nil
 ·simp
 have hl18:((sA.length:Nat):Int)=18:=rfl
 have hc0:cC sA 0 0= .n .i64 0:=rfl
 have hc1:cC sA 0 1= .n .i64 0:=rfl
 have hc2:cC sA 0 2= .n .i64 (-1):=rfl
 have hc3:cC sA 0 3= .n .i64 (-1):=rfl
 have hc4:cC sA 0 4= .n .u32 5:=rfl
 have hlt:(0:Int)<18:=by omega
 have h00:(0:Int)<=0:=by omega
 have d1:decide ((0:Int)=0)=true:=decide_eq_true rfl
 have d2:decide ((4:Int)=4)=true:=decide_eq_true rfl
 have d3:decide ((18:Int)=18)=true:=decide_eq_true rfl
 have d4:decide ((5:Int)=5)=true:=decide_eq_true rfl
 have d5:decide ((-1:Int)= -1)=true:=decide_eq_true rfl
 have hx10:oV.length=10:=rfl
 simp only[aB,hx10] at h4
 repeat first|with_reducible refine am ?_|simp only[go_sem,simprocAttr]
 refine aw [] (.cons HQ (.cons (.rfl (by rfl)) .nil)) h4 (by simp only[AH.mark_next,ag,aD,aE,av,ao,az,af,ay,ah,List.length_cons,List.length_nil];decide) ?_
 repeat first|with_reducible refine am ?_|simp only[d1,d2,d3,hl18,hlt,h00,hc0,hc1,hc2,hc3,hc4,decide_true,go_sem,simprocAttr]
 refine aw [] (.cons (.rfl (by rfl)) .nil) (ja 0 (by omega)) (by simp only[AH.mark_next,ag,aD,aE,av,ao,az,af,ay,ah,List.length_cons,List.length_nil];decide) ?_
 simp only[iI,dV,go_sem,simprocAttr]
 repeat first|with_reducible refine am ?_|simp only[ws,qI,lB,zK,SH.row,d1,d2,d3,d4,d5,hl18,hlt,h00,hc0,hc1,hc2,hc3,hc4,decide_true,go_sem,simprocAttr]
 exact⟨[_],rfl,ea.v rfl rfl .nil⟩
theorem nR:bS Try.prog 10 [] [.v (.b true)]:=by
 have h1:=HH
 have h2:=sx
 have h3:=yF
 have h4:=qF
 have w0:IntKind.wrap .i64 0=0:=rfl
 have w1:IntKind.wrap .i64 (0+0)=0:=rfl
 have hne0:decide ((0:Int)=0)=true:=decide_eq_true rfl
 refine aN bh JR ⟨by simp,by decide⟩ ?_
 simp only[bN]
 repeat first|with_reducible refine am ?_|simp only[go_sem,simprocAttr]
 refine aw [] (.cons (.rfl (by rfl)) .nil) (ja 0 (by omega)) (by simp only[AH.mark_next,ag,aD,aE,av,ao,az,af,ay,ah,List.length_cons,List.length_nil];decide) ?_
 simp only[iI,dV]
 repeat first|with_reducible refine am ?_|simp only[go_sem,simprocAttr]
 refine aw [] (.cons (.rfl (by rfl)) .nil) (ja 1 (by omega)) (by simp only[AH.mark_next,ag,aD,aE,av,ao,az,af,ay,ah,List.length_cons,List.length_nil];decide) ?_
 simp only[iI,dV]
 repeat first|with_reducible refine am ?_|simp only[go_sem,simprocAttr]
 refine aw [] (.cons (.rfl (by rfl)) .nil) (qK 2) (by simp only[AH.mark_next,ag,aD,aE,av,ao,az,af,ay,ah,List.length_cons,List.length_nil];decide) ?_
 simp only[iI,fo]
 repeat first|with_reducible refine am ?_|simp only[go_sem,simprocAttr]
 refine aw [0] (.cons (sD (by simp) (by simp only[go_sem,simprocAttr]<;>rfl) rfl (λi j hi hj=>?_)) .nil) h1 (by simp only[AH.mark_next,ag,aD,aE,av,ao,az,af,ay,ah,List.length_cons,List.length_nil];decide) ?_
 ·skip
  rcases(by omega:i=0\/i=1\/i=2\/i=3) with rfl|rfl|rfl|rfl<;>rcases(by omega:j=0\/j=1\/j=2\/j=3\/j=4) with rfl|rfl|rfl|rfl|rfl<;>rfl
 repeat first|with_reducible refine am ?_|simp only[go_sem,simprocAttr]
 refine aw [0] (.cons (sD (by simp) (by simp only[go_sem,simprocAttr]<;>rfl) rfl (λi j hi hj=>?_)) .nil) h2 (by simp only[AH.mark_next,ag,aD,aE,av,ao,az,af,ay,ah,List.length_cons,List.length_nil];decide) ?_
 ·skip
  rcases(by omega:i=0\/i=1\/i=2\/i=3) with rfl|rfl|rfl|rfl<;>rcases(by omega:j=0\/j=1\/j=2\/j=3\/j=4) with rfl|rfl|rfl|rfl|rfl<;>rfl
 repeat first|with_reducible refine am ?_|simp only[go_sem,simprocAttr]
 refine aw [0] (.cons (sD (by simp) (by simp only[go_sem,simprocAttr]<;>rfl) rfl (λi j hi hj=>?_)) (.cons (.rfl (by rfl)) .nil)) h3 (by simp only[AH.mark_next,ag,aD,aE,av,ao,az,af,ay,ah,List.length_cons,List.length_nil];decide) ?_
 ·skip
  rcases(by omega:i=0\/i=1\/i=2\/i=3) with rfl|rfl|rfl|rfl<;>rcases(by omega:j=0\/j=1\/j=2\/j=3\/j=4) with rfl|rfl|rfl|rfl|rfl<;>rfl
 simp only[aB]
 repeat first|with_reducible refine am ?_|simp only[w0,w1,hne0,decide_true,go_sem,simprocAttr]
 refine aw [3,4,5,6] (.cons (.rfl (by rfl)) (.cons (?_) (.cons (.rfl (by rfl)) .nil))) (mV 5 (by omega) Rf (λi=>?_)) (by simp only[AH.mark_next,ag,aD,aE,av,ao,az,af,ay,ah,List.length_cons,List.length_nil];decide) ?_
 ·refine .slw (x:=_) (by simp) (by simp only[go_sem,simprocAttr]<;>rfl) (by decide) (by decide) (λi j hi hj=>?_) (λi j _ _=>rfl)
  have hj0:j=0:=by omega
  subst hj0
  rcases(by omega:i=0\/i=1\/i=2\/i=3\/i=4) with rfl|rfl|rfl|rfl|rfl
  ·exact .sl0 _ _
  ·refine .sl (x:=_) (by simp) (by simp only[go_sem,simprocAttr]<;>rfl) (by decide) (by decide) (by decide) (λi j hi hj=>?_) (λi j _ _=>rfl)
   rw[show i=0 by have:i<1:=hi;omega,show j=0 by omega];rfl
  ·refine .sl (x:=_) (by simp) (by simp only[go_sem,simprocAttr]<;>rfl) (by decide) (by decide) (by decide) (λi j hi hj=>?_) (λi j _ _=>rfl)
   have hi2:i<2:=hi
   rcases(by omega:i=0\/i=1) with rfl|rfl<;>rw[show j=0 by omega]<;>rfl
  ·refine .sl (x:=_) (by simp) (by simp only[go_sem,simprocAttr]<;>rfl) (by decide) (by decide) (by decide) (λi j hi hj=>?_) (λi j _ _=>rfl)
   rw[show i=0 by have:i<1:=hi;omega,show j=0 by omega];rfl
  ·exact .sl0 _ _
 ·exact Nat.le_trans (List.length_filter_le _ _) (by simp)
 have hl4:((HK.length:Nat):Int)=4:=rfl
 have hcz:cC HK 2 1= .n .i64 0:=rfl
 have hlt:(2:Int)<4:=by omega
 have h00:(0:Int)<=2:=by omega
 (try simp only[w0,w1,hne0,hl4,hcz,hlt,h00,decide_true,go_sem,simprocAttr])
 iterate 2 (with_reducible refine GA.go bh rfl ?_;try simp only[w0,w1,hne0,hl4,hcz,hlt,h00,decide_true,go_sem,simprocAttr])
 refine GA.wk (Wk.mk (L:=[]) (bl:=[]) [] [] ?_ ?_ ?_) H5
 ·simp only[bj,bc,go_sem,simprocAttr]
  repeat' refine ab ?_ ?_
  all_goals first|exact bw|skip
 ·exact .nil
 ·simp
theorem vJ(na:Nat)(ra:Nat->Nat->AV)(regs par:Int)(cs:List In):bS Try.prog 9 [aB na ra regs par cs] [.v (.b (ju na regs cs))]:=by
 have hw:=vK na ra regs par cs
 refine aN bh KV ⟨by simp,by decide⟩ ?_
 simp only[bN,aB] at hw ⊢
 repeat first|with_reducible refine am ?_|simp only[go_sem,simprocAttr]
 refine aw [] (.cons (.rfl (by rfl)) .nil) hw (by simp only[AH.mark_next,ag,aD,aE,av,ao,az,af,ay,ah,List.length_cons,List.length_nil];decide) ?_
 unfold ju
 cases qC na cs
 ·repeat first|with_reducible refine am ?_|simp only[go_sem,simprocAttr]
  exact bP rfl rfl
 ·by_cases h1:regs<=60
  ·repeat first|with_reducible refine am ?_|simp only[h1,decide_true,go_sem,simprocAttr]
   exact bP rfl rfl
  ·by_cases h2:1024<regs
   ·repeat first|with_reducible refine am ?_|simp only[h1,h2,decide_true,decide_false,go_sem,simprocAttr]
    exact bP rfl rfl
   ·repeat first|with_reducible refine am ?_|simp only[h1,h2,decide_true,decide_false,go_sem,simprocAttr]
    exact bP rfl rfl
theorem BC{la:List (Bool×Int)}{regs:Int}{cs:List In}(hf:ju la.length regs cs=true):la.length<=20/\cs.length<=300:=by
 unfold ju qC at hf
 by_cases h1:(la.length:Int)<=20
 ·by_cases h2:(cs.length:Int)<=300
  ·exact⟨by omega,by omega⟩
  ·simp[h1,h2] at hf
 ·simp[h1] at hf
section
variable (la:List (Bool×Int)) (regs par:Int) (cs:List In) (ha:eT cs)
include ha
end
end Go.Proofs.Yteopfmnnhlhbmaa
namespace Go.Proofs.Yteopfmnnhlhbmaa
open Go.RowKit
def tQ(la:List (Bool×Int))(regs par:Int)(cs:List In):Bool:=if ju la.length regs cs then(if decide (par<=900) then decide ((dM la regs par cs).2=0) else false) else false
theorem ym(la:List (Bool×Int))(regs par:Int)(cs:List In)(ha:eT cs)(hl1:la.length<=9223372036854775807)(hl2:cs.length<=9223372036854775807):bS Try.prog 22 [aB la.length (aC la) regs par cs] [.v (.b (tQ la regs par cs))]:=by
 have hw:=vJ la.length (aC la) regs par cs
 have hck:=ly la regs par cs hl1 hl2 ha
 refine aN bh JI ⟨by simp,by decide⟩ ?_
 simp only[bN,aB] at hw hck ⊢
 repeat first|with_reducible refine am ?_|simp only[go_sem,simprocAttr]
 refine aw [] (.cons (.rfl (by rfl)) .nil) hck (by simp only[AH.mark_next,ag,aD,aE,av,ao,az,af,ay,ah,List.length_cons,List.length_nil];decide) ?_
 repeat first|with_reducible refine am ?_|simp only[go_sem,simprocAttr]
 refine aw [] (.cons (.rfl (by rfl)) .nil) hw (by simp only[AH.mark_next,ag,aD,aE,av,ao,az,af,ay,ah,List.length_cons,List.length_nil];decide) ?_
 unfold tQ
 cases ju la.length regs cs
 ·repeat first|with_reducible refine am ?_|simp only[go_sem,simprocAttr]
  exact bP rfl rfl
 ·by_cases h1:par<=900
  ·repeat first|with_reducible refine am ?_|simp only[h1,decide_true,go_sem,simprocAttr]
   exact bP rfl rfl
  ·repeat first|with_reducible refine am ?_|simp only[h1,decide_false,go_sem,simprocAttr]
   exact bP rfl rfl
theorem rQ{na:Nat}{ra:Nat->Nat->AV}{regs par k:Int}{cs:List In}(hw:bS Try.prog 22 [aB na ra regs par cs] [.v (.b false)]):bS Try.prog 6 [aB na ra regs par cs,.n .u8 k] [.v (.b true)]:=by
 refine aN bh Ck ⟨by simp,by decide⟩ ?_
 simp only[bN,aB] at hw ⊢
 repeat first|with_reducible refine am ?_|simp only[go_sem,simprocAttr]
 refine aw [] (.cons (.rfl (by rfl)) .nil) hw (by simp only[AH.mark_next,ag,aD,aE,av,ao,az,af,ay,ah,List.length_cons,List.length_nil];decide) ?_
 repeat first|with_reducible refine am ?_|simp only[go_sem,simprocAttr]
 refine aw [] .nil nR (by simp only[AH.mark_next,ag,aD,aE,av,ao,az,af,ay,ah,List.length_cons,List.length_nil];decide) ?_
 repeat first|with_reducible refine am ?_|simp only[go_sem,simprocAttr]
 exact bP rfl rfl
theorem qw{na:Nat}{ra:Nat->Nat->AV}{regs par p1 R1 R2 R3:Int}{k n:Nat}{cs c1 c2 c3:List In}(hn:n=4+k%20)(hk:k<256)(hr:R2<=(n:Int))(hw:bS Try.prog 22 [aB na ra regs par cs] [.v (.b true)])
  (h1:bS Try.prog 17 [aB na ra regs par cs,.n .i64 n] [.v (aB na ra R1 p1 c1),.v (.n .i64 0)]) (h2:bS Try.prog 17 [aB na ra R1 p1 c1,.n .i64 n] [.v (aB na ra R2 p1 c2),.v (.n .i64 0)])
  (h3:bS Try.prog 20 [aB na ra regs par cs] [.v (aB na ra R3 par c3),.v (.n .i64 0)]) (h4:bS Try.prog 20 [aB na ra R3 par c3] [.v (aB na ra R3 par c3),.v (.n .i64 0)])
  (hS:bS Try.prog 19 [aB na ra R3 par c3,aB na ra R3 par c3] [.v (.b true)]):
  bS Try.prog 6 [aB na ra regs par cs,.n .u8 k] [.v (.b true)]:=by
 have w0:IntKind.wrap .i64 (0+0)=0:=rfl
 have w1:IntKind.wrap .i64 0=0:=rfl
 have d0:decide ((0:Int)=0)=true:=decide_eq_true rfl
 have hpp:decide (p1=p1)=true:=decide_eq_true rfl
 refine aN bh Ck ⟨by simp,by decide⟩ ?_
 simp only[bN,aB] at hw h1 h2 h3 h4 hS ⊢
 repeat first|with_reducible refine am ?_|simp only[go_sem,simprocAttr]
 refine aw [] (.cons (.rfl (by rfl)) .nil) hw (by simp only[AH.mark_next,ag,aD,aE,av,ao,az,af,ay,ah,List.length_cons,List.length_nil];decide) ?_
 have wk:IntKind.wrap .i64 (k:Int)=(k:Int):=aX (by omega)
 have wt:IntKind.wrap .i64 (4+Int.tmod (k:Int) 20)=(n:Int):=by rw[Int.tmod_eq_emod_of_nonneg (by omega),aX (by omega)];omega
 repeat first|with_reducible refine am ?_|simp only[wk,wt,go_sem,simprocAttr]
 refine aw [] (.cons (.rfl (by rfl)) (.cons (.rfl (by rfl)) .nil)) h1 (by simp only[AH.mark_next,ag,aD,aE,av,ao,az,af,ay,ah,List.length_cons,List.length_nil];decide) ?_
 repeat first|with_reducible refine am ?_|simp only[go_sem,simprocAttr]
 refine aw [] (.cons (.rfl (by rfl)) (.cons (.rfl (by rfl)) .nil)) h2 (by simp only[AH.mark_next,ag,aD,aE,av,ao,az,af,ay,ah,List.length_cons,List.length_nil];decide) ?_
 repeat first|with_reducible refine am ?_|simp only[go_sem,simprocAttr]
 refine aw [] (.cons (.rfl (by rfl)) .nil) h3 (by simp only[AH.mark_next,ag,aD,aE,av,ao,az,af,ay,ah,List.length_cons,List.length_nil];decide) ?_
 repeat first|with_reducible refine am ?_|simp only[go_sem,simprocAttr]
 refine aw [] (.cons (.rfl (by rfl)) .nil) h4 (by simp only[AH.mark_next,ag,aD,aE,av,ao,az,af,ay,ah,List.length_cons,List.length_nil];decide) ?_
 repeat first|with_reducible refine am ?_|simp only[w0,w1,d0,hpp,hr,decide_true,go_sem,simprocAttr]
 refine aw [] (.cons (.rfl (by rfl)) (.cons (.rfl (by rfl)) .nil)) hS (by simp only[AH.mark_next,ag,aD,aE,av,ao,az,af,ay,ah,List.length_cons,List.length_nil];decide) ?_
 repeat first|with_reducible refine am ?_|simp only[w0,w1,d0,hpp,hr,decide_true,go_sem,simprocAttr]
 refine aw [] .nil nR (by simp only[AH.mark_next,ag,aD,aE,av,ao,az,af,ay,ah,List.length_cons,List.length_nil];decide) ?_
 repeat first|with_reducible refine am ?_|simp only[go_sem,simprocAttr]
 exact bP rfl rfl
theorem yD{la:List (Bool×Int)}{R:Nat}{par:Int}{cs:List In}(hf:ju la.length R cs=true)(hz:(dM la R par cs).2=0):R<=60:=by
 have hR:=Ie hz
 unfold ju at hf
 by_cases h1:(R:Int)<=60
 ·omega
 ·rw[decide_eq_false h1,decide_eq_false (show ¬1024<(R:Int) by omega)] at hf
  simp at hf
theorem uy{la:List (Bool×Int)}{regs par:Int}{cs:List In}(hla:la.length<1000000)(hcs:cs.length<1000000):bS Try.prog 19 [aB la.length (aC la) regs par cs,aB la.length (aC la) regs par cs] [.v (.b true)]:=by
 have:=wX la hla regs par cs cs hcs
 rw[decide_eq_true rfl] at this
 exact this
theorem vY{la:List (Bool×Int)}{R:Nat}{par:Int}{cs:List In}(hz:(dM la R par cs).2=0)(ha:eT cs){n:Nat}(hn:4<=n/\n<=1024)(hroom:par+dk cs R<=1024)(hlen:cs.length<=300):
  ∃(R1:Nat) (p1:Int) (c1:List In),bS Try.prog 17 [aB la.length (aC la) R par cs,.n .i64 n] [.v (aB la.length (aC la) R1 p1 c1),.v (.n .i64 0)]/\(dM la R1 p1 c1).2=0/\eT c1/\R1<=n/\
   ((dk cs R<=n/\R1=dk cs R/\p1=par/\c1=cs.map (eY (iW cs R)))\/(n<dk cs R/\R1=n/\p1=par+(dk cs R:Int)-((n:Int)-3)/\c1=ib (iW cs R) ((n:Int)-3) par cs)):=by
 by_cases hc:dk cs R<=n
 ·exact⟨_,_,_,j8 hz ha hn hc,BP hz,qV ha,hc,.inl ⟨hc,rfl,rfl,rfl⟩⟩
 ·have h:=nW hz ha hn (by omega)
  have hl:=w5 (iW cs R) ((n:Int)-3) par cs
  rw[if_neg (by omega)] at h
  exact⟨_,_,_,h,BO hz ha hn (by omega) (by omega) (by omega),zE hz ha hn (by omega) (by omega),Nat.le_refl _,.inr ⟨by omega,rfl,rfl,rfl⟩⟩
theorem sf(la:List (Bool×Int))(regs par:Int)(cs:List In)(ha:eT cs)(hl1:la.length<=9223372036854775807)(hl2:cs.length<=9223372036854775807)(k:Nat)(hk:k<256):
  bS Try.prog 6 [aB la.length (aC la) regs par cs,.n .u8 k] [.v (.b true)]:=by
 have hw:=ym la regs par cs ha hl1 hl2
 cases hg:tQ la regs par cs
 ·rw[hg] at hw
  exact rQ hw
 rw[hg] at hw
 unfold tQ at hg
 cases hf:ju la.length regs cs
 ·rw[hf] at hg;simp at hg
 rw[hf,if_pos rfl] at hg
 by_cases hp:par<=900
 ·rw[decide_eq_true hp,if_pos rfl,decide_eq_true_eq] at hg
  have hfew:=BC hf
  have h:=(bX hg).nregs
  obtain⟨R,rfl⟩:∃R:Nat,regs=R:=⟨regs.toNat,by omega⟩
  have hR:=yD hf hg
  have hcl:=kU cs R
  obtain⟨R1,p1,c1,g1,g2,g3,g4,g5⟩:=vY hg ha (n:=4+k%20) (by omega) (by omega) (by omega)
  have hc2:=kU c1 R1
  exact qw rfl hk (by omega) hw g1 (j8 g2 g3 (by omega) (by omega)) (q9 hg ha) (by
   have:=q9 (ud hg) (qV ha)
   rwa [xo,yZ hg] at this) (uy (by omega) (by unfold mb;rw[List.length_map];omega))
 ·rw[decide_eq_false hp] at hg;simp at hg
end Go.Proofs.Yteopfmnnhlhbmaa