/- A part of the proof of AllocateCompacts: AlE AlF AlG AlH AzA EqA AzB LcA. No condition. -/
import Derived.Test.YteopfmnnhlhbmaaHc17
import Derived.Test.YteopfmnnhlhbmaaHc35
import Derived.Test.YteopfmnnhlhbmaaHc45
import Derived.Test.YteopfmnnhlhbmaaHc33
import Derived.Test.YteopfmnnhlhbmaaHc13
import Derived.Test.YteopfmnnhlhbmaaHc16
set_option linter.unusedSimpArgs false
set_option linter.unusedVariables false
set_option linter.constructorNameAsVariable false
set_option maxRecDepth 100000
set_option maxHeartbeats 4000000
namespace Go.Proofs.Yteopfmnnhlhbmaa
open Go.RowKit
theorem dy{cd:List RI}{pr:List Int}:∀(t:T) (w:Bool) (d k:Nat) (e:Int),t.wf w d->fS cd k t.flat->vW pr k (t.rq k e)->(w=true->0<=e)->∀q,k<=q->q<k+t.size->dL (az cd q)->
  0<=pr.getD q 0/\(az cd q=27->∃p:Nat,pr.getD q 0=(p:Int)/\(az cd p=31->pr.getD p 0=(q:Int)))
 |.nil,w,d,k,e,hw,hc,hp,he,q,h1,h2,hb=>by simp only[T.size] at h2;omega
 |.plain i r,w,d,k,e,hw,hc,hp,he,q,h1,h2,hb=>by
  obtain⟨⟨g1,g2,g3,g4⟩,g5,g6⟩:=hw
  simp only[T.size] at h2
  have hi:az cd k=i.op:=by show(cd.getD k default).op=_;rw[hc.head]
  by_cases eq:q=k
  ·subst eq
   rw[hp.head]
   rw[hi] at hb ⊢
   have h30:i.op=30:=by unfold dL at hb;omega
   rw[if_pos h30]
   exact⟨he (g5 h30),λh=>by omega⟩
  ·exact dy r w d (k+1) e g6 hc.tail hp.tail he q (by omega) (by omega) hb
 |.ite i a j r,w,d,k,e,hw,hc,hp,he,q,h1,h2,hb=>by
  obtain⟨g1,g2,g3,g4,g5⟩:=hw
  simp only[T.size] at h2
  have hi:az cd k=i.op:=by show(cd.getD k default).op=_;rw[hc.head]
  have hal:a.flat.length=a.size:=a.flat_length
  have hql:(a.rq (k+1) e).length=a.size:=a.rq_length _ _
  have hcr:=hc.tail.right
  have hpr:=hp.tail.right
  rw[hal] at hcr
  rw[hql] at hpr
  have hj:az cd (k+1+a.size)=j.op:=by show(cd.getD (k+1+a.size) default).op=_;rw[hcr.head]
  have hpk:=hp.head
  have hpj:=hpr.head
  by_cases e1:q=k
  ·subst e1
   rw[hpk]
   refine⟨by omega,λ_=>⟨q+a.size+1,rfl,λ_=>?_⟩⟩
   rw[show q+a.size+1=q+1+a.size by omega,hpj]
  by_cases e2:q<k+1+a.size
  ·exact dy a w _ (k+1) e g4 hc.tail.left hp.tail.left he q (by omega) (by omega) hb
  by_cases e3:q=k+1+a.size
  ·subst e3
   rw[hpj,hj,g2]
   exact⟨by omega,λh=>by omega⟩
  ·have:=hpr.tail
   rw[show k+1+a.size+1=k+a.size+2 by omega] at this
   have hc2:=hcr.tail
   rw[show k+1+a.size+1=k+a.size+2 by omega] at hc2
   exact dy r w d (k+a.size+2) e g5 hc2 this he q (by omega) (by omega) hb
 |.ite2 i a x b j r,w,d,k,e,hw,hc,hp,he,q,h1,h2,hb=>by
  obtain⟨g1,g2,g3,g4,g5,g6,g7⟩:=hw
  simp only[T.size] at h2
  have hal:a.flat.length=a.size:=a.flat_length
  have hbl:b.flat.length=b.size:=b.flat_length
  have hql:(a.rq (k+1) e).length=a.size:=a.rq_length _ _
  have hqb:(b.rq (k+a.size+2) e).length=b.size:=b.rq_length _ _
  have hcr:=hc.tail.right
  have hpr:=hp.tail.right
  rw[hal] at hcr
  rw[hql] at hpr
  have hx:az cd (k+1+a.size)=x.op:=by show(cd.getD (k+1+a.size) default).op=_;rw[hcr.head]
  have hpk:=hp.head
  have hpx:=hpr.head
  have hcr2:=hcr.tail
  have hpr2:=hpr.tail
  rw[show k+1+a.size+1=k+a.size+2 by omega] at hcr2 hpr2
  have hcr3:=hcr2.right
  have hpr3:=hpr2.right
  rw[hbl] at hcr3
  rw[hqb] at hpr3
  have hj:az cd (k+a.size+2+b.size)=j.op:=by show(cd.getD (k+a.size+2+b.size) default).op=_;rw[hcr3.head]
  have hpj:=hpr3.head
  by_cases e1:q=k
  ·subst e1
   rw[hpk]
   refine⟨by omega,λ_=>⟨q+a.size+1,rfl,λh=>?_⟩⟩
   rw[show q+a.size+1=q+1+a.size by omega,hx,g2] at h
   omega
  by_cases e2:q<k+1+a.size
  ·exact dy a w _ (k+1) e g5 hc.tail.left hp.tail.left he q (by omega) (by omega) hb
  by_cases e3:q=k+1+a.size
  ·subst e3
   rw[hpx,hx,g2]
   exact⟨by omega,λh=>by omega⟩
  by_cases e4:q<k+a.size+2+b.size
  ·exact dy b w _ (k+a.size+2) e g6 hcr2.left hpr2.left he q (by omega) (by omega) hb
  by_cases e5:q=k+a.size+2+b.size
  ·subst e5
   rw[hpj,hj,g3]
   exact⟨by omega,λh=>by omega⟩
  ·have h3:=hpr3.tail
   rw[show k+a.size+2+b.size+1=k+a.size+b.size+3 by omega] at h3
   have h4:=hcr3.tail
   rw[show k+a.size+2+b.size+1=k+a.size+b.size+3 by omega] at h4
   exact dy r w d (k+a.size+b.size+3) e g7 h4 h3 he q (by omega) (by omega) hb
 |.loop i a j r,w,d,k,e,hw,hc,hp,he,q,h1,h2,hb=>by
  obtain⟨g1,g2,g3,g4,g5⟩:=hw
  simp only[T.size] at h2
  have hi:az cd k=i.op:=by show(cd.getD k default).op=_;rw[hc.head]
  have hal:a.flat.length=a.size:=a.flat_length
  have hql:(a.rq (k+1) ((k+a.size+1:Nat):Int)).length=a.size:=a.rq_length _ _
  have hcr:=hc.tail.right
  have hpr:=hp.tail.right
  rw[hal] at hcr
  rw[hql] at hpr
  have hj:az cd (k+1+a.size)=j.op:=by show(cd.getD (k+1+a.size) default).op=_;rw[hcr.head]
  have hpk:=hp.head
  have hpj:=hpr.head
  by_cases e1:q=k
  ·subst e1
   rw[hpk,hi,g1]
   exact⟨by omega,λh=>by omega⟩
  by_cases e2:q<k+1+a.size
  ·exact dy a true _ (k+1) _ g4 hc.tail.left hp.tail.left (λ_=>by omega) q (by omega) (by omega) hb
  by_cases e3:q=k+1+a.size
  ·subst e3
   rw[hpj,hj,g2]
   exact⟨by omega,λh=>by omega⟩
  ·have h3:=hpr.tail
   rw[show k+1+a.size+1=k+a.size+2 by omega] at h3
   have h4:=hcr.tail
   rw[show k+1+a.size+1=k+a.size+2 by omega] at h4
   exact dy r w d (k+a.size+2) e g5 h4 h3 he q (by omega) (by omega) hb
def dC(cs:List In)(i:Nat):Nat:=((rG cs).getD i 0).toNat
structure P4(cs:List In):Prop where
 len:(rG cs).length=cs.length
 at_:∀i,i<cs.length->dL (bV cs i)->(rG cs).getD i 0=(dC cs i:Int)/\dC cs i<cs.length
 back:∀i,i<cs.length->bV cs i=27->bV cs (dC cs i)=31->dC cs (dC cs i)=i
theorem zS.pok{la:List (Bool×Int)}{regs par:Int}{cs:List In}(h:zS la regs par cs):P4 cs:=by
 obtain⟨_,hl,_,t,ht,hw,he⟩:=h.pt
 have hs:cs.length=t.size:=by rw[<-t.flat_length,<-ht,List.length_map]
 have hfact:=dy (cd:=cs.map bw) (pr:=rG cs) t false 8 0 0 hw (by rw[ht];exact λj hj=>by simp) (by rw[he];exact λj hj=>by simp) (λh=>by cases h)
 have hrng:=fE (n:=(cs.length:Int)) t 0 0
 have hat:∀i,i<cs.length->dL (bV cs i)->(rG cs).getD i 0=(dC cs i:Int)/\dC cs i<cs.length:=λi hi hb=>by
  have h1:=(hfact i (Nat.zero_le _) (by omega) (by rw[dV];exact hb)).1
  have hm:(rG cs).getD i 0 ∈ t.rq 0 0:=by rw[<-he,List.getD_eq_getElem?_getD,List.getElem?_eq_getElem (by omega)];exact List.getElem_mem _
  have h2:=hrng ⟨by omega,by omega⟩ (by omega) _ hm
  unfold dC
  omega
 refine⟨hl,hat,λi hi h27 h31=>?_⟩
 obtain⟨p,h1,h2⟩:=(hfact i (Nat.zero_le _) (by omega) (by rw[dV];exact .inl h27)).2 (by rw[dV];exact h27)
 obtain⟨h3,h4⟩:=hat i hi (.inl h27)
 have hpp:dC cs i=p:=by omega
 rw[hpp] at h31 ⊢
 have:=h2 (by rw[dV];exact h31)
 unfold dC
 omega
theorem rD{op a b:Int}(h:op=28\/op=31):aB op a b=[]:=by
 rcases h with rfl|rfl<;>rfl
theorem gb{op to:Int}(h:dL op):aW op to= -1:=by
 unfold dL at h
 rcases h with rfl|rfl|rfl|rfl|rfl<;>rfl
theorem lx{op a b r:Int}:r ∈ aB op a b↔(GK op=true/\r=a)\/(GJ op=true/\r=b):=by
 have e:aB op a b=(if GK op then[a] else[])++(if GJ op then[b] else[]):=rfl
 rw[e,List.mem_append]
 cases GK op<;>cases GJ op<;>simp
theorem gN{x:In}{r:Int}:r ∈ bL x↔(GK x.1=true/\r=x.2.2.1)\/(GJ x.1=true/\r=x.2.2.2.1)\/r=aW x.1 x.2.1:=by
 unfold bL
 rw[List.mem_append,lx,List.mem_singleton,or_assoc]
theorem s6.reads{regs par nA:Int}{x:In}(h:s6 regs par nA x):∀r ∈ aB x.1 x.2.2.1 x.2.2.2.1,0<=r/\r<regs:=by
 intro r hr
 rcases lx.1 hr with⟨h1,rfl⟩|⟨h1,rfl⟩
 ·have:=h.a;rwa [if_pos h1] at this
 ·have:=h.b;rwa [if_pos h1] at this
theorem s6.writes{regs par nA:Int}{x:In}(h:s6 regs par nA x)(h0:0<=regs):aW x.1 x.2.1<regs/\ -1<=aW x.1 x.2.1:=by
 have:=h.to
 unfold aW
 split
 ·rename_i hu;rw[if_pos hu] at this;omega
 ·omega
theorem s6.uses{regs par nA:Int}{x:In}(h:s6 regs par nA x)(h0:0<=regs):∀r ∈ bL x,r<regs:=by
 intro r hr
 rcases gN.1 hr with⟨h1,rfl⟩|⟨h1,rfl⟩|rfl
 ·have:=h.a;rw[if_pos h1] at this;omega
 ·have:=h.b;rw[if_pos h1] at this;omega
 ·exact(h.writes h0).1
theorem s6.regs3{regs par nA:Int}{x:In}(h:s6 regs par nA x):(x.2.1= -1\/(0<=x.2.1/\x.2.1<regs/\x.2.1 ∈ bL x))/\(x.2.2.1= -1\/(0<=x.2.2.1/\x.2.2.1<regs/\x.2.2.1 ∈ bL x))/\(x.2.2.2.1= -1\/(0<=x.2.2.2.1/\x.2.2.2.1<regs/\x.2.2.2.1 ∈ bL x)):=by
 refine⟨?_,?_,?_⟩
 ·have:=h.to
  split at this
  ·rename_i hu
   refine .inr ⟨this.1,this.2,gN.2 (.inr (.inr ?_))⟩
   unfold aW;rw[if_pos hu]
  ·exact .inl this
 ·have:=h.a
  split at this
  ·rename_i hu;exact .inr ⟨this.1,this.2,gN.2 (.inl ⟨hu,rfl⟩)⟩
  ·exact .inl this
 ·have:=h.b
  split at this
  ·rename_i hu;exact .inr ⟨this.1,this.2,gN.2 (.inr (.inl ⟨hu,rfl⟩))⟩
  ·exact .inl this
/-! ### the same live registers-/
section
variable {cs:List In}
theorem jd{pt:Nat->Nat}{i:Nat}(h:¬bV cs i=27){k:Nat}:k ∈ nxt cs pt i↔k ∈ bR cs pt i:=by
 unfold nxt bR
 generalize bV cs i=op at*
 by_cases h1:op=29
 ·subst h1;simp
 by_cases h2:op=30
 ·subst h2;simp
 by_cases h3:op=28
 ·subst h3;simp
 by_cases h4:op=31
 ·subst h4
  simp only[show ¬(31:Int)=27 by decide,show ¬(31:Int)=29 by decide,show ¬(31:Int)=30 by decide,show ¬(31:Int)=28 by decide,or_self,if_false,if_true]
  split
  ·simp only[List.mem_cons,List.not_mem_nil,or_false]
   exact or_comm
  ·exact Iff.rfl
 ·simp[h,h1,h2,h3,h4]
theorem rP{pt:Nat->Nat}{i:Nat}(h:bV cs i=27):nxt cs pt i=[i+1,if bV cs (pt i)=31 then pt i else pt i+1]/\bR cs pt i=[i+1,pt i+1]:=by
 unfold nxt bR
 constructor
 ·rw[if_pos h]
 ·simp[h]
theorem qj(hp:P4 cs){i:Nat}(hi:i<cs.length)(h27:bV cs i=27)(h31:bV cs (dC cs i)=31){r:Int}(hr:0<=r){nx:Nat->List Nat}(hnx:∀j,bV cs j=31->¬bV cs (dC cs j)=29->nx j=[j+1]):
  br cs nx (dC cs i) r↔br cs nx (dC cs i+1) r:=by
 have hb:=hp.back i hi h27 h31
 have hl:=(hp.at_ i hi (.inl h27)).2
 have hn:nx (dC cs i)=[dC cs i+1]:=hnx _ h31 (by rw[hb,h27];decide)
 have hrd:aB (cs.getD (dC cs i) (0,0,0,0,0)).1 (cs.getD (dC cs i) (0,0,0,0,0)).2.2.1 (cs.getD (dC cs i) (0,0,0,0,0)).2.2.2.1=[]:=rD (.inr h31)
 have hwr:aW (cs.getD (dC cs i) (0,0,0,0,0)).1 (cs.getD (dC cs i) (0,0,0,0,0)).2.1= -1:=gb (.inr (.inr (.inr (.inr h31))))
 constructor
 ·intro h
  generalize hj:dC cs i=j at*
  cases h with
  |read _ h2=>rw[hrd] at h2;cases h2
  |@flow _ k _ _ hk h _=>
   rw[hn] at hk
   simp at hk
   subst hk
   exact h
 ·intro h
  exact .flow hl (by rw[hn];simp) h (by rw[hwr];omega)
theorem Ht(pt:Nat->Nat)(j:Nat)(h:bV cs j=31)(h2:¬bV cs (pt j)=29):nxt cs pt j=[j+1]:=by
 unfold nxt
 simp[h,h2]
theorem AD(pt:Nat->Nat)(j:Nat)(h:bV cs j=31)(h2:¬bV cs (pt j)=29):bR cs pt j=[j+1]:=by
 unfold bR
 simp[h,h2]
theorem cR(hp:P4 cs){R:Nat}(hR:∀x ∈ cs,∀r ∈ aB x.1 x.2.2.1 x.2.2.2.1,0<=r/\r<(R:Int)){i:Nat}{r:Int}:br cs (nxt cs (dC cs)) i r↔br cs (bR cs (dC cs)) i r:=by
 constructor
 ·intro h
  induction h with
  |read hi h=>exact .read hi h
  |@flow i k r hi hk h hw ih=>
   by_cases h27:bV cs i=27
   ·obtain⟨e1,e2⟩:=rP (pt:=dC cs) h27
    rw[e1] at hk
    by_cases h31:bV cs (dC cs i)=31
    ·rw[if_pos h31] at hk
     simp only[List.mem_cons,List.not_mem_nil,or_false] at hk
     rcases hk with rfl|rfl
     ·exact .flow hi (by rw[e2];simp) ih hw
     ·exact .flow hi (by rw[e2];simp) ((qj hp hi h27 h31 (ih.range hR).1 (λj=>AD _ j)).1 ih) hw
    ·rw[if_neg h31] at hk
     exact .flow hi (by rw[e2];exact hk) ih hw
   ·exact .flow hi ((jd h27).1 hk) ih hw
 ·intro h
  induction h with
  |read hi h=>exact .read hi h
  |@flow i k r hi hk h hw ih=>
   by_cases h27:bV cs i=27
   ·obtain⟨e1,e2⟩:=rP (pt:=dC cs) h27
    rw[e2] at hk
    simp only[List.mem_cons,List.not_mem_nil,or_false] at hk
    rcases hk with rfl|rfl
    ·exact .flow hi (by rw[e1];simp) ih hw
    ·by_cases h31:bV cs (dC cs i)=31
     ·exact .flow hi (by rw[e1,if_pos h31];simp) ((qj hp hi h27 h31 (ih.range hR).1 (λj=>Ht _ j)).2 ih) hw
     ·exact .flow hi (by rw[e1,if_neg h31];simp) ih hw
   ·exact .flow hi ((jd h27).2 hk) ih hw
theorem sa(hp:P4 cs){R:Nat}(hR:∀x ∈ cs,∀r ∈ aB x.1 x.2.2.1 x.2.2.2.1,0<=r/\r<(R:Int)):dg cs (nxt cs (dC cs)) R=dg cs (bR cs (dC cs)) R:=by
 funext i
 unfold dg
 congr 1
 funext r
 exact decide_eq_decide.2 (cR hp hR)
theorem vq(hp:P4 cs){R:Nat}(hR:∀x ∈ cs,∀r ∈ aB x.1 x.2.2.1 x.2.2.2.1,0<=r/\r<(R:Int)){p q:Int}:fQ cs (nxt cs (dC cs)) p q↔fQ cs (bR cs (dC cs)) p q:=by
 have hs:∀i k,0<=ru cs i->(k ∈ nxt cs (dC cs) i↔k ∈ bR cs (dC cs) i):=λi k hw=>jd (λh27=>by
  have:ru cs i= -1:=gb (.inl h27)
  omega)
 unfold fQ
 constructor
 ·rintro (⟨h1,h2,h3⟩|⟨i,k,h1,h2,h3,h4⟩)
  ·exact .inl ⟨h1,(cR hp hR).1 h2,(cR hp hR).1 h3⟩
  ·refine .inr ⟨i,k,h1,(hs i k h3).1 h2,h3,?_⟩
   rcases h4 with⟨a,b,c⟩|⟨a,b,c⟩
   ·exact .inl ⟨a,b,(cR hp hR).1 c⟩
   ·exact .inr ⟨a,b,(cR hp hR).1 c⟩
 ·rintro (⟨h1,h2,h3⟩|⟨i,k,h1,h2,h3,h4⟩)
  ·exact .inl ⟨h1,(cR hp hR).2 h2,(cR hp hR).2 h3⟩
  ·refine .inr ⟨i,k,h1,(hs i k h3).2 h2,h3,?_⟩
   rcases h4 with⟨a,b,c⟩|⟨a,b,c⟩
   ·exact .inl ⟨a,b,(cR hp hR).2 c⟩
   ·exact .inr ⟨a,b,(cR hp hR).2 c⟩
theorem fQ.range{nx:Nat->List Nat}{R:Nat}(hR:∀x ∈ cs,∀r ∈ aB x.1 x.2.2.1 x.2.2.2.1,0<=r/\r<(R:Int))(hW:∀x ∈ cs,aW x.1 x.2.1<(R:Int)){p q:Int}(h:fQ cs nx p q):(0<=p/\p<(R:Int))/\(0<=q/\q<(R:Int)):=by
 have hw:∀i,i<cs.length->ru cs i<(R:Int):=λi hi=>hW _ (by rw[List.getD_eq_getElem?_getD,List.getElem?_eq_getElem hi];exact List.getElem_mem hi)
 rcases h with⟨_,h2,h3⟩|⟨i,k,h1,h2,h3,⟨h4,h5,h6⟩|⟨h4,h5,h6⟩⟩
 ·exact⟨h2.range hR,h3.range hR⟩
 ·have:=hw i h1;exact⟨by omega,h6.range hR⟩
 ·have:=hw i h1;exact⟨h6.range hR,by omega⟩
/-! ### the same names-/
theorem jQ(R:Nat):bK cs (R+1)=if cP cs (R:Int)=true then bK cs R++[R] else bK cs R:=by
 unfold bK
 rw[List.range_succ,List.filter_append]
 cases h:cP cs (R:Int)<;>simp[h]
theorem l9:∀R,eM (λr=>cP cs (r:Int)) R=(bK cs R).length
 |0=>rfl
 |R+1=>by
  rw[jQ]
  unfold eM
  rw[l9 R]
  split
  ·rw[List.length_append,List.length_singleton]
  ·rfl
theorem tD{l l2:List Nat}:∀{k:Nat},k<=l.length->mE (l++l2) k=mE l k
 |0,_=>rfl
 |k+1,h=>by
  unfold mE
  rw[tD (by omega),List.getD_eq_getElem?_getD,List.getElem?_append_left (by omega),<-List.getD_eq_getElem?_getD]
theorem tC:∀(R v:Nat),v<R->cP cs (v:Int)=true->mE (bK cs R) (bK cs R).length (v:Int)=some ((eM (λr=>cP cs (r:Int)) v:Nat):Int)
 |0,v,h,_=>by omega
 |R+1,v,h,ho=>by
  rw[jQ]
  by_cases e:v=R
  ·subst e
   rw[if_pos ho,List.length_append,List.length_singleton]
   unfold mE
   rw[if_pos (by rw[List.getD_eq_getElem?_getD,List.getElem?_append_right (Nat.le_refl _),Nat.sub_self];rfl),l9]
  ·have ih:=tC R v (by omega) ho
   split
   ·rw[List.length_append,List.length_singleton]
    unfold mE
    rw[if_neg (by rw[List.getD_eq_getElem?_getD,List.getElem?_append_right (Nat.le_refl _),Nat.sub_self];simp;omega),tD (Nat.le_refl _),ih]
   ·exact ih
theorem AN{l:List Nat}{k:Nat}{v:Int}(hv:v<0):mE l k v=none:=by
 cases hx:mE l k v with
 |none=>rfl
 |some y=>obtain⟨i,h1,h2,_⟩:=lC hx;omega
theorem yN(f:Nat->Bool)(R r:Nat)(h:r<R):(dj f R).getD r 0=((eM f r:Nat):Int):=by
 unfold dj
 rw[List.getD_eq_getElem?_getD,List.getElem?_map,List.getElem?_range h]
 rfl
theorem lH{nm:Int->Option Int}{nl:List Int}{x:In}{regs par nA:Int}(h:s6 regs par nA x)(hneg:nm (-1)=none)(hyes:∀v:Int,0<=v->v<regs->v ∈ bL x->nm v=some (nl.getD v.toNat 0)):eJ nm x=d9 nl x:=by
 obtain⟨h1,h2,h3⟩:=h.regs3
 have key:∀v:Int,(v= -1\/(0<=v/\v<regs/\v ∈ bL x))->fF nm v=gm nl v:=λv hv=>by
  unfold fF gm
  rcases hv with rfl|⟨g1,g2,g3⟩
  ·rw[hneg,if_pos (by decide)];rfl
  ·rw[hyes v g1 g2 g3,if_neg (by omega)];rfl
 unfold eJ d9
 rw[key _ h1,key _ h2,key _ h3]
theorem tz{x:In}(hx:x ∈ cs){r:Int}(h:r ∈ bL x):cP cs r=true:=by
 unfold cP
 rw[List.any_eq_true]
 exact⟨x,hx,List.contains_iff_mem.2 h⟩
theorem o7{regs:Nat}{par nA:Int}(hin:∀x ∈ cs,s6 regs par nA x):cs.map (eJ (mE (bK cs regs) (bK cs regs).length))=cs.map (d9 (dj (λr=>cP cs (r:Int)) regs)):=by
 refine List.map_congr_left (λx hx=>lH (hin x hx) (AN (by decide)) (λv h0 h1 hv=>?_))
 obtain⟨n,rfl⟩:∃n:Nat,v=n:=⟨v.toNat,by omega⟩
 rw[tC regs n (by omega) (tz hx hv),Int.toNat_natCast,yN _ _ _ (by omega)]
end
end Go.Proofs.Yteopfmnnhlhbmaa
namespace Go.Proofs.Yteopfmnnhlhbmaa
open Go.RowKit
theorem nz{P:Program}{f:FuncId}{args:List AV}{Pr:(Nat->Option OB)->Prop}{Post Post':(Nat->Option OB)->List RT->(Nat->Option OB)->Prop}(h:ik P f args Pr Post)(hp:∀M rs N,Post M rs N->Post' M rs N):ik P f args Pr Post':=λM hM=>
 ⟨(h M hM).1,λφ w args' a b c=>((h M hM).2 φ w args' a b c).mono λe w' hq=>by
  cases e with
  |panicked c=>exact hq.elim
  |outgrown=>exact hq.elim
  |returned u=>
   obtain⟨v,Hc,σ',⟨rs,N,l,q1,q2⟩,q3⟩:=hq
   exact⟨v,Hc,σ',⟨rs,N,l,hp _ _ _ q1,q2⟩,q3⟩⟩
theorem nJ{K:Nat->Nat}{l l2:List Nat}:∀{k:Nat},k<=l.length->cJ K (l++l2) k=cJ K l k
 |0,_=>rfl
 |k+1,h=>by
  unfold cJ
  rw[nJ (by omega),List.getD_eq_getElem?_getD,List.getElem?_append_left (by omega),<-List.getD_eq_getElem?_getD]
theorem nI{cs:List In}{K:Nat->Nat}:∀R,cJ K (bK cs R) (bK cs R).length=l6 K (λr=>cP cs (r:Int)) R
 |0=>rfl
 |R+1=>by
  rw[jQ]
  unfold l6
  have ih:=nI (cs:=cs) (K:=K) R
  split
  ·rw[List.length_append,List.length_singleton]
   unfold cJ
   rw[nJ (Nat.le_refl _),ih,List.getD_eq_getElem?_getD,List.getElem?_append_right (Nat.le_refl _),Nat.sub_self]
   rfl
  ·exact ih
theorem iq{cs:List In}{R i:Nat}(h:i<(bK cs R).length):(bK cs R).getD i 0<R/\cP cs (((bK cs R).getD i 0:Nat):Int)=true:=by
 rw[<-gq,List.getD_eq_getElem?_getD,List.getElem?_eq_getElem h]
 exact List.getElem_mem h
theorem uY{cs:List In}{R:Nat}{T:Int->List Int}{nb:Nat->Nat->Prop}(hT:∀a b,a<R->b<R->(((b:Nat):Int) ∈ T (a:Int)↔nb a b)){K K0:Nat->Nat}(h:zN T (bK cs R) K (bK cs R).length)(h0:rm (λr=>cP cs (r:Int)) nb R K0):
  ∀i,i<(bK cs R).length->K ((bK cs R).getD i 0)=K0 ((bK cs R).getD i 0):=by
 intro i
 induction i using Nat.strongRecOn with
 |_ i ih=>
  intro hi
  obtain⟨m1,m2⟩:=iq hi
  refine(h i hi).uniq ((h0.yes _ m1 m2).congr (λc=>?_))
  constructor
  ·rintro ⟨s,h1,h2,h3,h4⟩
   have hm:s ∈ bK cs R:=gq.2 ⟨by omega,h2⟩
   obtain⟨j,hj,e⟩:=List.getElem_of_mem hm
   have e2:(bK cs R).getD j 0=s:=by rw[List.getD_eq_getElem?_getD,List.getElem?_eq_getElem hj,e];rfl
   have hji:j<i:=by
    rcases Nat.lt_trichotomy j i with g|g|g
    ·exact g
    ·subst g;omega
    ·have:=oI (cK cs R) g hj;omega
   exact⟨j,hji,by rw[e2];exact(hT _ _ m1 (by omega)).2 h3,by rw[ih j hji hj,e2];exact h4⟩
  ·rintro ⟨j,h1,h2,h3⟩
   have hj:j<(bK cs R).length:=by omega
   obtain⟨n1,n2⟩:=iq hj
   exact⟨_,oI (cK cs R) h1 hi,n2,(hT _ _ m1 n1).1 h2,by rw[<-ih j h1 hj];exact h3⟩
noncomputable def AW(cs:List In)(nx:Nat->List Nat)(R:Nat)(p:Int):List Int:=((List.range R).filter λq:Nat=> @decide (fQ cs nx p (q:Int)) (Classical.propDecidable _)).map λq:Nat=>(q:Int)
theorem tF{cs:List In}{nx:Nat->List Nat}{R:Nat}{p q:Int}:q ∈ AW cs nx R p↔(0<=q/\q<(R:Int))/\fQ cs nx p q:=by
 unfold AW
 simp only[List.mem_map,List.mem_filter,List.mem_range]
 constructor
 ·rintro ⟨n,⟨h1,h2⟩,rfl⟩
  rw[@decide_eq_true_iff _ (Classical.propDecidable _)] at h2
  exact⟨by omega,h2⟩
 ·rintro ⟨h1,h2⟩
  obtain⟨n,rfl⟩:∃n:Nat,q=n:=⟨q.toNat,by omega⟩
  exact⟨n,⟨by omega,by rw[@decide_eq_true_iff _ (Classical.propDecidable _)];exact h2⟩,rfl⟩
theorem uT(cs:List In)(nx:Nat->List Nat)(R:Nat)(p:Int):(AW cs nx R p).Nodup:=by
 unfold AW
 exact List.Pairwise.map _ (λa b h e=>h (by omega)) (List.Pairwise.filter _ List.nodup_range)
theorem AU(cs:List In)(nx:Nat->List Nat)(R:Nat)(p:Int):(AW cs nx R p).length<=R:=by
 unfold AW
 rw[List.length_map]
 have:=List.length_filter_le (λq:Nat=> @decide (fQ cs nx p (q:Int)) (Classical.propDecidable _)) (List.range R)
 rw[List.length_range] at this
 exact this
section
variable {la:List (Bool×Int)} {R:Nat} {par:Int} {cs:List In} (hz:(fZ la R par cs).2=0) (ha:mj cs)
include hz
theorem Cw:∀x ∈ cs,s6 R par la.length x:=λx hx=>xZ ((b9 hz).ins x hx)
theorem aR:R<=1024:=by have:=(b9 hz).nregs;omega
theorem Sr:0<=par/\par<=1024:=by
 have h:=hz
 unfold fZ bu at h
 split at h
 ·simp at h
 split at h
 ·simp at h
 split at h
 ·simp at h
 rename_i hr
 omega
theorem zG:∀x ∈ cs,0<=x.1/\x.1<39:=λx hx=>(Cw hz x hx).op
theorem iU:∀x ∈ cs,∀r ∈ aB x.1 x.2.2.1 x.2.2.2.1,0<=r/\r<(R:Int):=λx hx=>(Cw hz x hx).reads
theorem ug:∀x ∈ cs,aW x.1 x.2.1<(R:Int):=λx hx=>((Cw hz x hx).writes (by omega)).1
theorem PZ:∀x ∈ cs,∀r ∈ bL x,r<(R:Int):=λx hx=>(Cw hz x hx).uses (by omega)
theorem zI:bH Try.prog 66 [.fs 5 cs.length (cC cs)] [.v (.fs 1 cs.length (gC (nxt cs (dC cs))))]:=by
 have h:=b9 hz
 obtain⟨_,hl,_,t,ht,hw,he⟩:=h.pt
 have hs:cs.length=t.size:=by rw[<-t.flat_length,<-ht,List.length_map]
 refine vt cs h.ncs (cG (cs.map bw) (cs.map bw).length 0 ⟨[],[],λ_=>[],λ_=>none⟩).pm (dC cs) (λi hi hb=>?_) (sP cs h.ncs h.nest)
 obtain⟨g1,g2⟩:=h.pok.at_ i hi hb
 refine⟨?_,g2⟩
 rw[ht,vN t hw,if_pos ⟨by omega,by omega,by rw[Int.toNat_natCast,<-ht,dV];exact hb⟩,Int.toNat_natCast,<-he,g1]
theorem aNx:∀i,i<cs.length->∀k ∈ nxt cs (dC cs) i,k<=cs.length:=λi hi k hk=>by
 have hp:=(b9 hz).pok
 by_cases h27:bV cs i=27
 ·rw[(rP h27).1] at hk
  have:=(hp.at_ i hi (.inl h27)).2
  simp only[List.mem_cons,List.not_mem_nil,or_false] at hk
  rcases hk with rfl|rfl
  ·omega
  ·split<;>omega
 ·exact AA hi (λhb=>(hp.at_ i hi hb).2) k ((jd h27).1 hk)
omit hz in
theorem P3:∀i,(nxt cs (dC cs) i).length<=2:=λi=>by unfold nxt;(repeat' split)<;>simp
omit hz in
theorem aW1:∀i k,i<cs.length->k ∈ nxt cs (dC cs) i->k=i->aW (cs.getD i (0,0,0,0,0)).1 (cs.getD i (0,0,0,0,0)).2.1= -1:=λi k hi hk e=>by
 by_cases hb:dL (bV cs i)
 ·exact gb hb
 ·unfold dL at hb
  unfold nxt at hk
  rw[if_neg (by omega),if_neg (by omega),if_neg (by omega),if_neg (by omega)] at hk
  simp at hk
  omega
include ha
theorem zH:bH Try.prog 11 [ay la.length (aC la) R par cs] [.v (.fs 1 (cs.length+1) (gC (dg cs (bR cs (dC cs)) R))),.v (.n .i64 0)]:=by
 have h:=b9 hz
 have hn:=h.ncs
 have hA:=h.nA
 have hR:=aR hz
 have:=Bc la R par cs (by omega) ha hz (nxt cs (dC cs)) R (by omega) (zI hz) hn (zG hz) (aNx hz) P3 (iU hz) aW1
 rw[sa h.pok (iU hz)] at this
 exact this
theorem s5:bH Try.prog 27 [ay la.length (aC la) R par cs] [.v (.n .i64 (fZ la R par cs).1),.v (.n .i64 0)]:=by
 have h:=b9 hz
 have hn:=h.ncs
 have hA:=h.nA
 have:=g8 la R par cs (by omega) (by omega) ha
 rw[hz] at this
 exact this
theorem uh:bH Try.prog 39 [ay la.length (aC la) R par cs] [.v (.n .i64 (pR (la.map jI) R par (cs.map bw)).1),.v (.n .i64 0)]:=by
 have h:=b9 hz
 have hn:=h.ncs
 have hA:=h.nA
 have:=iH la R par cs (by omega) (by omega) ha
 rw[hz] at this
 exact this
omit ha in
theorem P1:bH Try.prog 23 [.fs 5 cs.length (cC cs)] [.v (.fs 1 (rG cs).length (iC .i64 (rG cs))),.v (.n .i64 0),.v (.n .i64 0)]:=by
 have h:=b9 hz
 obtain⟨_,hl,_,t,ht,hw,he⟩:=h.pt
 rw[he]
 exact ux cs t ht hw h.ncs
omit ha in
theorem IE:bH Try.prog 40 [ay la.length (aC la) R par cs] [.v (.fs 1 (cs.length+1) (λi _=> .fs 1 R (bC (H5 cs (bR cs (dC cs)) i))))]:=by
 have h:=b9 hz
 have hR:=aR hz
 exact uB la par cs R (by omega) h.ncs (rG cs) h.pok.len (dC cs) _ _ rfl rfl (P1 hz) h.pok.at_ (zG hz) (iU hz)
theorem zF:bH Try.prog 12 [ay la.length (aC la) R par cs] [.v (.fs 1 (cs.length+1) (gC (dg cs (bR cs (dC cs)) R))),.v (.n .i64 0)]:=by
 have h:=b9 hz
 have hn:=h.ncs
 have hR:=aR hz
 exact wZ la.length (aC la) R par cs _ (uh hz ha) (cs.length+1) R (by omega) (by omega) _ (IE hz)
theorem nS:bH Try.prog 13 [ay la.length (aC la) R par cs] [.v (.n .i64 (rH (dg cs (bR cs (dC cs)) R) (cs.length+1))),.v (.n .i64 0)]:=by
 have hn:=(b9 hz).ncs
 have hR:=aR hz
 exact i9 la.length (aC la) R par cs _ _ (by omega) 0 (λi=>by have:=jX cs (bR cs (dC cs)) R i;omega) (zH hz ha)
theorem sZ:bH Try.prog 14 [ay la.length (aC la) R par cs] [.v (.n .i64 (rH (dg cs (bR cs (dC cs)) R) (cs.length+1))),.v (.n .i64 0)]:=by
 have hn:=(b9 hz).ncs
 have hR:=aR hz
 exact og la.length (aC la) R par cs _ _ (by omega) (λi=>by have:=jX cs (bR cs (dC cs)) R i;omega) (zF hz ha)
omit ha in
theorem P2:bH Try.prog 52 [.fs 5 cs.length (cC cs)] [.v (.fs 1 (bK cs R).length (λj _=> .n .i64 (((bK cs R).getD j 0:Nat):Int)))]:=by
 have hR:=aR hz
 exact mM cs R (by omega) (b9 hz).ncs (zG hz) (PZ hz) (λx hx=>by
  rw[jH]
  have:(aB x.1 x.2.2.1 x.2.2.2.1).length<=2:=by unfold aB;(repeat' split)<;>simp
  omega)
omit ha in
theorem P0:bH Try.prog 53 [ay la.length (aC la) R par cs] [.v (.fs 1 R (bC (λr=>cP cs (r:Int))))]:=by
 have hR:=aR hz
 exact wW la par cs R (by omega) (b9 hz).ncs (zG hz) (iU hz) (ug hz)
def Iv(cs:List In)(R:Nat):List In:=cs.map (d9 (dj (λr=>cP cs (r:Int)) R))
theorem zJ:bH Try.prog 20 [ay la.length (aC la) R par cs] [.v (ay la.length (aC la) (bK cs R).length par (Iv cs R)),.v (.n .i64 0)]:=by
 have h:=b9 hz
 have hA:=h.nA
 have hR:=aR hz
 have hl:=pY cs R
 have:=sH la R par cs _ (by omega) h.ncs (bK cs R) (cK cs R) (by omega) (s5 hz ha) (P2 hz)
 rw[o7 (Cw hz)] at this
 exact this
theorem vS:bH Try.prog 21 [ay la.length (aC la) R par cs] [.v (ay la.length (aC la) (bK cs R).length par (Iv cs R)),.v (.n .i64 0)]:=by
 have h:=b9 hz
 have hA:=h.nA
 have hR:=aR hz
 have:=pT la R par cs _ (by omega) h.ncs (by omega) (λr=>cP cs (r:Int)) (λx hx=>by
  obtain⟨h1,h2,h3⟩:=(Cw hz x hx).regs3
  omega) (uh hz ha) (P0 hz)
 rw[l9] at this
 exact this
noncomputable def clr(cs:List In)(R:Nat):Nat->Nat:=PU (λr=>cP cs (r:Int)) (λr s=>vp cs (bR cs (dC cs)) r s=true) R
noncomputable def kD(cs:List In)(R:Nat):Nat:=l6 (clr cs R) (λr=>cP cs (r:Int)) R
omit hz ha in
theorem kU(cs:List In)(R:Nat):rm (λr=>cP cs (r:Int)) (λr s=>vp cs (bR cs (dC cs)) r s=true) R (clr cs R):=yL _ _ _
omit ha in
theorem ui:ik Try.prog 42 [.fs 5 cs.length (cC cs)] (λ_=>True) (λM rs N=>∃(r1:Nat) (x:di),rs=[.v (.cv (.map (some r1))),.v (.n .i64 (kD cs R))]/\N r1=some (.mp x)/\x.get=fi (jG (clr cs R) (bK cs R) (bK cs R).length)):=by
 have h:=b9 hz
 have hR:=aR hz
 have hl:=pY cs R
 have hi:=jY cs (nxt cs (dC cs)) R (zI hz) h.ncs (zG hz) (aNx hz) P3 (iU hz) aW1
 have hin:=nz hi (Post':=λM rs N=>∃(r0:Nat) (pa:Int->Option Nat) (T':Int->List Int),rs=[.v (.cv (.map (some r0)))]/\f9 r0 pa T' N/\(∀p,(T' p).Nodup)/\(∀p q,q ∈ T' p↔q ∈ AW cs (bR cs (dC cs)) R p)) (λM rs N ⟨r0,pa,T',e1,e2,e3,e4⟩=>⟨r0,pa,T',e1,e2,e3,λp q=>by
  rw[e4,tF,vq h.pok (iU hz)]
  exact⟨λg=>⟨(fQ.range (iU hz) (ug hz) g).2,g⟩,λg=>g.2⟩⟩)
 refine nz (sI cs (AW cs (bR cs (dC cs)) R) (bK cs R) (cK cs R) (by omega) (uT _ _ _) (λp=>by have:=AU cs (bR cs (dC cs)) R p;omega) hin (P2 hz)) (λM rs N ⟨r1,x,K,e1,e2,e3,e4⟩=>?_)
 have hu:=uY (cs:=cs) (R:=R) (T:=AW cs (bR cs (dC cs)) R) (nb:=λr s=>vp cs (bR cs (dC cs)) r s=true) (λa b ha hb=>by
  rw[tF,lN]
  exact⟨λg=>g.2,λg=>⟨by omega,g⟩⟩) e4 (kU cs R)
 rw[gH hu,nI] at e1
 rw[jR hu] at e3
 exact⟨r1,x,e1,e2,e3⟩
omit ha in
end
end Go.Proofs.Yteopfmnnhlhbmaa
namespace Go.Proofs.Yteopfmnnhlhbmaa
open Go.RowKit
noncomputable def pq(cs:List In)(R:Nat):List Int:=kL (clr cs R) R
theorem Iw{cs:List In}{R v:Nat}(h:v<R):clr cs R v<R:=by
 have:=(kU cs R).le v h
 omega
theorem BD(cs:List In)(R:Nat):kD cs R<=R:=tW (λr hr=>(kU cs R).le r hr)
section
variable {la:List (Bool×Int)} {R:Nat} {par:Int} {cs:List In} (hz:(fZ la R par cs).2=0) (ha:mj cs)
include hz
theorem jT:∀x ∈ cs,eJ (jG (clr cs R) (bK cs R) (bK cs R).length) x=d9 (pq cs R) x:=λx hx=>by
 refine lH (Cw hz x hx) ?_ (λv h0 h1 hv=>?_)
 ·cases h:jG (clr cs R) (bK cs R) (bK cs R).length (-1) with
  |none=>rfl
  |some y=>
   obtain⟨i,_,h2,_⟩:=(jf (cK cs R) (Nat.le_refl _) _ _).1 h
   omega
 ·obtain⟨n,rfl⟩:∃n:Nat,v=n:=⟨v.toNat,by omega⟩
  have hm:n ∈ bK cs R:=gq.2 ⟨by omega,tz hx hv⟩
  obtain⟨i,hi,e⟩:=List.getElem_of_mem hm
  have e2:(bK cs R).getD i 0=n:=by rw[List.getD_eq_getElem?_getD,List.getElem?_eq_getElem hi,e];rfl
  refine(jf (cK cs R) (Nat.le_refl _) _ _).2 ⟨i,hi,by rw[e2],?_⟩
  rw[e2,Int.toNat_natCast]
  exact xV _ _ _ (by omega)
theorem Ag:∀x ∈ cs,(-1<=gm (pq cs R) x.2.1/\gm (pq cs R) x.2.1<100000)/\(-1<=gm (pq cs R) x.2.2.1/\gm (pq cs R) x.2.2.1<100000)/\(-1<=gm (pq cs R) x.2.2.2.1/\gm (pq cs R) x.2.2.2.1<100000):=λx hx=>by
 have hR:=aR hz
 have key:∀v:Int,(v= -1\/(0<=v/\v<(R:Int)/\v ∈ bL x))-> -1<=gm (pq cs R) v/\gm (pq cs R) v<100000:=λv hv=>by
  unfold gm
  rcases hv with rfl|⟨h0,h1,_⟩
  ·rw[if_pos (by decide)];omega
  ·rw[if_neg (by omega)]
   have hv:v.toNat<R:=by omega
   have e:(pq cs R).getD v.toNat 0=((clr cs R v.toNat:Nat):Int):=xV _ _ _ hv
   rw[e]
   have:=Iw (cs:=cs) hv
   omega
 obtain⟨h1,h2,h3⟩:=(Cw hz x hx).regs3
 exact⟨key _ h1,key _ h2,key _ h3⟩
include ha
theorem vU{r:Nat}(hr:4<=r/\r<=1024)(hn:kD cs R<=r):bH Try.prog 17 [ay la.length (aC la) R par cs,.n .i64 r] [.v (ay la.length (aC la) (kD cs R) par (cs.map (d9 (pq cs R)))),.v (.n .i64 0)]:=by
 have h:=b9 hz
 have hA:=h.nA
 have:=zz la R par cs _ (by omega) h.ncs r (kD cs R) hr _ (s5 hz ha) (ui hz) hn
 rw[List.map_congr_left (jT hz)] at this
 exact this
theorem vT{r:Nat}(hr:4<=r/\r<=1024)(hn:r<kD cs R):bH Try.prog 17 [ay la.length (aC la) R par cs,.n .i64 r] (if 1024<par+(kD cs R:Int)-((r:Int)-3)\/16384<(wP (pq cs R) ((r:Int)-3) par cs).length then[.v ta,.v (.n .i64 6)] else[.v (ay la.length (aC la) r (par+(kD cs R:Int)-((r:Int)-3)) (wP (pq cs R) ((r:Int)-3) par cs)),.v (.n .i64 0)]):=by
 have h:=b9 hz
 have hA:=h.nA
 have hR:=aR hz
 have hcl:=BD cs R
 have e:nW (jG (clr cs R) (bK cs R) (bK cs R).length) ((r:Int)-3) par cs=wP (pq cs R) ((r:Int)-3) par cs:=by
  unfold nW wP
  rw[List.map_congr_left (λx hx=>by rw[jT hz x hx])]
 have hg:∀y ∈ cs,(-1<=fF (jG (clr cs R) (bK cs R) (bK cs R).length) y.2.1/\fF (jG (clr cs R) (bK cs R) (bK cs R).length) y.2.1<100000)/\(-1<=fF (jG (clr cs R) (bK cs R) (bK cs R).length) y.2.2.1/\fF (jG (clr cs R) (bK cs R) (bK cs R).length) y.2.2.1<100000)/\(-1<=fF (jG (clr cs R) (bK cs R) (bK cs R).length) y.2.2.2.1/\fF (jG (clr cs R) (bK cs R) (bK cs R).length) y.2.2.2.1<100000):=λy hy=>by
  have e1:=jT hz y hy
  unfold eJ d9 at e1
  simp only[Prod.mk.injEq,true_and] at e1
  obtain⟨e1,e2,e3,_⟩:=e1
  rw[e1,e2,e3]
  exact Ag hz y hy
 have:=zy la R par cs _ (by omega) h.ncs r (kD cs R) hr _ (s5 hz ha) (ui hz) hn (by omega) (Sr hz) hg
 rw[e] at this
 exact this
end
end Go.Proofs.Yteopfmnnhlhbmaa
namespace Go.Proofs.Yteopfmnnhlhbmaa
open Go.RowKit
def we:List In->Int->Bool
 |[],_=>false
 |x::l,r=>(aB x.1 x.2.2.1 x.2.2.2.1).contains r||(!decide (r=aW x.1 x.2.1)&&we l r)
def lV(cs:List In):Bool:=cs.all λx=>decide (¬dL x.1)
theorem Bo{cs:List In}(h:lV cs=true){i:Nat}(hi:i<cs.length):¬dL (bV cs i):=by
 have:=List.all_eq_true.1 h (cs.getD i (0,0,0,0,0)) (by rw[List.getD_eq_getElem?_getD,List.getElem?_eq_getElem hi];exact List.getElem_mem hi)
 exact of_decide_eq_true this
theorem tQ{cs:List In}(h:lV cs=true)(pt:Nat->Nat){i:Nat}(hi:i<cs.length):bR cs pt i=[i+1]:=by
 have:=Bo h hi
 unfold dL at this
 unfold bR
 rw[if_neg (by omega),if_neg (by omega),if_neg (by omega)]
theorem r8{cs:List In}{nx:Nat->List Nat}(hnx:∀i,i<cs.length->nx i=[i+1]){i:Nat}{r:Int}:br cs nx i r↔we (cs.drop i) r=true:=by
 constructor
 ·intro h
  induction h with
  |@read i r hi h=>
   rw[List.drop_eq_getElem_cons hi]
   have e:cs.getD i (0,0,0,0,0)=cs[i]:=by rw[List.getD_eq_getElem?_getD,List.getElem?_eq_getElem hi];rfl
   rw[e] at h
   unfold we
   rw[List.contains_iff_mem.2 h];rfl
  |@flow i k r hi hk h hw ih=>
   rw[hnx i hi] at hk
   simp at hk
   subst hk
   rw[List.drop_eq_getElem_cons hi]
   have e:cs.getD i (0,0,0,0,0)=cs[i]:=by rw[List.getD_eq_getElem?_getD,List.getElem?_eq_getElem hi];rfl
   rw[e] at hw
   unfold we
   rw[ih,decide_eq_false hw]
   simp
 ·intro h
  by_cases hi:i<cs.length
  ·have e:cs.getD i (0,0,0,0,0)=cs[i]:=by rw[List.getD_eq_getElem?_getD,List.getElem?_eq_getElem hi];rfl
   have ih:we (cs.drop (i+1)) r=true->br cs nx (i+1) r:=λh=>(r8 hnx).2 h
   rw[List.drop_eq_getElem_cons hi] at h
   unfold we at h
   simp only[Bool.or_eq_true,Bool.and_eq_true,Bool.not_eq_true',decide_eq_false_iff_not] at h
   rcases h with h|⟨h1,h2⟩
   ·exact .read hi (by rw[e];exact List.contains_iff_mem.1 h)
   ·exact .flow hi (by rw[hnx i hi];simp) (ih h2) (by rw[e];exact h1)
  ·rw[List.drop_eq_nil_of_le (by omega)] at h
   cases h
termination_by cs.length-i
decreasing_by omega
theorem Bd{cs:List In}{nx:Nat->List Nat}(hnx:∀i,i<cs.length->nx i=[i+1])(R i:Nat):dg cs nx R i=(List.range R).filter λr:Nat=>we (cs.drop i) (r:Int):=by
 unfold dg
 congr 1
 funext r
 rw[Bool.eq_iff_iff,@decide_eq_true_iff _ (Classical.propDecidable _)]
 exact r8 hnx
def Qa(cs:List In)(p q:Int):Bool:=(!decide (p=q)&&(we cs p&&we cs q))||(List.range cs.length).any λi=>decide (0<=ru cs i)&&((decide (p=ru cs i)&&(!decide (q=p)&&we (cs.drop (i+1)) q))||(decide (q=ru cs i)&&(!decide (p=q)&&we (cs.drop (i+1)) p)))
theorem xY{cs:List In}{nx:Nat->List Nat}(hnx:∀i,i<cs.length->nx i=[i+1]){p q:Int}:fQ cs nx p q↔Qa cs p q=true:=by
 unfold fQ Qa
 simp only[Bool.or_eq_true,Bool.and_eq_true,Bool.not_eq_true',decide_eq_false_iff_not,decide_eq_true_eq,List.any_eq_true,List.mem_range,r8 hnx,List.drop_zero]
 constructor
 ·rintro (h|⟨i,k,h1,h2,h3,h4⟩)
  ·exact .inl h
  ·rw[hnx i h1] at h2
   simp at h2
   subst h2
   exact .inr ⟨i,h1,h3,h4⟩
 ·rintro (h|⟨i,h1,h3,h4⟩)
  ·exact .inl h
  ·exact .inr ⟨i,i+1,h1,by rw[hnx i h1];simp,h3,h4⟩
def A0(l:List Nat):Nat:=((List.range (l.length+1)).find? λc=> !l.contains c).getD 0
def iM(cs:List In):Nat->List Nat
 |0=>[]
 |r+1=>iM cs r++[if cP cs (r:Int)=true then A0 (((List.range r).filter λs:Nat=>cP cs (s:Int)&&Qa cs (r:Int) (s:Int)).map λs=>(iM cs r).getD s 0) else 0]
theorem jv(cs:List In):∀n,(iM cs n).length=n
 |0=>rfl
 |n+1=>by unfold iM;rw[List.length_append,List.length_singleton,jv cs n]
theorem jw(cs:List In):∀(n r:Nat),r<n->(iM cs n).getD r 0=(iM cs (r+1)).getD r 0
 |0,r,h=>by omega
 |n+1,r,h=>by
  by_cases e:r=n
  ·subst e;rfl
  ·conv=>lhs;unfold iM
   rw[List.getD_eq_getElem?_getD,List.getElem?_append_left (by rw[jv];omega),<-List.getD_eq_getElem?_getD]
   exact jw cs n r (by omega)
theorem xw(l:List Nat):ee (λc=>c ∈ l) (A0 l):=by
 unfold A0
 cases h:(List.range (l.length+1)).find? (λc=> !l.contains c) with
 |none=>
  exfalso
  have h1:=List.find?_eq_none.1 h
  have:=fA (l:=List.range (l.length+1)) (l':=l) List.nodup_range (λc hc=>by
   have:=h1 c hc
   simpa using this)
  rw[List.length_range] at this
  omega
 |some c=>
  rw[Option.getD_some]
  obtain⟨h1,l1,l2,h2,h3⟩:=List.find?_eq_some_iff_append.1 h
  refine⟨by simpa using h1,λc' hc'=>?_⟩
  have hlen:l1.length=c:=by
   have e1:(List.range (l.length+1))[l1.length]? =some c:=by rw[h2,List.getElem?_append_right (Nat.le_refl _),Nat.sub_self];rfl
   obtain⟨q1,q2⟩:=List.getElem?_eq_some_iff.1 e1
   rw[List.getElem_range] at q2
   exact q2
  have hm:c' ∈ l1:=by
   have e1:(List.range (l.length+1))[c']? =some c':=List.getElem?_range (by
    have:=congrArg List.length h2
    simp at this
    omega)
   rw[h2,List.getElem?_append_left (by omega)] at e1
   exact List.mem_of_getElem? e1
  have:=h3 c' hm
  simpa using this
theorem yK(cs:List In){nx:Nat->List Nat}(hnx:∀i,i<cs.length->nx i=[i+1])(n:Nat):rm (λr=>cP cs (r:Int)) (λr s=>vp cs nx r s=true) n (λr=>(iM cs n).getD r 0):=by
 have key:∀r,r<n->(iM cs n).getD r 0=if cP cs (r:Int)=true then A0 (((List.range r).filter λs:Nat=>cP cs (s:Int)&&Qa cs (r:Int) (s:Int)).map λs=>(iM cs n).getD s 0) else 0:=λr hr=>by
  rw[jw cs n r hr]
  conv=>lhs;unfold iM
  rw[List.getD_eq_getElem?_getD,List.getElem?_append_right (by rw[jv];exact Nat.le_refl _),jv,Nat.sub_self,List.getElem?_cons_zero,Option.getD_some]
  split
  ·congr 1
   refine List.map_congr_left (λs hs=>?_)
   have hs:=List.mem_range.1 (List.mem_filter.1 hs).1
   rw[jw cs n s (by omega),jw cs r s hs]
  ·rfl
 refine⟨λr hr ho=>?_,λr hr ho=>?_⟩
 ·have e:=key r hr
  rw[if_pos ho] at e
  show ee _ ((iM cs n).getD r 0)
  rw[e]
  refine(xw _).congr (λc=>?_)
  simp only[List.mem_map,List.mem_filter,List.mem_range,Bool.and_eq_true]
  constructor
  ·rintro ⟨s,⟨h1,h2,h3⟩,h4⟩
   exact⟨s,h1,h2,lN.2 ((xY hnx).2 h3),h4⟩
  ·rintro ⟨s,h1,h2,h3,h4⟩
   exact⟨s,⟨h1,h2,(xY hnx).1 (lN.1 h3)⟩,h4⟩
 ·have e:=key r hr
  rw[if_neg (by show ¬_;rw[show cP cs (r:Int)=false from ho];decide)] at e
  exact e
theorem Cs{cs:List In}(h:lV cs=true)(R:Nat):∀r,r<R->clr cs R r=(iM cs R).getD r 0:=
 (kU cs R).uniq (yK cs (λi hi=>tQ h _ hi) R) (λ_ _=>Iff.rfl)
theorem Cn{cs:List In}(h:lV cs=true)(R:Nat):pq cs R=(List.range R).map λr=>(((iM cs R).getD r 0:Nat):Int):=by
 unfold pq kL
 exact List.map_congr_left (λr hr=>by rw[Cs h R r (List.mem_range.1 hr)])
theorem yO{cs:List In}(h:lV cs=true)(R:Nat):kD cs R=l6 (λr=>(iM cs R).getD r 0) (λr=>cP cs (r:Int)) R:=lZ (Cs h R)
theorem ntG(l:List Nat)(i j:Nat):eY l i j= .n .i64 ((l.getD i 0:Nat):Int):=rfl
theorem vF(l:List Nat)(hl:l.length<=100000):bH Try.prog 16 [.fs 1 l.length (eY l),.fs 1 l.length (eY l)] [.v (.b true)]:=by
 have hadd:∀j:Nat,j<200000->IntKind.wrap .i64 ((j:Int)+1)=((j+1:Nat):Int):=λj hj=>by rw[aV (by omega)];omega
 have hll:decide ((l.length:Int)=(l.length:Int))=true:=decide_eq_true rfl
 refine aD aZ JB ⟨by simp,by decide⟩ ?_
 simp only[bz]
 repeat first|with_reducible refine au ?_|simp only[hll,decide_true,go_sem,simprocAttr]
 refine GA.loop (I:=λmm e H=>∃(k:Nat),mm=l.length-k/\k<=l.length/\e=aF [(0,.fs 1 l.length (eY l)),(1,.fs 1 l.length (eY l)),(12,.n .i64 l.length),(13,.n .i64 k)]/\H=aY []) (Wk.mk [] [] ?_ ?_ ?_) ⟨0,rfl,Nat.zero_le _,rfl,rfl⟩ ?_
 ·simp only[bh,bf,go_sem,simprocAttr]
  repeat' refine ab ?_ ?_
  all_goals first|exact bm|skip
 ·exact .nil
 ·simp
 rintro mm e H ⟨k,rfl,hk,rfl,rfl⟩
 repeat first|with_reducible refine au ?_|simp only[go_sem,simprocAttr]
 refine⟨λh=>?_,λh=>?_⟩
 ·have hkl:k<l.length:=by omega
  have hk0:(0:Int)<=(k:Int):=by omega
  have ha:=hadd k (by omega)
  have hg:=ntG l k 0
  have hvv:decide (((l.getD k 0:Nat):Int)=((l.getD k 0:Nat):Int))=true:=decide_eq_true rfl
  repeat first|with_reducible refine au ?_|simp only[hk0,h,hg,hvv,ha,decide_true,go_sem,simprocAttr]
  refine⟨_,_,_,?_,Wk.mk [] [] ?_ ?_ ?_,k+1,rfl,by omega,rfl,rfl⟩
  ·omega
  ·simp only[bh,bf,go_sem,simprocAttr]
   repeat' refine ab ?_ ?_
   all_goals first|exact bm|skip
  ·exact .nil
  ·simp
 ·repeat first|with_reducible refine au ?_|simp only[go_sem,simprocAttr]
  exact⟨[_],rfl,cX.v rfl rfl .nil⟩
theorem iw(n:Nat)(hn:n<=100000)(L:Nat->List Nat)(hL:∀i,(L i).length<=100000):bH Try.prog 15 [.fs 1 n (gC L),.fs 1 n (gC L),.f 16 [] []] [.v (.b true)]:=by
 have hadd:∀j:Nat,j<200000->IntKind.wrap .i64 ((j:Int)+1)=((j+1:Nat):Int):=λj hj=>by rw[aV (by omega)];omega
 have hll:decide ((n:Int)=(n:Int))=true:=decide_eq_true rfl
 refine aD aZ JN ⟨by simp,by decide⟩ ?_
 simp only[bz]
 repeat first|with_reducible refine au ?_|simp only[hll,decide_true,go_sem,simprocAttr]
 refine GA.loop (I:=λmm e H=>∃(k:Nat),mm=n-k/\k<=n/\e=aF [(1,.fs 1 n (gC L)),(2,.f 16 [] []),(15,.fs 1 n (gC L)),(16,.n .i64 n),(17,.n .i64 k)]/\H=aY []) (Wk.mk [] [] ?_ ?_ ?_) ⟨0,rfl,Nat.zero_le _,rfl,rfl⟩ ?_
 ·simp only[bh,bf,go_sem,simprocAttr]
  repeat' refine ab ?_ ?_
  all_goals first|exact bm|skip
 ·exact .nil
 ·simp
 rintro mm e H ⟨k,rfl,hk,rfl,rfl⟩
 repeat first|with_reducible refine au ?_|simp only[go_sem,simprocAttr]
 refine⟨λh=>?_,λh=>?_⟩
 ·have hkl:k<n:=by omega
  have hk0:(0:Int)<=(k:Int):=by omega
  have ha:=hadd k (by omega)
  have hg:gC L k 0= .fs 1 (L k).length (eY (L k)):=rfl
  repeat first|with_reducible refine au ?_|simp only[hk0,h,hg,decide_true,go_sem,simprocAttr]
  refine Ig (vF (L k) (hL k)) ?_
  repeat first|with_reducible refine au ?_|simp only[ha,go_sem,simprocAttr]
  refine⟨_,_,_,?_,Wk.mk [] [] ?_ ?_ ?_,k+1,rfl,by omega,rfl,rfl⟩
  ·omega
  ·simp only[bh,bf,go_sem,simprocAttr]
   repeat' refine ab ?_ ?_
   all_goals first|exact bm|skip
  ·exact .nil
  ·simp
 ·repeat first|with_reducible refine au ?_|simp only[go_sem,simprocAttr]
  exact⟨[_],rfl,cX.v rfl rfl .nil⟩
def dU(k:Nat):In:=(0,(k:Int),-1,-1,((k+5:Nat):Int))
def fo(k:Nat):In:=(34,-1,(k:Int),-1,0)
theorem i8(k:Nat)(hk:k<=1000):bH Try.prog 34 [.n .i64 k] [.v (fK (dU k))]:=by
 have h1:IntKind.wrap .i64 ((k:Int)+5)=((k+5:Nat):Int):=by rw[aV (by omega)];omega
 have h2:IntKind.wrap .u32 (((k+5:Nat)):Int)=((k+5:Nat):Int):=zV (by omega)
 refine aD aZ J3 ⟨by simp,by decide⟩ ?_
 simp only[bz]
 repeat first|with_reducible refine au ?_|simp only[h1,h2,go_sem,simprocAttr]
 exact⟨[_],rfl,cX.v rfl rfl .nil⟩
theorem qK(k:Nat):bH Try.prog 35 [.n .i64 k] [.v (fK (fo k))]:=by
 refine aD aZ J0 ⟨by simp,by decide⟩ ?_
 simp only[bz]
 repeat first|with_reducible refine au ?_|simp only[go_sem,simprocAttr]
 exact⟨[_],rfl,cX.v rfl rfl .nil⟩
def px:List In:=[dU 0,dU 1,(8,2,0,1,0),fo 2]
def oQ:List In:=[dU 0,dU 1,dU 2,dU 3,dU 4,fo 0,fo 1,fo 2,fo 3,fo 4]
def Sq(i:Nat):List Nat:=(List.range 3).filter λr:Nat=>we (px.drop i) (r:Int)
theorem lX:lV px=true:=by rfl
theorem qG:lV oQ=true:=by rfl
theorem sA:(fZ [] ((3:Nat):Int) 0 px).2=0:=by rfl
theorem Iq:(fZ [] ((5:Nat):Int) 0 oQ).2=0:=by rfl
theorem oT:mj px:=by
 intro x hx
 simp only[px,dU,fo,List.mem_cons,List.not_mem_nil,or_false] at hx
 rcases hx with rfl|rfl|rfl|rfl<;>simp
theorem Br:mj oQ:=by
 intro x hx
 simp only[oQ,dU,fo,List.mem_cons,List.not_mem_nil,or_false] at hx
 rcases hx with rfl|rfl|rfl|rfl|rfl|rfl|rfl|rfl|rfl|rfl<;>simp
theorem qH:dg px (bR px (dC px)) 3=Sq:=by
 funext i
 exact Bd (λj hj=>tQ lX _ hj) 3 i
theorem Ip:bH Try.prog 11 [ay 0 (aC []) 3 0 px] [.v (.fs 1 5 (gC Sq)),.v (.n .i64 0)]:=by
 have:=zH (la:=[]) (R:=3) (par:=0) (cs:=px) sA oT
 rw[qH] at this
 exact this
theorem sw:bH Try.prog 13 [ay 0 (aC []) 3 0 px] [.v (.n .i64 2),.v (.n .i64 0)]:=by
 have:=nS (la:=[]) (R:=3) (par:=0) (cs:=px) sA oT
 rw[qH] at this
 exact this
theorem oS:kD px 3=2/\pq px 3=[0,1,0]:=by
 rw[yO lX,Cn lX]
 exact⟨by rfl,by rfl⟩
theorem oP:kD oQ 5=5/\pq oQ 5=[0,1,2,3,4]:=by
 rw[yO qG,Cn qG]
 exact⟨by rfl,by rfl⟩
def Ir:List In:=[dU 0,dU 1,(8,0,0,1,0),fo 0]
theorem yp:bH Try.prog 17 [ay 0 (aC []) 3 0 px,.n .i64 4] [.v (ay 0 (aC []) 2 0 Ir),.v (.n .i64 0)]:=by
 have:=vU (la:=[]) (R:=3) (par:=0) (cs:=px) sA oT (r:=4) (by omega) (by rw[oS.1];omega)
 rw[oS.1,oS.2] at this
 exact this
def sx:List In:=wP [0,1,2,3,4] 1 0 oQ
theorem qF:bH Try.prog 17 [ay 0 (aC []) 5 0 oQ,.n .i64 4] [.v (ay 0 (aC []) 4 4 sx),.v (.n .i64 0)]:=by
 have:=vT (la:=[]) (R:=5) (par:=0) (cs:=oQ) Iq Br (r:=4) (by omega) (by rw[oP.1];omega)
 rw[oP.1,oP.2] at this
 exact this
def yo(k:Nat):List In:=oQ.take k
theorem qE(k:Nat)(hk:k<10):yo (k+1)=yo k++[oQ.getD k (0,0,0,0,0)]:=by
 unfold yo
 rw[List.take_add_one,List.getD_eq_getElem?_getD,List.getElem?_eq_getElem (show k<oQ.length from hk)]
 rfl
theorem oO(k:Nat)(hk:k<=10):(yo k).length=k:=by
 unfold yo
 rw[List.length_take]
 exact Nat.min_eq_left hk
theorem sC{M:List Nat}{H:AH}{b:Nat}{x:AB}(hm:b ∈ M)(hx:H.at b=some x)(hs:x.size=20)(hg:∀i j,i<4->j<5->x.get (0+i*5+j)=cC px i j):Cv M H (.agg [.sl0,.n .i64 3,.n .i64 0,.sl b 0 4 4]) (ay 0 (aC []) 3 0 px):=by
 refine .agg rfl λi v v' h1 h2=>?_
 match i,h1,h2 with
 |0,h1,h2=>cases h1;cases h2;exact .sl0 _ _
 |1,h1,h2=>cases h1;cases h2;exact .rfl rfl
 |2,h1,h2=>cases h1;cases h2;exact .rfl rfl
 |3,h1,h2=>cases h1;cases h2;exact .sl (x:=x) hm hx (by rw[hs];decide) (by decide) (by rw[hs];decide) hg (λi j _ hj=>bO i hj)
 |i+4,h1,h2=>cases h1
theorem Iu{M:List Nat}{H:AH}:Cv M H (.agg [.sl0,.n .i64 5,.n .i64 0,.fs 5 10 (cC oQ)]) (.agg [.fs 2 0 (aC []),.n .i64 5,.n .i64 0,.fs 5 10 (cC oQ)]):=by
 refine .agg rfl λi v v' h1 h2=>?_
 match i,h1,h2 with
 |0,h1,h2=>cases h1;cases h2;exact .sl0 _ _
 |1,h1,h2=>cases h1;cases h2;exact .rfl rfl
 |2,h1,h2=>cases h1;cases h2;exact .rfl rfl
 |3,h1,h2=>cases h1;cases h2;exact .rfl rfl
 |i+4,h1,h2=>cases h1
theorem Iy:GA Try.prog 126 (aE Try.prog 10) (.seq (.reg Cb) (.seq (.seq (.reg Ca) (.block 0 wq)) (.seq (.seq (.reg wl) (.block 2 wo)) (.seq (.reg wj) (.seq (.mix wm) .ret))))) (aF []) (aY []) (ju [.mv (.t 0)] λv H=>∃l,v=bI l/\cX [.v (.b true)] l H):=by
 have h4:=qF
 have hadd:∀j:Nat,j<200000->IntKind.wrap .i64 ((j:Int)+1)=((j+1:Nat):Int):=λj hj=>by rw[aV (by omega)];omega
 have sl:∀k:Nat,k<10->(k+1)*5<1099511627776/\(k+1)*40<=140737488355328/\k<=9223372036854775806:=λk h=>by omega
 have cD:∀k i j,i<k->k<10->cC (yo (k+1)) i j=cC (yo k) i j:=λk i j hi hk=>by
  unfold cC
  rw[qE k hk,List.getD_eq_getElem?_getD,List.getD_eq_getElem?_getD,List.getElem?_append_left (by rw[oO k (by omega)];exact hi),<-List.getD_eq_getElem?_getD]
 have cE:∀k j,k<10->cC (yo (k+1)) k j=cC oQ k j:=λk j hk=>by
  unfold cC
  rw[qE k hk,List.getD_eq_getElem?_getD,List.getElem?_append_right (by rw[oO k (by omega)];exact Nat.le_refl _),oO k (by omega),Nat.sub_self]
  rfl
 have dP:∀k,k<5->oQ.getD k (0,0,0,0,0)=dU k:=λk hk=>by
  rcases(by omega:k=0\/k=1\/k=2\/k=3\/k=4) with rfl|rfl|rfl|rfl|rfl<;>rfl
 have dE:∀k,k<5->oQ.getD (5+k) (0,0,0,0,0)=fo k:=λk hk=>by
  rcases(by omega:k=0\/k=1\/k=2\/k=3\/k=4) with rfl|rfl|rfl|rfl|rfl<;>rfl
 (try simp only[go_sem,simprocAttr])
 iterate 3 (with_reducible refine GA.go aZ rfl ?_;try simp only[go_sem,simprocAttr])
 refine GA.wk (Wk.mk (L:=[(8,.p 0 0)]) (bl:=[ba 0 25 [.sl0,.n .i64 5,.n .i64 0,.sl0]]) [0] [] ?_ ?_ ?_) ?_
 ·simp only[bh,bf,go_sem,simprocAttr]
  repeat' refine ab ?_ ?_
  all_goals first|exact bm|skip
 ·exact .cons rfl (.lstw (x:=_) (by simp only[go_sem,simprocAttr]<;>rfl) (by rfl) (by rfl) (by rfl) (by rfl) (by rfl) (by rfl) (by simp) (λi hi=>(by rcases gz hi with rfl|rfl|rfl|rfl<;>(simp only[go_sem,simprocAttr];first|exact Wv.same rfl|exact Wv.os rfl)))) .nil
 ·simp
 refine GA.wk (Wk.nilb 0 3 5 60 (x:=ba 0 25 [.sl0,.n .i64 5,.n .i64 0,.sl0]) (by simp only[go_sem,simprocAttr]) (by simp only[go_sem,simprocAttr]) (by decide) (by decide) (by simp only[go_sem,simprocAttr]) rfl (by simp only[go_sem,simprocAttr])) ?_
 repeat first|with_reducible refine au ?_|simp only[go_sem,simprocAttr]
 refine GA.loop (I:=λmm e H=>∃(k m:Nat),mm=5-k/\k<=5/\m=0+k/\e=aF [(8,.p 0 0),(73,.n .i64 k)]/\H=aY [aG 60 5 m 0 (cC (yo m)),ba 0 25 [.sl0,.n .i64 5,.n .i64 0,.os 1 m]]) (Wk.mk [1,0] [] ?_ ?_ ?_) ⟨0,0,rfl,Nat.zero_le _,rfl,rfl,rfl⟩ ?_
 ·simp only[bh,bf,go_sem,simprocAttr]
  repeat' refine ab ?_ ?_
  all_goals first|exact bm|skip
 ·exact .cons rfl (.rows (x:=_) (by simp only[go_sem,simprocAttr];rfl) (by rfl) (by rfl) (by rfl) (by show 0*5<=0;decide) (by exact Nat.le_refl _) (by decide) (λi j hi=>absurd (show i<0 from hi) (Nat.not_lt_zero _)) (λi j hi=>absurd (show i<0 from hi) (Nat.not_lt_zero _))) (.cons rfl (.lstw (x:=_) (by simp only[go_sem,simprocAttr]<;>rfl) (by rfl) (by rfl) (by rfl) (by rfl) (by rfl) (by rfl) (by simp) (λi hi=>(by rcases gz hi with rfl|rfl|rfl|rfl<;>(simp only[go_sem,simprocAttr];first|exact Wv.same rfl|exact Wv.os rfl)))) .nil)
 ·simp
 rintro mm e H ⟨k,m,rfl,hk,hm,rfl,rfl⟩
 repeat first|with_reducible refine au ?_|simp only[go_sem,simprocAttr]
 refine⟨λh=>?_,λh=>?_⟩
 ·have hkl:k<5:=by omega
  have ha:=hadd k (by omega)
  obtain⟨s1,s2,s3⟩:=sl m (by omega)
  repeat first|with_reducible refine au ?_|simp only[h,s1,s2,s3,decide_true,go_sem,simprocAttr]
  refine am [] (.cons (.rfl (by rfl)) .nil) (i8 k (by omega)) (by simp only[AH.mark_next,ae,av,aw,aj,ai,aq,af,ao,ah,List.length_cons,List.length_nil];decide) ?_
  simp only[fK,dU,go_sem,simprocAttr]
  repeat first|with_reducible refine au ?_|simp only[ha,s1,s2,s3,decide_true,go_sem,simprocAttr]
  refine⟨_,_,_,?_,Wk.mk [3,0] [] ?_ ?_ ?_,k+1,m+1,rfl,by omega,by omega,rfl,rfl⟩
  ·omega
  ·simp only[bh,bf,go_sem,simprocAttr]
   repeat' refine ab ?_ ?_
   all_goals first|exact bm|skip
  ·exact .cons rfl (.snoc (by simp only[go_sem,simprocAttr]<;>rfl) (by simp) (by rfl) rfl (by decide) (by omega) (λi j hi _=>cD m i j hi (by omega)) (λj hj=>by
    rw[cE m j (by omega)];unfold cC;rw[show m=k by omega,dP k (by omega)];rcases ii hj with rfl|rfl|rfl|rfl|rfl<;>rfl) (λi j _ hj=>by rcases ii hj with rfl|rfl|rfl|rfl|rfl<;>rfl)) (.cons rfl (.lstw (x:=_) (by simp only[go_sem,simprocAttr]<;>rfl) (by rfl) (by rfl) (by rfl) (by rfl) (by rfl) (by rfl) (by simp) (λi hi=>(by rcases gz hi with rfl|rfl|rfl|rfl<;>(simp only[go_sem,simprocAttr];first|exact Wv.same rfl|exact Wv.os rfl)))) .nil)
  ·simp
 have hk5:m=5:=by omega
 subst hk5
 repeat first|with_reducible refine au ?_|simp only[go_sem,simprocAttr]
 refine GA.loop (I:=λmm e H=>∃(k m:Nat),mm=5-k/\k<=5/\m=5+k/\e=aF [(8,.p 0 0),(84,.n .i64 k)]/\H=aY [aG 60 5 m 0 (cC (yo m)),ba 0 25 [.sl0,.n .i64 5,.n .i64 0,.os 1 m]]) (Wk.mk [1,0] [] ?_ ?_ ?_) ⟨0,5,rfl,Nat.zero_le _,rfl,rfl,rfl⟩ ?_
 ·simp only[bh,bf,go_sem,simprocAttr]
  repeat' refine ab ?_ ?_
  all_goals first|exact bm|skip
 ·exact .cons rfl .k5 (.cons rfl (.lstw (x:=_) (by simp only[go_sem,simprocAttr]<;>rfl) (by rfl) (by rfl) (by rfl) (by rfl) (by rfl) (by rfl) (by simp) (λi hi=>(by rcases gz hi with rfl|rfl|rfl|rfl<;>(simp only[go_sem,simprocAttr];first|exact Wv.same rfl|exact Wv.os rfl)))) .nil)
 ·simp
 rintro mm e H ⟨k,m,rfl,hk,hm,rfl,rfl⟩
 repeat first|with_reducible refine au ?_|simp only[go_sem,simprocAttr]
 refine⟨λh=>?_,λh=>?_⟩
 ·have hkl:k<5:=by omega
  have ha:=hadd k (by omega)
  obtain⟨s1,s2,s3⟩:=sl m (by omega)
  repeat first|with_reducible refine au ?_|simp only[h,s1,s2,s3,decide_true,go_sem,simprocAttr]
  refine am [] (.cons (.rfl (by rfl)) .nil) (qK k) (by simp only[AH.mark_next,ae,av,aw,aj,ai,aq,af,ao,ah,List.length_cons,List.length_nil];decide) ?_
  simp only[fK,fo,go_sem,simprocAttr]
  repeat first|with_reducible refine au ?_|simp only[ha,s1,s2,s3,decide_true,go_sem,simprocAttr]
  refine⟨_,_,_,?_,Wk.mk [3,0] [] ?_ ?_ ?_,k+1,m+1,rfl,by omega,by omega,rfl,rfl⟩
  ·omega
  ·simp only[bh,bf,go_sem,simprocAttr]
   repeat' refine ab ?_ ?_
   all_goals first|exact bm|skip
  ·exact .cons rfl (.snoc (by simp only[go_sem,simprocAttr]<;>rfl) (by simp) (by rfl) rfl (by decide) (by omega) (λi j hi _=>cD m i j hi (by omega)) (λj hj=>by
    rw[cE m j (by omega)];unfold cC;rw[show m=5+k by omega,dE k (by omega)];rcases ii hj with rfl|rfl|rfl|rfl|rfl<;>rfl) (λi j _ hj=>by rcases ii hj with rfl|rfl|rfl|rfl|rfl<;>rfl)) (.cons rfl (.lstw (x:=_) (by simp only[go_sem,simprocAttr]<;>rfl) (by rfl) (by rfl) (by rfl) (by rfl) (by rfl) (by rfl) (by simp) (λi hi=>(by rcases gz hi with rfl|rfl|rfl|rfl<;>(simp only[go_sem,simprocAttr];first|exact Wv.same rfl|exact Wv.os rfl)))) .nil)
  ·simp
 have hk5:m=10:=by omega
 subst hk5
 refine GA.wk (Wk.mk (L:=[(8,.p 0 0)]) (bl:=[ba 0 25 [.sl0,.n .i64 5,.n .i64 0,.fs 5 10 (cC oQ)]]) [0] [1] ?_ ?_ ?_) ?_
 ·simp only[bh,bf,go_sem,simprocAttr]
  repeat' refine ab ?_ ?_
  all_goals first|exact bm|skip
 ·exact .cons rfl (.lstw (x:=_) (by simp only[go_sem,simprocAttr]<;>rfl) (by rfl) (by rfl) (by rfl) (by rfl) (by rfl) (by rfl) (by simp) (λi hi=>(by rcases gz hi with rfl|rfl|rfl|rfl<;>(simp only[go_sem,simprocAttr];first|exact Wv.same rfl|exact Wv.cv (Cv.own (ty:=60) (z:=0) (row:=cC (yo 10)) (by simp) (by simp only[go_sem,simprocAttr]) (λi j _ hj=>bO i hj)))))) .nil
 ·simp
 have hl18:((sx.length:Nat):Int)=18:=rfl
 have hc0:cC sx 0 0= .n .i64 0:=rfl
 have hc1:cC sx 0 1= .n .i64 0:=rfl
 have hc2:cC sx 0 2= .n .i64 (-1):=rfl
 have hc3:cC sx 0 3= .n .i64 (-1):=rfl
 have hc4:cC sx 0 4= .n .u32 5:=rfl
 have hlt:(0:Int)<18:=by omega
 have h00:(0:Int)<=0:=by omega
 have d1:decide ((0:Int)=0)=true:=decide_eq_true rfl
 have d2:decide ((4:Int)=4)=true:=decide_eq_true rfl
 have d3:decide ((18:Int)=18)=true:=decide_eq_true rfl
 have d4:decide ((5:Int)=5)=true:=decide_eq_true rfl
 have d5:decide ((-1:Int)= -1)=true:=decide_eq_true rfl
 have hx10:oQ.length=10:=rfl
 simp only[ay,hx10] at h4
 repeat first|with_reducible refine au ?_|simp only[go_sem,simprocAttr]
 refine am [] (.cons Iu (.cons (.rfl (by rfl)) .nil)) h4 (by simp only[AH.mark_next,ae,av,aw,aj,ai,aq,af,ao,ah,List.length_cons,List.length_nil];decide) ?_
 repeat first|with_reducible refine au ?_|simp only[d1,d2,d3,hl18,hlt,h00,hc0,hc1,hc2,hc3,hc4,decide_true,go_sem,simprocAttr]
 refine am [] (.cons (.rfl (by rfl)) .nil) (i8 0 (by omega)) (by simp only[AH.mark_next,ae,av,aw,aj,ai,aq,af,ao,ah,List.length_cons,List.length_nil];decide) ?_
 simp only[fK,dU,go_sem,simprocAttr]
 repeat first|with_reducible refine au ?_|simp only[wi,qI,lA,zx,SH.row,d1,d2,d3,d4,d5,hl18,hlt,h00,hc0,hc1,hc2,hc3,hc4,decide_true,go_sem,simprocAttr]
 exact⟨[_],rfl,cX.v rfl rfl .nil⟩
theorem g9:bH Try.prog 10 [] [.v (.b true)]:=by
 have h1:=Ip
 have h2:=sw
 have h3:=yp
 have h4:=qF
 have w0:IntKind.wrap .i64 0=0:=rfl
 have w1:IntKind.wrap .i64 (0+0)=0:=rfl
 have hne0:decide ((0:Int)=0)=true:=decide_eq_true rfl
 refine aD aZ JX ⟨by simp,by decide⟩ ?_
 simp only[bz]
 repeat first|with_reducible refine au ?_|simp only[go_sem,simprocAttr]
 refine am [] (.cons (.rfl (by rfl)) .nil) (i8 0 (by omega)) (by simp only[AH.mark_next,ae,av,aw,aj,ai,aq,af,ao,ah,List.length_cons,List.length_nil];decide) ?_
 simp only[fK,dU]
 repeat first|with_reducible refine au ?_|simp only[go_sem,simprocAttr]
 refine am [] (.cons (.rfl (by rfl)) .nil) (i8 1 (by omega)) (by simp only[AH.mark_next,ae,av,aw,aj,ai,aq,af,ao,ah,List.length_cons,List.length_nil];decide) ?_
 simp only[fK,dU]
 repeat first|with_reducible refine au ?_|simp only[go_sem,simprocAttr]
 refine am [] (.cons (.rfl (by rfl)) .nil) (qK 2) (by simp only[AH.mark_next,ae,av,aw,aj,ai,aq,af,ao,ah,List.length_cons,List.length_nil];decide) ?_
 simp only[fK,fo]
 repeat first|with_reducible refine au ?_|simp only[go_sem,simprocAttr]
 refine am [0] (.cons (sC (by simp) (by simp only[go_sem,simprocAttr]<;>rfl) rfl (λi j hi hj=>?_)) .nil) h1 (by simp only[AH.mark_next,ae,av,aw,aj,ai,aq,af,ao,ah,List.length_cons,List.length_nil];decide) ?_
 ·skip
  rcases(by omega:i=0\/i=1\/i=2\/i=3) with rfl|rfl|rfl|rfl<;>rcases(by omega:j=0\/j=1\/j=2\/j=3\/j=4) with rfl|rfl|rfl|rfl|rfl<;>rfl
 repeat first|with_reducible refine au ?_|simp only[go_sem,simprocAttr]
 refine am [0] (.cons (sC (by simp) (by simp only[go_sem,simprocAttr]<;>rfl) rfl (λi j hi hj=>?_)) .nil) h2 (by simp only[AH.mark_next,ae,av,aw,aj,ai,aq,af,ao,ah,List.length_cons,List.length_nil];decide) ?_
 ·skip
  rcases(by omega:i=0\/i=1\/i=2\/i=3) with rfl|rfl|rfl|rfl<;>rcases(by omega:j=0\/j=1\/j=2\/j=3\/j=4) with rfl|rfl|rfl|rfl|rfl<;>rfl
 repeat first|with_reducible refine au ?_|simp only[go_sem,simprocAttr]
 refine am [0] (.cons (sC (by simp) (by simp only[go_sem,simprocAttr]<;>rfl) rfl (λi j hi hj=>?_)) (.cons (.rfl (by rfl)) .nil)) h3 (by simp only[AH.mark_next,ae,av,aw,aj,ai,aq,af,ao,ah,List.length_cons,List.length_nil];decide) ?_
 ·skip
  rcases(by omega:i=0\/i=1\/i=2\/i=3) with rfl|rfl|rfl|rfl<;>rcases(by omega:j=0\/j=1\/j=2\/j=3\/j=4) with rfl|rfl|rfl|rfl|rfl<;>rfl
 simp only[ay]
 repeat first|with_reducible refine au ?_|simp only[w0,w1,hne0,decide_true,go_sem,simprocAttr]
 refine am [3,4,5,6] (.cons (.rfl (by rfl)) (.cons (?_) (.cons (.rfl (by rfl)) .nil))) (iw 5 (by omega) Sq (λi=>?_)) (by simp only[AH.mark_next,ae,av,aw,aj,ai,aq,af,ao,ah,List.length_cons,List.length_nil];decide) ?_
 ·refine .slw (x:=_) (by simp) (by simp only[go_sem,simprocAttr]<;>rfl) (by decide) (by decide) (λi j hi hj=>?_) (λi j _ _=>rfl)
  have hj0:j=0:=by omega
  subst hj0
  rcases(by omega:i=0\/i=1\/i=2\/i=3\/i=4) with rfl|rfl|rfl|rfl|rfl
  ·exact .sl0 _ _
  ·refine .sl (x:=_) (by simp) (by simp only[go_sem,simprocAttr]<;>rfl) (by decide) (by decide) (by decide) (λi j hi hj=>?_) (λi j _ _=>rfl)
   rw[show i=0 by have:i<1:=hi;omega,show j=0 by omega];rfl
  ·refine .sl (x:=_) (by simp) (by simp only[go_sem,simprocAttr]<;>rfl) (by decide) (by decide) (by decide) (λi j hi hj=>?_) (λi j _ _=>rfl)
   have hi2:i<2:=hi
   rcases(by omega:i=0\/i=1) with rfl|rfl<;>rw[show j=0 by omega]<;>rfl
  ·refine .sl (x:=_) (by simp) (by simp only[go_sem,simprocAttr]<;>rfl) (by decide) (by decide) (by decide) (λi j hi hj=>?_) (λi j _ _=>rfl)
   rw[show i=0 by have:i<1:=hi;omega,show j=0 by omega];rfl
  ·exact .sl0 _ _
 ·exact Nat.le_trans (List.length_filter_le _ _) (by simp)
 have hl4:((Ir.length:Nat):Int)=4:=rfl
 have hcz:cC Ir 2 1= .n .i64 0:=rfl
 have hlt:(2:Int)<4:=by omega
 have h00:(0:Int)<=2:=by omega
 (try simp only[w0,w1,hne0,hl4,hcz,hlt,h00,decide_true,go_sem,simprocAttr])
 iterate 2 (with_reducible refine GA.go aZ rfl ?_;try simp only[w0,w1,hne0,hl4,hcz,hlt,h00,decide_true,go_sem,simprocAttr])
 refine GA.wk (Wk.mk (L:=[]) (bl:=[]) [] [] ?_ ?_ ?_) Iy
 ·simp only[bh,bf,go_sem,simprocAttr]
  repeat' refine ab ?_ ?_
  all_goals first|exact bm|skip
 ·exact .nil
 ·simp
theorem gY(na:Nat)(ra:Nat->Nat->AV)(regs par:Int)(cs:List In):bH Try.prog 9 [ay na ra regs par cs] [.v (.b (iv na regs cs))]:=by
 have hw:=vC na ra regs par cs
 refine aD aZ LU ⟨by simp,by decide⟩ ?_
 simp only[bz,ay] at hw ⊢
 repeat first|with_reducible refine au ?_|simp only[go_sem,simprocAttr]
 refine am [] (.cons (.rfl (by rfl)) .nil) hw (by simp only[AH.mark_next,ae,av,aw,aj,ai,aq,af,ao,ah,List.length_cons,List.length_nil];decide) ?_
 unfold iv
 cases qC na cs
 ·repeat first|with_reducible refine au ?_|simp only[go_sem,simprocAttr]
  exact bW rfl rfl
 ·by_cases h1:regs<=60
  ·repeat first|with_reducible refine au ?_|simp only[h1,decide_true,go_sem,simprocAttr]
   exact bW rfl rfl
  ·by_cases h2:1024<regs
   ·repeat first|with_reducible refine au ?_|simp only[h1,h2,decide_true,decide_false,go_sem,simprocAttr]
    exact bW rfl rfl
   ·repeat first|with_reducible refine au ?_|simp only[h1,h2,decide_true,decide_false,go_sem,simprocAttr]
    exact bW rfl rfl
theorem cvz{H:AH}{r1 r2:Nat->Nat->AV}:Cv [] H ta (.agg [.fs 2 0 r1,.n .i64 0,.n .i64 0,.fs 5 0 r2]):=by
 refine .agg rfl λi v v' h1 h2=>?_
 match i,h1,h2 with
 |0,h1,h2=>cases h1;cases h2;exact .sl0 _ _
 |1,h1,h2=>cases h1;cases h2;exact .rfl rfl
 |2,h1,h2=>cases h1;cases h2;exact .rfl rfl
 |3,h1,h2=>cases h1;cases h2;exact .sl0 _ _
 |i+4,h1,h2=>cases h1
theorem uv:bH Try.prog 19 [.agg [.fs 2 0 (aC []),.n .i64 0,.n .i64 0,.fs 5 0 (cC [])],.agg [.fs 2 0 (aC []),.n .i64 0,.n .i64 0,.fs 5 0 (cC [])]] [.v (.b true)]:=by
 have:=pM [] (by decide) 0 0 [] [] (by decide)
 rw[decide_eq_true rfl] at this
 exact this
theorem tS{la:List (Bool×Int)}{regs:Int}{cs:List In}(hf:iv la.length regs cs=true):la.length<=20/\cs.length<=300:=by
 unfold iv qC at hf
 by_cases h1:(la.length:Int)<=20
 ·by_cases h2:(cs.length:Int)<=300
  ·exact⟨by omega,by omega⟩
  ·simp[h1,h2] at hf
 ·simp[h1] at hf
def qZ(v:AV):Prop:=∃v2 v3,(∀H,Cv [] H v v2)/\(∀H,Cv [] H v v3)/\bH Try.prog 19 [v2,v3] [.v (.b true)]
theorem qZ.zero:qZ ta:=⟨_,_,λH=>cvz,λH=>cvz,uv⟩
theorem qZ.code{la:List (Bool×Int)}{regs par:Int}{cs:List In}(hla:la.length<1000000)(hcs:cs.length<1000000):qZ (ay la.length (aC la) regs par cs):=by
 have:=pM la hla regs par cs cs hcs
 rw[decide_eq_true rfl] at this
 exact⟨_,_,λH=> .rfl rfl,λH=> .rfl rfl,this⟩
theorem yn{na:Nat}{ra:Nat->Nat->AV}{regs par:Int}{cs:List In}(hf:iv na regs cs=false):bH Try.prog 3 [ay na ra regs par cs] [.v (.b true)]:=by
 have hw:=gY na ra regs par cs
 rw[hf] at hw
 refine aD aZ B9 ⟨by simp,by decide⟩ ?_
 simp only[bz,ay] at hw ⊢
 repeat first|with_reducible refine au ?_|simp only[go_sem,simprocAttr]
 refine am [] (.cons (.rfl (by rfl)) .nil) hw (by simp only[AH.mark_next,ae,av,aw,aj,ai,aq,af,ao,ah,List.length_cons,List.length_nil];decide) ?_
 repeat first|with_reducible refine au ?_|simp only[go_sem,simprocAttr]
 refine am [] .nil g9 (by simp only[AH.mark_next,ae,av,aw,aj,ai,aq,af,ao,ah,List.length_cons,List.length_nil];decide) ?_
 repeat first|with_reducible refine au ?_|simp only[go_sem,simprocAttr]
 exact bW rfl rfl
theorem qB{na:Nat}{ra:Nat->Nat->AV}{regs par:Int}{cs:List In}(hf:iv na regs cs=false):bH Try.prog 5 [ay na ra regs par cs] [.v (.b true)]:=by
 have hw:=gY na ra regs par cs
 rw[hf] at hw
 refine aD aZ B8 ⟨by simp,by decide⟩ ?_
 simp only[bz,ay] at hw ⊢
 repeat first|with_reducible refine au ?_|simp only[go_sem,simprocAttr]
 refine am [] (.cons (.rfl (by rfl)) .nil) hw (by simp only[AH.mark_next,ae,av,aw,aj,ai,aq,af,ao,ah,List.length_cons,List.length_nil];decide) ?_
 repeat first|with_reducible refine au ?_|simp only[go_sem,simprocAttr]
 refine am [] .nil g9 (by simp only[AH.mark_next,ae,av,aw,aj,ai,aq,af,ao,ah,List.length_cons,List.length_nil];decide) ?_
 repeat first|with_reducible refine au ?_|simp only[go_sem,simprocAttr]
 exact bW rfl rfl
theorem nB{na:Nat}{ra:Nat->Nat->AV}{regs par e p:Int}{cs:List In}{n:Nat}{L:Nat->List Nat}(hn:n<=100000)(hL:∀i,(L i).length<=100000)(hf:iv na regs cs=true)(h1:bH Try.prog 11 [ay na ra regs par cs] [.v (.fs 1 n (gC L)),.v (.n .i64 e)])(h2:bH Try.prog 12 [ay na ra regs par cs] [.v (.fs 1 n (gC L)),.v (.n .i64 e)])
  (h3:bH Try.prog 13 [ay na ra regs par cs] [.v (.n .i64 p),.v (.n .i64 e)]) (h4:bH Try.prog 14 [ay na ra regs par cs] [.v (.n .i64 p),.v (.n .i64 e)]):
  bH Try.prog 3 [ay na ra regs par cs] [.v (.b true)]:=by
 have hw:=gY na ra regs par cs
 rw[hf] at hw
 have hee:decide (e=e)=true:=decide_eq_true rfl
 have hpp:decide (p=p)=true:=decide_eq_true rfl
 refine aD aZ B9 ⟨by simp,by decide⟩ ?_
 simp only[bz,ay] at hw h1 h2 h3 h4 ⊢
 repeat first|with_reducible refine au ?_|simp only[go_sem,simprocAttr]
 refine am [] (.cons (.rfl (by rfl)) .nil) hw (by simp only[AH.mark_next,ae,av,aw,aj,ai,aq,af,ao,ah,List.length_cons,List.length_nil];decide) ?_
 repeat first|with_reducible refine au ?_|simp only[go_sem,simprocAttr]
 refine am [] (.cons (.rfl (by rfl)) .nil) h1 (by simp only[AH.mark_next,ae,av,aw,aj,ai,aq,af,ao,ah,List.length_cons,List.length_nil];decide) ?_
 repeat first|with_reducible refine au ?_|simp only[go_sem,simprocAttr]
 refine am [] (.cons (.rfl (by rfl)) .nil) h2 (by simp only[AH.mark_next,ae,av,aw,aj,ai,aq,af,ao,ah,List.length_cons,List.length_nil];decide) ?_
 repeat first|with_reducible refine au ?_|simp only[go_sem,simprocAttr]
 refine am [] (.cons (.rfl (by rfl)) .nil) h3 (by simp only[AH.mark_next,ae,av,aw,aj,ai,aq,af,ao,ah,List.length_cons,List.length_nil];decide) ?_
 repeat first|with_reducible refine au ?_|simp only[go_sem,simprocAttr]
 refine am [] (.cons (.rfl (by rfl)) .nil) h4 (by simp only[AH.mark_next,ae,av,aw,aj,ai,aq,af,ao,ah,List.length_cons,List.length_nil];decide) ?_
 repeat first|with_reducible refine au ?_|simp only[go_sem,simprocAttr]
 refine am [] (.cons (.rfl (by rfl)) (.cons (.rfl (by rfl)) (.cons (.rfl (by rfl)) .nil))) (iw n hn L hL) (by simp only[AH.mark_next,ae,av,aw,aj,ai,aq,af,ao,ah,List.length_cons,List.length_nil];decide) ?_
 repeat first|with_reducible refine au ?_|simp only[hee,hpp,decide_true,go_sem,simprocAttr]
 refine am [] .nil g9 (by simp only[AH.mark_next,ae,av,aw,aj,ai,aq,af,ao,ah,List.length_cons,List.length_nil];decide) ?_
 repeat first|with_reducible refine au ?_|simp only[go_sem,simprocAttr]
 exact bW rfl rfl
theorem jr{na:Nat}{ra:Nat->Nat->AV}{regs par e:Int}{cs:List In}{l:List AV}(hf:iv na regs cs=true)(hl:l.length=4)(hp:(AV.agg l).pu 3=true)(ho:l.all AV.one=true)(hS:qZ (.agg l))(h1:bH Try.prog 20 [ay na ra regs par cs] [.v (.agg l),.v (.n .i64 e)])(h2:bH Try.prog 21 [ay na ra regs par cs] [.v (.agg l),.v (.n .i64 e)]):
  bH Try.prog 5 [ay na ra regs par cs] [.v (.b true)]:=by
 have hw:=gY na ra regs par cs
 rw[hf] at hw
 have hee:decide (e=e)=true:=decide_eq_true rfl
 obtain⟨v2,v3,c2,c3,hS⟩:=hS
 obtain⟨a0,a1,a2,a3,rfl⟩:∃a0 a1 a2 a3,l=[a0,a1,a2,a3]:=by
  match l,hl with
  |[a0,a1,a2,a3],_=>exact⟨_,_,_,_,rfl⟩
 have ho2:(a0.one=true/\a1.one=true/\a2.one=true/\a3.one=true):=by simpa using ho
 refine aD aZ B8 ⟨by simp,by decide⟩ ?_
 simp only[bz,ay] at hw h1 h2 ⊢
 repeat first|with_reducible refine au ?_|simp only[go_sem,simprocAttr]
 refine am [] (.cons (.rfl (by rfl)) .nil) hw (by simp only[AH.mark_next,ae,av,aw,aj,ai,aq,af,ao,ah,List.length_cons,List.length_nil];decide) ?_
 repeat first|with_reducible refine au ?_|simp only[go_sem,simprocAttr]
 refine am [] (.cons (.rfl (by rfl)) .nil) h1 (by simp only[AH.mark_next,ae,av,aw,aj,ai,aq,af,ao,ah,List.length_cons,List.length_nil];decide) ?_
 repeat first|with_reducible refine au ?_|simp only[ho2.1,ho2.2.1,ho2.2.2.1,ho2.2.2.2,go_sem,simprocAttr]
 refine am [] (.cons (.rfl (by rfl)) .nil) h2 (by simp only[AH.mark_next,ae,av,aw,aj,ai,aq,af,ao,ah,List.length_cons,List.length_nil];decide) ?_
 repeat first|with_reducible refine au ?_|simp only[ho2.1,ho2.2.1,ho2.2.2.1,ho2.2.2.2,go_sem,simprocAttr]
 refine am [] (.cons (c2 _) (.cons (c3 _) .nil)) hS (by simp only[AH.mark_next,ae,av,aw,aj,ai,aq,af,ao,ah,List.length_cons,List.length_nil];decide) ?_
 repeat first|with_reducible refine au ?_|simp only[hee,decide_true,go_sem,simprocAttr]
 refine am [] .nil g9 (by simp only[AH.mark_next,ae,av,aw,aj,ai,aq,af,ao,ah,List.length_cons,List.length_nil];decide) ?_
 repeat first|with_reducible refine au ?_|simp only[go_sem,simprocAttr]
 exact bW rfl rfl
section
variable (la:List (Bool×Int)) (regs par:Int) (cs:List In) (ha:mj cs)
include ha
theorem PC:bH Try.prog 3 [ay la.length (aC la) regs par cs] [.v (.b true)]:=by
 cases hf:iv la.length regs cs
 ·exact yn hf
 have hfew:=tS hf
 by_cases hz:(fZ la regs par cs).2=0
 ·have h:=(b9 hz).nregs
  obtain⟨R,rfl⟩:∃R:Nat,regs=R:=⟨regs.toNat,by omega⟩
  exact nB (by omega) (λi=>by have:=jX cs (bR cs (dC cs)) R i;omega) hf (zH hz ha) (zF hz ha) (nS hz ha) (sZ hz ha)
 ·have hA:=xO la regs par cs (by omega) (by omega) ha hz (λ_=>[])
  have hB:=uE la.length (aC la) regs par _ cs _ hz (iH la regs par cs (by omega) (by omega) ha) (λ_=>[])
  have hP:=i9 la.length (aC la) regs par cs (λ_=>[]) 0 (by omega) _ (λi=>by simp) hA
  exact nB (by omega) (λi=>by simp) hf hA hB hP (mL la.length (aC la) regs par _ cs _ hz hB)
theorem qn:bH Try.prog 5 [ay la.length (aC la) regs par cs] [.v (.b true)]:=by
 cases hf:iv la.length regs cs
 ·exact qB hf
 have hfew:=tS hf
 by_cases hz:(fZ la regs par cs).2=0
 ·have h:=(b9 hz).nregs
  obtain⟨R,rfl⟩:∃R:Nat,regs=R:=⟨regs.toNat,by omega⟩
  exact jr hf rfl rfl rfl (.code (by omega) (by unfold Iv;rw[List.length_map];omega)) (zJ hz ha) (vS hz ha)
 ·exact jr hf rfl rfl rfl .zero (qO la.length (aC la) regs par _ cs _ hz (g8 la regs par cs (by omega) (by omega) ha)) (oh la.length (aC la) regs par _ cs _ hz (iH la regs par cs (by omega) (by omega) ha))
end
end Go.Proofs.Yteopfmnnhlhbmaa