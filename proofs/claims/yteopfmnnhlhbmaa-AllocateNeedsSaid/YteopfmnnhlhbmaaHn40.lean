/- A part of the proof of AllocateNeeds: Pf Pg. No condition. -/
import Derived.Test.YteopfmnnhlhbmaaHn10
import Derived.Test.YteopfmnnhlhbmaaHn38
import Derived.Test.YteopfmnnhlhbmaaHn02
import Derived.Test.YteopfmnnhlhbmaaHn39
set_option linter.unusedSimpArgs false
set_option linter.unusedVariables false
set_option linter.constructorNameAsVariable false
set_option maxRecDepth 100000
set_option maxHeartbeats 4000000
namespace Go.Proofs.Yteopfmnnhlhbmaa
open Go.RowKit
structure d8(w:World)(ob:Nat)(out:List Int)(opn:List Nat)(v:Value)(wr:World):Prop where
 bel:Below ob w wr
 out:dI wr ob (eO .i64 out) 3
 own:wr.ownsRow (ob+1) 3 1 v opn.length (ft opn)
theorem d8.far{w:World}{ob:Nat}{out:List Int}{opn:List Nat}{v:Value}{wr:World}(h:d8 w ob out opn v wr):∀k,v.ownBlock=some k->ob+1<=k:=λk hk=>(h.own.lt k hk).1
theorem d8.below{w:World}{ob:Nat}{out:List Int}{opn:List Nat}{v:Value}{wr w1:World}(h:d8 w ob out opn v wr)(hb:Below wr.heap.size wr w1):d8 w ob out opn v w1:=
 ⟨h.bel.trans (hb.mono (Nat.le_of_lt h.out.lt)),h.out.below hb h.out.lt,qg h.own λk hk=>hb.block k (h.own.lt k hk).2⟩
theorem d8.setOut{w:World}{ob:Nat}{out:List Int}{opn:List Nat}{v:Value}{wr:World}(h:d8 w ob out opn v wr)(i:Nat)(x:Int):d8 w ob (out.set i x) opn v (wr.setCell ⟨ob,i,none⟩ (.int .i64 x)):=by
 refine⟨h.bel.setCell (Nat.le_refl _) _,?_,?_⟩
 ·have:=h.out.set i (.int .i64 x)
  rw[yd] at this
  exact this
 ·exact qg h.own λk hk=>Below.heap_setCell _ _ _ _ (by have:=h.far k hk;show k≠ob;omega)
theorem d8.push{w:World}{ob:Nat}{out:List Int}{opn:List Nat}{v:Value}{wr w1 w2:World}{k n g' c':Nat}(h:d8 w ob out opn v wr)(hn:opn.length=n)(hb:Below wr.heap.size wr w1)
  (hown:w2.ownsRow (ob+1) 3 1 (.slice (some ⟨g',0,none⟩) (n+1) c') (n+1) (ft opn++[.int .i64 (k:Int)])) (hg:w1.grownBy w2 v.ownBlock):
  d8 w ob out (opn++[k]) (.slice (some ⟨g',0,none⟩) (n+1) c') w2:=by
 have h1:=h.below hb
 have hne:some ob≠v.ownBlock:=λe=>by have:=h.far ob e.symm;omega
 refine⟨⟨?_,?_,?_,?_,?_⟩,h1.out.grown hg hne,?_⟩
 ·rw[hg.os];exact h1.bel.os
 ·rw[hg.tape];exact h1.bel.tape
 ·rw[hg.output];exact h1.bel.output
 ·have:=hg.size;have:=h1.bel.size;omega
 ·intro j hj
  have:=h1.out.lt
  rw[hg.block j (by omega) (λe=>by have:=h.far j e.symm;omega)]
  exact h1.bel.block j hj
 ·rw[lP,List.length_append,List.length_singleton,hn]
  exact hown
theorem d8.pop{w:World}{ob:Nat}{out:List Int}{l:List Nat}{p:Nat}{g cc:Nat}{wr:World}(h:d8 w ob out (l++[p]) (.slice (some ⟨g,0,none⟩) (l.length+1) cc) wr):d8 w ob out l (.slice (some ⟨g,0,none⟩) l.length cc) wr:=
 ⟨h.bel,h.out,by
  have:=h.own
  rw[lP,List.length_append,List.length_singleton] at this
  exact tC this (by simp[ft])⟩
theorem d8.outCell{w:World}{ob:Nat}{out:List Int}{opn:List Nat}{v:Value}{wr:World}(h:d8 w ob out opn v wr){p:Nat}(hp:p<out.length):wr.cell? ⟨ob,p,none⟩=some (.int .i64 (out.getD p 0)):=by
 rw[h.out.cell,ye hp]
theorem d8.opnCell{w:World}{ob:Nat}{out:List Int}{opn:List Nat}{va:Option Addr}{n vc:Nat}{wr:World}(h:d8 w ob out opn (.slice va n vc) wr){m:Nat}(hm:m<opn.length):
  ∃g,va=some ⟨g,0,none⟩/\n=opn.length/\opn.length<=vc/\g<wr.heap.size/\wr.cell? ⟨g,m,none⟩=some (.int .i64 (opn.getD m 0:Nat)):=by
 have hown:=h.own
 obtain⟨g,rfl,rfl⟩:∃g,va=some ⟨g,0,none⟩/\n=opn.length:=by
  rcases hown.2 with⟨h1,h2⟩|⟨g,cc,cur,h1,_⟩
  ·omega
  ·simp only[Value.slice.injEq] at h1;exact⟨g,h1.1,h1.2.1⟩
 exact⟨g,rfl,rfl,tD hown,(hown.lt g rfl).2,by rw[hown.cellAt m (by omega),uX hm]⟩
theorem d8.form{w:World}{ob:Nat}{out:List Int}{opn:List Nat}{v:Value}{wr:World}(h:d8 w ob out opn v wr):∃va vc,v= .slice va opn.length vc:=by
 rcases h.own.2 with⟨h1,h2⟩|⟨g,cc,cur,h1,_⟩
 ·exact⟨none,0,by rw[h1,h2]⟩
 ·exact⟨_,cc,h1⟩
theorem vi{cd:List RI}{k:Nat}{out:List Int}{opn:List Nat}{r:List Int×List Nat}(hk:k<cd.length)(h:eE cd (cd.length-k) k out opn=some r):∃o p,cY cd k out opn=some (o,p)/\eE cd (cd.length-(k+1)) (k+1) o p=some r:=by
 rw[show cd.length-k=(cd.length-(k+1))+1 by omega,eE] at h
 cases hs:cY cd k out opn with
 |none=>rw[hs] at h;cases h
 |some x=>rw[hs] at h;exact⟨x.1,x.2,rfl,h⟩
theorem oG{cd:List RI}{k:Nat}{out o:List Int}{opn p:List Nat}(h:cY cd k out opn=some (o,p)):o.length=out.length:=by
 unfold cY at h
 repeat' split at h
 all_goals first|(cases h;done)|(cases h;rfl)|(cases h;simp)
theorem nP(l:List Nat)(m:Nat)(h:l.length=m+1):l.getLastD 0=l.getD m 0:=by
 rw[List.getLastD_eq_getLast?,List.getLast?_eq_getElem?,h]
 simp[List.getD_eq_getElem?_getD]
def iI(w:World)(cd:List RI)(ob:Nat)(r:List Int×List Nat)(v i:Value)(wr:World):Prop:=
 ∃(k:Nat) (out:List Int) (opn:List Nat) (va:Option Addr) (vc:Nat),i= .int .i64 (k:Int)/\v= .slice va opn.length vc/\k<=cd.length/\out.length=cd.length/\opn.length<=k/\eE cd (cd.length-k) k out opn=some r/\d8 w ob out opn (.slice va opn.length vc) wr
theorem iI.mk{w:World}{cd:List RI}{ob:Nat}{r:List Int×List Nat}{v i:Value}{wr:World}{k:Nat}{out:List Int}{opn:List Nat}(hi:i= .int .i64 (k:Int))(hk:k<=cd.length)(hl:out.length=cd.length)(ho:opn.length<=k)(hr:eE cd (cd.length-k) k out opn=some r)(h:d8 w ob out opn v wr):iI w cd ob r v i wr:=by
 obtain⟨va,vc,rfl⟩:=h.form
 exact⟨k,out,opn,va,vc,hi,rfl,hk,hl,ho,hr,h⟩
theorem sk(a:Option Addr)(cap:Nat)(cd:List RI)(w:World)(ob:Nat)(out:List Int)(r:List Int×List Nat)(hrow:dG ob w 5 a cd.length λi j=>(cd.getD i default).cell j)(hout:dI w ob (eO .i64 out) 3)(hl:out.length=cd.length)(hmax:cd.length<=16384)
  (hrun:eE cd cd.length 0 out []=some r):
  Calls Try.prog 54 #[.slice a cd.length cap,.slice (some ⟨ob,0,none⟩) cd.length cd.length] w λe w'=>e= .returned (.slice (some ⟨ob,0,none⟩) cd.length cd.length)/\dI w' ob (eO .i64 r.1) 3/\Below ob w w':=by
 have HR:=Lib.hid hrow
 have hst:iI w cd ob r (.slice none 0 0) (.int .i64 0) w:=iI.mk (k:=0) (opn:=[]) rfl (Nat.zero_le _) hl (Nat.le_refl _) hrun ⟨Below.refl _ _,hout,World.ownsRow_nil _ _ _ _⟩
 have HST:=Lib.hid hst
 clear hrow hout hl hrun hst
 go_enter Try.func54,Try.ntmps54
 go_wp2_with fail
 go_loopw [5,6] (λv i wr=>iI w cd ob r v i wr) (λ_ i _=>cd.length-(intOf i).toNat)
 case atStart=>exact HST.out
 case round=>
  obtain⟨k,out,opn,va,vc,rfl,rfl,hkl,hol,hopl,hrn,PM⟩:=hrel
  clear HST
  by_cases hk:k<cd.length
  rotate_left
  ·have hke:k=cd.length:=by omega
   rw[hke,Nat.sub_self,eE] at hrn
   simp only[Option.some.injEq] at hrn
   subst hrn
   have HPM:=Lib.hid PM
   have q:decide ((k:Int)<(cd.length:Int))=false:=by simp;omega
   clear PM
   go_wp2
   go_ret
   exact⟨rfl,HPM.out.out,HPM.out.bel⟩
  obtain⟨b,off,rfl,hb,hc⟩:=HR.out k hk
  obtain⟨o',p',hst,hnx⟩:=vi hk hrn
  have hol':o'.length=cd.length:=by rw[oG hst];exact hol
  have hk':=bt hk
  have hobl:=PM.out.lt
  have hbw:b<wr.heap.size:=by omega
  have hc2:wr.cell? ⟨b,off+k*5,none⟩=some (.int .i64 (aq cd k)):=by
   rw[PM.bel.cell (p:=⟨b,off+k*5,none⟩) hb];exact hc 0 (by omega)
  obtain⟨op,hop⟩:∃op,aq cd k=op:=⟨_,rfl⟩
  rw[hop] at hc2
  have HPM:=Lib.hid PM
  have HNX:=Lib.hid (And.intro hnx hol')
  have q:decide ((k:Int)<(cd.length:Int))=true:=by simp;omega
  unfold cY at hst
  rw[hop] at hst
  clear hc hnx hol' PM hrn
  by_cases o29:op=29
  ·rw[if_pos o29] at hst
   cases hst
   subst o29
   have HO:=Lib.hid hop
   clear hop
   go_wp2_with (at_builtin;refine cr Try.elInt rfl _ _ rfl (ob+1) (.slice va opn.length vc) opn.length _ rfl (HPM.out.own.alloc _) wr.heap.size [.int .i64 (k:Int)] (0,0) rfl (bK wr _) rfl (by simp[Value.oneCell']) (by omega) (by simp;omega) ?_)
   intro g' c' w' hown' hgrow hat hlt
   have PX:=HPM.out.push rfl ((Below.refl _ _).alloc (Nat.le_refl _) _) hown' hgrow
   have HX:=Lib.hid PX
   clear hown' hgrow hat hlt PX
   go_wp2
   go_roundw
   case rel=>exact iI.mk (k:=k+1) (by simp) hk HNX.out.2 (by simp;omega) HNX.out.1 HX.out
   case measure=>simp[intOf];omega
  rw[if_neg o29] at hst
  have q29:(op==29)=false:=by simpa using o29
  by_cases o31:op=31
  ·rw[if_pos o31] at hst
   subst o31
   obtain⟨x,hx⟩:∃x,out.getD k 0=x:=⟨_,rfl⟩
   have c0:=HPM.out.outCell (p:=k) (by omega)
   rw[hx] at hst c0
   by_cases hxb:0<=x/\x.toNat<cd.length
   rotate_left
   ·rw[if_neg hxb] at hst;cases hst
   rw[if_pos hxb] at hst
   obtain⟨m,rfl⟩:∃m:Nat,x=(m:Int):=⟨x.toNat,by omega⟩
   rw[Int.toNat_natCast] at hst hxb
   obtain⟨b2,off2,e2,hb2,hcm⟩:=HR.out m hxb.2
   simp only[Option.some.injEq,Addr.mk.injEq,and_true] at e2
   obtain⟨rfl,rfl⟩:=e2
   have cm:wr.cell? ⟨b,off+m*5,none⟩=some (.int .i64 (aq cd m)):=by
    rw[HPM.out.bel.cell (p:=⟨b,off+m*5,none⟩) hb];exact hcm 0 (by omega)
   obtain⟨om,hom⟩:∃om,aq cd m=om:=⟨_,rfl⟩
   rw[hom] at cm hst
   have hm':=bt hxb.2
   have HXX:=Lib.hid (And.intro hx hom)
   clear hcm hx hom hxb
   by_cases m29:om=29
   ·rw[if_pos m29] at hst
    subst m29
    by_cases h0:opn.length=0
    ·rw[if_pos h0] at hst;cases hst
    rw[if_neg h0] at hst
    cases hst
    obtain⟨l,hl⟩:=i5 opn h0 0
    generalize opn.getLastD 0=p at hl
    subst hl
    obtain⟨g,rfl,_,hcap,hgl,_⟩:=HPM.out.opnCell (m:=0) (by simp)
    have hlen:(l++[p]).length=l.length+1:=by simp
    rw[hlen] at hcap HPM hopl ⊢
    have PX:=HPM.out.pop
    have HX:=Lib.hid PX
    rw[List.dropLast_concat] at HNX
    have hl8:l.length+1<=16384:=by omega
    clear h0 hlen PX hop
    go_wp2
    go_roundw
    case rel=>exact iI.mk (k:=k+1) (by simp) hk HNX.out.2 (by omega) HNX.out.1 HX.out
    case measure=>simp[intOf];omega
   ·rw[if_neg m29] at hst
    cases hst
    have qm:(om==29)=false:=by simpa using m29
    clear hop
    go_wp2
    go_roundw
    case rel=>exact iI.mk (k:=k+1) (by simp) hk HNX.out.2 (by omega) HNX.out.1 HPM.out
    case measure=>simp[intOf];omega
  rw[if_neg o31] at hst
  have q31:(op==31)=false:=by simpa using o31
  by_cases o30:op=30
  ·rw[if_pos o30] at hst
   subst o30
   by_cases h0:opn.length≠0/\opn.getLastD 0<cd.length
   rotate_left
   ·rw[if_neg h0] at hst;cases hst
   rw[if_pos h0] at hst
   cases hst
   obtain⟨m,hm⟩:∃m,opn.length=m+1:=⟨opn.length-1,by omega⟩
   obtain⟨g,rfl,_,hcap,hgl,hgc⟩:=HPM.out.opnCell (m:=m) (by omega)
   rw[<-nP opn m hm] at hgc
   obtain⟨p,hp⟩:∃p,opn.getLastD 0=p:=⟨_,rfl⟩
   rw[hp] at hgc h0 HNX
   have cp:=HPM.out.outCell (p:=p) (by omega)
   obtain⟨x,hx⟩:∃x,out.getD p 0=x:=⟨_,rfl⟩
   rw[hx] at cp HNX
   have ck:=HPM.out.outCell (p:=k) (by omega)
   have fk:=HPM.out.out.frozen k
   have hp':=bt h0.2
   have PX:=HPM.out.setOut k x
   have HX:=Lib.hid PX
   have HM:=Lib.hid hm
   clear hop hp hx PX h0
   rw[hm] at hcap hopl ⊢
   generalize out.getD k 0=y at ck
   go_wp2
   go_roundw
   case rel=>exact iI.mk (k:=k+1) (by simp) hk HNX.out.2 (by omega) HNX.out.1 (by rw[<-HM.out];exact HX.out)
   case measure=>simp[intOf];omega
  rw[if_neg o30] at hst
  have q30:(op==30)=false:=by simpa using o30
  cases hst
  clear hop
  go_wp2
  go_roundw
  case rel=>exact iI.mk (k:=k+1) (by simp) hk HNX.out.2 (by omega) HNX.out.1 HPM.out
  case measure=>simp[intOf];omega
def uu(w:World)(cd:List RI)(R:Except Nat (List Int×List Nat))(e:Ending)(w':World):Prop:=
 Below w.heap.size w w'/\match R with
 |.error k=>e= .returned (.tuple #[.slice none 0 0,.int .i64 (k:Int),.int .i64 15])
 |.ok (out,opn)=>if 0<opn.length then e= .returned (.tuple #[.slice none 0 0,.int .i64 (cd.length:Int),.int .i64 15])
  else ∀r,eE cd cd.length 0 out []=some r->e= .returned (.tuple #[.slice (some ⟨w.heap.size,0,none⟩) cd.length cd.length,.int .i64 0,.int .i64 0])/\dI w' w.heap.size (eO .i64 r.1) 3
def zS(w:World)(cd:List RI)(R:Except Nat (List Int×List Nat))(v i:Value)(wr:World):Prop:=
 ∃(k:Nat) (out:List Int) (opn:List Nat) (nb:List NB) (va:Option Addr) (vc:Nat),i= .int .i64 (k:Int)/\v= .slice va opn.length vc/\k<=cd.length/\ru cd k out opn nb/\cT cd (cd.length-k) k out opn=R/\d8 w w.heap.size out opn (.slice va opn.length vc) wr
theorem zS.mk{w:World}{cd:List RI}{R:Except Nat (List Int×List Nat)}{v i:Value}{wr:World}{k:Nat}{out o:List Int}{opn p:List Nat}{nb:List NB}(hi:i= .int .i64 ((k+1:Nat):Int))(hk:k<cd.length)(h0:ru cd k out opn nb)(hs:cJ cd k out opn=some (o,p))
  (hr:cT cd (cd.length-k) k out opn=R) (h:d8 w w.heap.size o p v wr):zS w cd R v i wr:=by
 obtain⟨va,vc,rfl⟩:=h.form
 rcases lK h0 hk with⟨e,_⟩|⟨o',p',nb',e,_,h3⟩
 ·rw[hs] at e;cases e
 ·rw[hs] at e
  cases e
  refine⟨k+1,o,p,nb',va,vc,hi,rfl,hk,h3,?_,h⟩
  rw[show cd.length-k=(cd.length-(k+1))+1 by omega,cT,hs] at hr
  exact hr
theorem gw{cd:List RI}{k:Nat}{out:List Int}{opn:List Nat}{R:Except Nat (List Int×List Nat)}(hk:k<cd.length)(hs:cJ cd k out opn=none)(hr:cT cd (cd.length-k) k out opn=R):R= .error k:=by
 rw[show cd.length-k=(cd.length-(k+1))+1 by omega,cT,hs] at hr
 exact hr.symm
theorem vY(cd:List RI)(opn:List Nat)(h:∀m,m<opn.length->aq cd (opn.getD m 0)≠29):(opn.any λb=>decide (aq cd b=29))=false:=by
 rw[List.any_eq_false]
 intro b hb
 obtain⟨m,hm,rfl⟩:=List.getElem_of_mem hb
 have:=h m hm
 rw[List.getD_eq_getElem?_getD,List.getElem?_eq_getElem hm,Option.getD_some] at this
 simpa using this
theorem zH(cd:List RI)(opn:List Nat){m:Nat}(hm:m<opn.length)(h:aq cd (opn.getD m 0)=29):(opn.any λb=>decide (aq cd b=29))=true:=by
 rw[List.any_eq_true]
 refine⟨opn[m],List.getElem_mem _,?_⟩
 rw[List.getD_eq_getElem?_getD,List.getElem?_eq_getElem hm,Option.getD_some] at h
 simpa using h
theorem fg(a:Option Addr)(cap:Nat)(cd:List RI)(w:World)(hrow:dG w.heap.size w 5 a cd.length λi j=>(cd.getD i default).cell j)(hmax:cd.length<=16384)
  (hlv:∀out,cT cd cd.length 0 (List.replicate cd.length 0) []= .ok (out,[])->∃r,eE cd cd.length 0 out []=some r):
  Calls Try.prog 23 #[.slice a cd.length cap] w (uu w cd (cT cd cd.length 0 (List.replicate cd.length 0) [])):=by
 have mk:=ot cd.length (by omega)
 have HR:=Lib.hid hrow
 obtain⟨R,hR⟩:∃R,cT cd cd.length 0 (List.replicate cd.length 0) []=R:=⟨_,rfl⟩
 rw[hR] at hlv ⊢
 have start:∀wr,wr=w.alloc (.cells (ft (List.replicate cd.length 0)).toArray 3)->zS w cd R (.slice none 0 0) (.int .i64 0) wr:=by
  rintro wr rfl
  refine⟨0,List.replicate cd.length 0,[],[],none,0,rfl,rfl,Nat.zero_le _,jS cd,hR,(Below.refl _ _).alloc (Nat.le_refl _) _,?_,World.ownsRow_nil _ _ _ _⟩
  have e:eO .i64 (List.replicate cd.length 0)=ft (List.replicate cd.length 0):=by simp[eO,ft]
  rw[e]
  exact bK _ _
 have HST:=Lib.hid start
 have HLV:=Lib.hid hlv
 clear hrow start hR hlv
 go_enter Try.func23,Try.ntmps23
 go_wp2_with fail
 go_loopw [6,7] (λv i wr=>zS w cd R v i wr) (λ_ i _=>cd.length-(intOf i).toNat)
 case atStart=>exact HST.out _ rfl
 case round=>
  obtain⟨k,out,opn,nb,va,vc,rfl,rfl,hkl,PR,hrn,PM⟩:=hrel
  clear HST mk
  by_cases hk:k<cd.length
  rotate_left
  ·have hke:k=cd.length:=by omega
   rw[hke,Nat.sub_self,cT] at hrn
   have HPM:=Lib.hid PM
   have q:decide ((k:Int)<(cd.length:Int))=false:=by simp;omega
   by_cases h0:0<opn.length
   ·have q2:decide (0<(opn.length:Int))=true:=by simp;omega
    have HRN:=Lib.hid hrn
    have HH0:=Lib.hid h0
    clear PM hrn PR
    go_wp2
    refine bodyPost_ret (by simp[results,Try.results23,go_sem];try rfl) rfl ?_
    refine⟨HPM.out.bel,?_⟩
    rw[<-HRN.out]
    simp only
    rw[if_pos HH0.out]
    first|trivial|rfl
   ·have hnil:opn=[]:=List.eq_nil_of_length_eq_zero (by omega)
    subst hnil
    have q2:decide (0<(([]:List Nat).length:Int))=false:=rfl
    obtain⟨r,hr⟩:=HLV.out out hrn.symm
    have HLE:=Lib.hid (sk a cap cd wr w.heap.size out r (HR.out.below PM.bel) PM.out PR.len hmax hr)
    have HRN:=Lib.hid (And.intro hrn hr)
    clear PM hrn PR hr
    go_wp2_with fail
    refine HLE.out.mono ?_
    rintro e w' ⟨rfl,hblk,hbl⟩
    have HB:=Lib.hid (And.intro hblk hbl)
    clear hblk hbl
    go_wp2
    refine bodyPost_ret (by simp[results,Try.results23,go_sem];try rfl) rfl ?_
    refine⟨HPM.out.bel.trans HB.out.2,?_⟩
    rw[<-HRN.out.1]
    simp only
    rw[if_neg (by simp)]
    intro r2 hr2
    rw[HRN.out.2] at hr2
    cases hr2
    exact⟨by first|trivial|rfl,HB.out.1⟩
  obtain⟨b,off,rfl,hb,hc⟩:=HR.out k hk
  have hk':=bt hk
  have hlen:=PR.len
  have q:decide ((k:Int)<(cd.length:Int))=true:=by simp;omega
  have ck:=PM.outCell (p:=k) (by omega)
  have fk:=PM.out.frozen k
  have hobl:=PM.out.lt
  have HPM:=Lib.hid PM
  generalize out.getD k 0=y0 at ck
  clear PM
  go_upto_region 7 with(fail)
  refine cG (λW=>d8 w w.heap.size (out.set k (-1)) opn (.slice va opn.length vc) W) (HPM.out.setOut k (-1)) ?_
  intro W1 PM
  clear HPM ck fk hobl
  obtain⟨o1,ho1⟩:∃o1,out.set k (-1)=o1:=⟨_,rfl⟩
  rw[ho1] at PM
  have hobl:=PM.out.lt
  have hbw:b<W1.heap.size:=by omega
  have hl1:o1.length=cd.length:=by rw[<-ho1];simpa using hlen
  have hc2:W1.cell? ⟨b,off+k*5,none⟩=some (.int .i64 (aq cd k)):=by
   rw[PM.bel.cell (p:=⟨b,off+k*5,none⟩) hb];exact hc 0 (by omega)
  have codeAt:∀m,m<cd.length->W1.cell? ⟨b,off+m*5,none⟩=some (.int .i64 (aq cd m)):=λm hm=>by
   obtain⟨b2,off2,e2,hb2,hcm⟩:=HR.out m hm
   simp only[Option.some.injEq,Addr.mk.injEq,and_true] at e2
   obtain⟨rfl,rfl⟩:=e2
   rw[PM.bel.cell (p:=⟨b,off+m*5,none⟩) hb];exact hcm 0 (by omega)
  have HCA:=Lib.hid codeAt
  obtain⟨op,hop⟩:∃op,aq cd k=op:=⟨_,rfl⟩
  rw[hop] at hc2
  have HPM:=Lib.hid PM
  have HPR:=Lib.hid PR
  have HRN:=Lib.hid hrn
  have HOP:=Lib.hid (And.intro hop ho1)
  have hdp:=PR.deep
  have hps:∀x,(let o:=o1;let b:=opn.getLastD 0
    if op=27\/op=29 then(if opn.length=8 then none else some (o,opn++[k]))
    else if op=28 then(if opn.length=0\/aq cd b≠27\/0<=o.getD b 0 then none else some (o.set b k,opn))
    else if op=31 then(if opn.length=0 then none else some ((if aq cd b=27/\0<=o.getD b 0 then o.set (o.getD b 0).toNat k else o.set b k).set k b,opn.dropLast))
    else if op=30 then(if opn.any λb=>decide (aq cd b=29) then some (o,opn) else none)
    else some (o,opn))=x->cJ cd k out opn=x:=λx hx=>by rw[<-hx];unfold cJ;rw[ho1,hop]
  have HPS:=Lib.hid hps
  clear hc PM PR hrn codeAt hps hop ho1
  by_cases o27:op=27\/op=29
  ·by_cases h8:opn.length=8
   ·have HX:=Lib.hid (gw hk (HPS.out none (by dsimp only;rw[if_pos o27,if_pos h8])) HRN.out)
    have q8:((opn.length:Int)==8)=true:=by rw[h8];rfl
    rw[h8]
    rcases o27 with rfl|rfl
    all_goals
     go_wp2
     refine bodyPost_ret (by simp[results,Try.results23,go_sem];try rfl) rfl ?_
     exact⟨HPM.out.bel,by rw[HX.out]⟩
   ·have HX:=Lib.hid (HPS.out (some (o1,opn++[k])) (by dsimp only;rw[if_pos o27,if_neg h8]))
    have q8:((opn.length:Int)==8)=false:=by simp;omega
    rcases o27 with rfl|rfl
    all_goals
     go_wp2_with (at_builtin;refine cr Try.elInt rfl _ _ rfl (w.heap.size+1) (.slice va opn.length vc) opn.length _ rfl (HPM.out.own.alloc _) W1.heap.size [.int .i64 (k:Int)] (0,0) rfl (bK W1 _) rfl (by simp[Value.oneCell']) (by omega) (by simp;omega) ?_)
     intro g' c' w' hown' hgrow hat hlt
     have PX:=HPM.out.push rfl ((Below.refl _ _).alloc (Nat.le_refl _) _) hown' hgrow
     have HX2:=Lib.hid PX
     clear hown' hgrow hat hlt PX
     go_wp2
     go_roundw
     case rel=>exact zS.mk (k:=k) (by simp) hk HPR.out HX.out HRN.out HX2.out
     case measure=>simp[intOf];omega
  have q27:(op==27)=false:=by simp;exact λh=>o27 (.inl h)
  have q29:(op==29)=false:=by simp;exact λh=>o27 (.inr h)
  by_cases o28:op=28
  ·subst o28
   by_cases h0:opn.length=0
   ·have HX:=Lib.hid (gw hk (HPS.out none (by dsimp only;rw[if_neg o27,if_pos rfl,if_pos (.inl h0)])) HRN.out)
    have q0:((opn.length:Int)==0)=true:=by rw[h0];rfl
    rw[h0]
    go_wp2
    refine bodyPost_ret (by simp[results,Try.results23,go_sem];try rfl) rfl ?_
    exact⟨HPM.out.bel,by rw[HX.out]⟩
   obtain⟨m,hm⟩:∃m,opn.length=m+1:=⟨opn.length-1,by omega⟩
   obtain⟨g,rfl,_,hcap,hgl,hgc⟩:=HPM.out.opnCell (m:=m) (by omega)
   rw[<-nP opn m hm] at hgc
   obtain⟨p,hp⟩:∃p,opn.getLastD 0=p:=⟨_,rfl⟩
   have hpk:p<k:=by
    have hmem:opn.getLastD 0 ∈ opn:=by
     obtain⟨l,hl⟩:=i5 opn h0 0
     generalize opn.getLastD 0=z at hl
     rw[hl];simp
    rw[hp] at hmem
    exact(HPR.out.lt p hmem).1
   rw[hp] at hgc
   have cpp:=HCA.out p (by omega)
   have cop:=HPM.out.outCell (p:=p) (by omega)
   have fop:=HPM.out.out.frozen p
   obtain⟨pp,hpp⟩:∃pp,aq cd p=pp:=⟨_,rfl⟩
   obtain⟨x,hx⟩:∃x,o1.getD p 0=x:=⟨_,rfl⟩
   rw[hpp] at cpp
   rw[hx] at cop
   have hp':=bt (show p<cd.length by omega)
   have q0:((opn.length:Int)==0)=false:=by rw[hm,beq_eq_false_iff_ne];omega
   have q0':(((m+1:Nat):Int)==0)=false:=by rw[beq_eq_false_iff_ne];omega
   have q0'':((m:Int)+1==0)=false:=by rw[beq_eq_false_iff_ne];omega
   have hm8:m<8:=by omega
   by_cases hbad:pp≠27\/0<=x
   ·have HX:=Lib.hid (gw hk (HPS.out none (by dsimp only;rw[if_neg o27,if_pos rfl,if_pos (.inr (by rw[hp,hpp,hx];exact hbad))])) HRN.out)
    rw[hm]
    clear hp hpp hx
    by_cases h27:pp=27
    ·subst h27
     have hx0:0<=x:=hbad.resolve_left (by simp)
     go_wp2
     refine bodyPost_ret (by simp[results,Try.results23,go_sem];try rfl) rfl ?_
     exact⟨HPM.out.bel,by rw[HX.out]⟩
    ·have qp:(pp != 27)=true:=by simpa using h27
     go_wp2
     refine bodyPost_ret (by simp[results,Try.results23,go_sem];try rfl) rfl ?_
     exact⟨HPM.out.bel,by rw[HX.out]⟩
   ·have h27:pp=27:=Classical.byContradiction λh=>hbad (.inl h)
    have hx0:¬0<=x:=λh=>hbad (.inr h)
    have qx:decide (0<=x)=false:=by simp;omega
    have HX:=Lib.hid (HPS.out (some (o1.set p k,opn)) (by dsimp only;rw[if_neg o27,if_pos rfl,if_neg (by rw[hp,hpp,hx];rintro (h|h);exact h0 h;exact hbad h),hp]))
    have PX:=HPM.out.setOut p (k:Int)
    have HX2:=Lib.hid PX
    have HM:=Lib.hid hm
    subst h27
    rw[hm]
    clear hp hpp hx PX hbad hx0
    go_wp2
    go_roundw
    case rel=>exact zS.mk (k:=k) (by simp) hk HPR.out HX.out HRN.out (by rw[<-HM.out];exact HX2.out)
    case measure=>simp[intOf];omega
  have q28:(op==28)=false:=by simpa using o28
  by_cases o31:op=31
  ·subst o31
   by_cases h0:opn.length=0
   ·have HX:=Lib.hid (gw hk (HPS.out none (by dsimp only;rw[if_neg o27,if_neg o28,if_pos rfl,if_pos h0])) HRN.out)
    have q0:((opn.length:Int)==0)=true:=by rw[h0];rfl
    rw[h0]
    go_wp2
    refine bodyPost_ret (by simp[results,Try.results23,go_sem];try rfl) rfl ?_
    exact⟨HPM.out.bel,by rw[HX.out]⟩
   obtain⟨l,hl⟩:=i5 opn h0 0
   obtain⟨p,hp⟩:∃p,opn.getLastD 0=p:=⟨_,rfl⟩
   rw[hp] at hl
   subst hl
   have hlen2:(l++[p]).length=l.length+1:=by simp
   have hpk:p<k:=(HPR.out.lt p (by simp)).1
   obtain⟨g,rfl,_,hcap,hgl,hgc⟩:=HPM.out.opnCell (m:=l.length) (by omega)
   rw[hlen2] at hcap
   have hgp:(l++[p]).getD l.length 0=p:=by simp
   rw[hgp] at hgc
   have cpp:=HCA.out p (by omega)
   have cop:=HPM.out.outCell (p:=p) (by omega)
   have fop:=HPM.out.out.frozen p
   obtain⟨pp,hpp⟩:∃pp,aq cd p=pp:=⟨_,rfl⟩
   obtain⟨x,hx⟩:∃x,o1.getD p 0=x:=⟨_,rfl⟩
   rw[hpp] at cpp
   rw[hx] at cop
   have hp':=bt (show p<cd.length by omega)
   have q0:(((l++[p]).length:Int)==0)=false:=by rw[hlen2,beq_eq_false_iff_ne];omega
   have q0':(((l.length+1:Nat):Int)==0)=false:=by rw[beq_eq_false_iff_ne];omega
   have q0'':((l.length:Int)+1==0)=false:=by rw[beq_eq_false_iff_ne];omega
   have hm8:l.length<8:=by omega
   rw[hlen2]
   have HPM2:=Lib.hid (show d8 w w.heap.size o1 (l++[p]) (.slice (some ⟨g,0,none⟩) (l.length+1) vc) W1 by rw[<-hlen2];exact HPM.out)
   by_cases hsec:pp=27/\0<=x
   ·obtain⟨rfl,hx0⟩:=hsec
    obtain⟨m,rfl⟩:∃m:Nat,x=(m:Int):=⟨x.toNat,by omega⟩
    have hmk:m<k:=by
     have hg:(out.set k (-1)).getD p 0=out.getD p 0:=by rw[cB,if_neg (by omega)]
     have h1:=HPR.out.back p (by simp)
     rw[<-hg,HOP.out.2,hx] at h1
     have:=(h1 (by omega)).2
     simpa using this
    have HX:=Lib.hid (HPS.out (some ((o1.set m (k:Int)).set k (p:Int),l)) (by dsimp only;rw[if_neg o27,if_neg o28,if_pos rfl,if_neg h0,hp,hpp,hx,if_pos ⟨rfl,hx0⟩,Int.toNat_natCast,List.dropLast_concat]))
    have com:=HPM.out.outCell (p:=m) (by omega)
    have fom:=HPM.out.out.frozen m
    have hm':=bt (show m<cd.length by omega)
    generalize o1.getD m 0=y1 at com
    have cok:=((HPM.out.setOut m (k:Int)).outCell (p:=k) (by simp;omega))
    have fok:=(HPM.out.setOut m (k:Int)).out.frozen k
    generalize (o1.set m (k:Int)).getD k 0=y2 at cok
    have HX2:=Lib.hid ((HPM2.out.setOut m (k:Int)).setOut k (p:Int)).pop
    have qx:decide ((0:Int)<=(m:Int))=true:=by simp
    clear hp hpp hx h0 hgp
    go_wp2
    go_roundw
    case rel=>exact zS.mk (k:=k) (by simp) hk HPR.out HX.out HRN.out HX2.out
    case measure=>simp[intOf];omega
   ·have HX:=Lib.hid (HPS.out (some ((o1.set p (k:Int)).set k (p:Int),l)) (by dsimp only;rw[if_neg o27,if_neg o28,if_pos rfl,if_neg h0,hp,hpp,hx,if_neg hsec,List.dropLast_concat]))
    have cok:=((HPM.out.setOut p (k:Int)).outCell (p:=k) (by simp;omega))
    have fok:=(HPM.out.setOut p (k:Int)).out.frozen k
    generalize (o1.set p (k:Int)).getD k 0=y2 at cok
    have HX2:=Lib.hid ((HPM2.out.setOut p (k:Int)).setOut k (p:Int)).pop
    clear hp hpp hx h0 hgp
    by_cases h27:pp=27
    ·subst h27
     have qx:decide ((0:Int)<=x)=false:=by simp;exact Int.not_le.1 λh=>hsec ⟨rfl,h⟩
     clear hsec
     go_wp2
     go_roundw
     case rel=>exact zS.mk (k:=k) (by simp) hk HPR.out HX.out HRN.out HX2.out
     case measure=>simp[intOf];omega
    ·have qp:(pp==27)=false:=by simpa using h27
     clear hsec
     go_wp2
     go_roundw
     case rel=>exact zS.mk (k:=k) (by simp) hk HPR.out HX.out HRN.out HX2.out
     case measure=>simp[intOf];omega
  have q31:(op==31)=false:=by simpa using o31
  by_cases o30:op=30
  ·subst o30
   go_upto_region 29 with(fail)
   have hz:∀m:Nat,decide ((0:Int)<=(m:Int)+1-1)=true:=λm=>by simp
   go_loopw [10] (λi wz=>∃m:Nat,i= .int .i64 ((m:Int)-1)/\m<=opn.length/\(∀j,m<=j->j<opn.length->aq cd (opn.getD j 0)≠29)/\wz=W1) (λi _=>(intOf i+1).toNat)
   case atStart=>exact⟨opn.length,rfl,Nat.le_refl _,λj h1 h2=>by omega,rfl⟩
   case round=>
    obtain⟨m,rfl,hml,hno,rfl⟩:=hrel
    cases m with
    |zero=>
     have HX:=Lib.hid (gw hk (HPS.out none (by
      rw[if_neg (by decide),if_neg (by decide),if_neg (by decide),if_pos trivial,vY cd opn (λm hm=>hno m (Nat.zero_le _) hm)]
      rfl)) HRN.out)
     clear hno
     go_wp2
     refine bodyPost_ret (by simp[results,Try.results23,go_sem];try rfl) rfl ?_
     exact⟨HPM.out.bel,by rw[HX.out]⟩
    |succ m=>
     obtain⟨g,rfl,_,hcap,hgl,hgc⟩:=HPM.out.opnCell (m:=m) (by omega)
     obtain⟨p,hp⟩:∃p,opn.getD m 0=p:=⟨_,rfl⟩
     have hpk:p<k:=by
      have hmem:opn.getD m 0 ∈ opn:=by
       rw[List.getD_eq_getElem?_getD,List.getElem?_eq_getElem (show m<opn.length by omega),Option.getD_some]
       exact List.getElem_mem _
      rw[hp] at hmem
      exact(HPR.out.lt p hmem).1
     rw[hp] at hgc
     have cpp:=HCA.out p (by omega)
     obtain⟨pp,hpp⟩:∃pp,aq cd p=pp:=⟨_,rfl⟩
     rw[hpp] at cpp
     have hp':=bt (show p<cd.length by omega)
     have hmm:(((m+1:Nat):Int)-1)=(m:Int):=by omega
     have hm':=bt (show m<opn.length by omega)
     rw[hmm]
     by_cases h29:pp=29
     ·have HX:=Lib.hid (HPS.out (some (o1,opn)) (by
       rw[if_neg (by decide),if_neg (by decide),if_neg (by decide),if_pos trivial,zH cd opn (m:=m) (by omega) (by rw[hp,hpp];exact h29)]
       rfl))
      subst h29
      clear hno hp hpp
      go_wp2
      go_roundw
      case rel=>exact zS.mk (k:=k) (by simp) hk HPR.out HX.out HRN.out HPM.out
      case measure=>simp[intOf];omega
     ·have q29:(pp != 29)=true:=by simpa using h29
      have hno2:∀j,m<=j->j<opn.length->aq cd (opn.getD j 0)≠29:=λj h1 h2=>by
       by_cases h:j=m
       ·subst h;rw[hp,hpp];exact h29
       ·exact hno j (by omega) h2
      have HNO:=Lib.hid hno2
      clear hno hno2 hp hpp
      go_wp2
      go_roundw
      case rel=>exact⟨m,by simp,by omega,HNO.out,by first|trivial|rfl⟩
      case measure=>simp[intOf]
  have q30:(op==30)=false:=by simpa using o30
  have HX:=Lib.hid (HPS.out (some (o1,opn)) (by dsimp only;rw[if_neg o27,if_neg o28,if_neg o31,if_neg o30]))
  go_wp2
  go_roundw
  case rel=>exact zS.mk (k:=k) (by simp) hk HPR.out HX.out HRN.out HPM.out
  case measure=>simp[intOf];omega
end Go.Proofs.Yteopfmnnhlhbmaa