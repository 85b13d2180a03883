/- A part of the proof of AllocateNeeds: Q. No condition. -/
import Derived.Deep.Cut
import Derived.Deep.LoopGhost
import Derived.Lib.Hide
import Derived.Test.YteopfmnnhlhbmaaHn01
import Derived.Test.YteopfmnnhlhbmaaHn03
import Derived.Test.YteopfmnnhlhbmaaHn25
import Derived.Test.YteopfmnnhlhbmaaHn02
set_option linter.unusedSimpArgs false
set_option linter.unusedVariables false
set_option linter.constructorNameAsVariable false
set_option maxRecDepth 100000
set_option maxHeartbeats 4000000
namespace Go.Proofs.Yteopfmnnhlhbmaa
open Go.RowKit
theorem Try.elNB:R0 Try.prog 131 133 (.agg #[.bool false,.bool false,.bool false]) 3 3:=⟨Try.underlying131,by kernel_rfl,rfl,by decide,by decide⟩
theorem bt{r len:Nat}(h:r<len):(0:Int)<=(r:Int)/\(r:Int)<(len:Int):=by omega
structure b7(w:World)(cd:List RI)(k:Nat)(o:List NB)(v:Value)(wr:World):Prop where
 le:k<=cd.length
 own:wr.ownsRow w.heap.size 133 3 v o.length (eb o)
 bel:Below w.heap.size w wr
 len:o.length<=8
 run:aX cd 0 []=aX (cd.drop k) k o
def pz(w:World)(cd:List RI)(u i:Value)(wr:World):Prop:=∃(k:Nat) (o:List NB) (va:Option Addr) (vc:Nat),i= .int .i64 (k:Int)/\u= .slice va o.length vc/\b7 w cd k o (.slice va o.length vc) wr
theorem b7.rel{w:World}{cd:List RI}{k:Nat}{o:List NB}{v:Value}{wr:World}(h:b7 w cd k o v wr):pz w cd v (.int .i64 (k:Int)) wr:=by
 obtain⟨va,vc,rfl⟩:∃va vc,v= .slice va o.length vc:=by
  rcases h.own.2 with⟨h1,h2⟩|⟨g,cc,cur,h1,_⟩
  ·exact⟨none,0,by rw[h1,h2]⟩
  ·exact⟨_,cc,h1⟩
 exact⟨k,o,va,vc,rfl,rfl,h⟩
theorem tD{w:World}{base:Nat}{e:TypeId}{g cc n m:Nat}{xs:List Value}(h:w.ownsRow base e m (.slice (some ⟨g,0,none⟩) n cc) n xs):n<=cc:=by
 rcases h.2 with⟨h1,_⟩|⟨g',cc',cur,hv,hb,hgg,hle,hmx,hcs,htk⟩
 ·cases h1
 ·simp only[Value.slice.injEq,Option.some.injEq,Addr.mk.injEq] at hv
  omega
theorem b7.alloc{w:World}{cd:List RI}{k:Nat}{o:List NB}{v:Value}{wr:World}(h:b7 w cd k o v wr)(x:Obj):b7 w cd k o v (wr.alloc x):=
 ⟨h.le,h.own.alloc _,h.bel.alloc h.bel.size _,h.len,h.run⟩
theorem b7.top{w:World}{cd:List RI}{k:Nat}{l:List NB}{t:NB}{v:Value}{wr:World}(h:b7 w cd k (l++[t]) v wr):
  ∃g cc,v= .slice (some ⟨g,0,none⟩) (l.length+1) cc/\l.length+1<=cc/\w.heap.size<=g/\g<wr.heap.size/\(∀j,j<3->wr.cell? ⟨g,l.length*3+j,none⟩=[Value.bool t.loop,.bool t.within,.bool t.other][j]?)/\(∀j,wr.frozen? ⟨g,j,none⟩=false):=by
 have hown:=h.own
 rw[dY,List.length_append,List.length_singleton] at hown
 obtain⟨g,cc,rfl⟩:∃g cc,v= .slice (some ⟨g,0,none⟩) (l.length+1) cc:=by
  rcases hown.2 with⟨h1,h2⟩|⟨g,cc,cur,h1,_⟩
  ·simp at h2
  ·exact⟨g,cc,h1⟩
 have hl:=hown.lt g rfl
 refine⟨g,cc,rfl,tD hown,hl.1,hl.2,λj hj=>?_,λj=>hown.frozenAt j⟩
 rw[hown.cellAt _ (by omega),List.getElem?_append_right (by rw[da];omega),da]
 rw[show l.length*3+j-l.length*3=j by omega]
theorem b7.rel'{w:World}{cd:List RI}{k:Nat}{o:List NB}{v i:Value}{wr:World}(hi:i= .int .i64 ((k:Nat):Int))(h:b7 w cd k o v wr):pz w cd v i wr:=by subst hi;exact h.rel
theorem qq{α:Type}(o:List α):o=[]\/∃l t,o=l++[t]:=by
 rcases List.eq_nil_or_concat o with h|⟨l,t,h⟩
 ·exact .inl h
 ·exact .inr ⟨l,t,by rw[h,List.concat_eq_append]⟩
theorem ew(w:World)(o1 o2 o3:Obj):(((w.alloc o1).alloc o2).alloc o3).heap[w.heap.size+1+1]? =some o3:=by
 have:=heap_alloc_new ((w.alloc o1).alloc o2) o3
 simpa using this
theorem lN{w z w':World}{v:Value}{n:Nat}{xs:List Value}{o1:Obj}(hb:Below w.heap.size w z)(hown:(z.alloc o1).ownsRow w.heap.size 133 3 v n xs)(hg:(z.alloc o1).grownBy w' v.ownBlock):Below w.heap.size w w':=
 (hb.alloc hb.size _).trans (re hg (by have:=hb.size;simp;omega) (λx hx=>(hown.lt x hx).1))
theorem hZ{w z w':World}{cd:List RI}{k:Nat}{o:List NB}{v:Value}{n:Nat}{xs:List Value}{o1:Obj}{b0 b1 b2:Bool}{g c m:Nat}(hm:o.length=m)(hb:Below w.heap.size w z)(hown:(z.alloc o1).ownsRow w.heap.size 133 3 v n xs)
  (hown':w'.ownsRow w.heap.size 133 3 (.slice (some ⟨g,0,none⟩) (m+1) c) (m+1) (eb o++[.bool b0,.bool b1,.bool b2])) (hg:(z.alloc o1).grownBy w' v.ownBlock) (hk:k+1<=cd.length) (hl:(o++[(⟨b0,b1,b2⟩:NB)]).length<=8)
  (hrun:aX cd 0 []=aX (cd.drop (k+1)) (k+1) (o++[⟨b0,b1,b2⟩])):b7 w cd (k+1) (o++[⟨b0,b1,b2⟩]) (.slice (some ⟨g,0,none⟩) (m+1) c) w':=
 ⟨hk,by rw[dY,List.length_append,List.length_singleton,hm];exact hown',lN hb hown hg,hl,hrun⟩
theorem xC{w z:World}{l:List NB}{t:NB}{g cc:Nat}(h:z.ownsRow w.heap.size 133 3 (.slice (some ⟨g,0,none⟩) (l.length+1) cc) (l.length+1) (eb (l++[t]))):z.ownsRow w.heap.size 133 3 (.slice (some ⟨g,0,none⟩) l.length cc) l.length (eb l):=by
 rw[dY] at h
 exact tC h (da l)
theorem r6{w z:World}{cd:List RI}{k:Nat}{l:List NB}{tl tw tt:Bool}{g cc:Nat}(hb:Below w.heap.size w z)(h:z.ownsRow w.heap.size 133 3 (.slice (some ⟨g,0,none⟩) (l.length+1) cc) (l.length+1) (eb (l++[⟨tl,tw,tt⟩])))
  (hg:w.heap.size<=g) (hk:k+1<=cd.length) (hl:(l++[(⟨tl,tw,true⟩:NB)]).length<=8) (hrun:aX cd 0 []=aX (cd.drop (k+1)) (k+1) (l++[⟨tl,tw,true⟩])):
  b7 w cd (k+1) (l++[⟨tl,tw,true⟩]) (.slice (some ⟨g,0,none⟩) (l.length+1) cc) (z.setCell ⟨g,l.length*3+2,none⟩ (.bool true)):=by
 refine⟨hk,?_,hb.setCell hg _,hl,hrun⟩
 have:=(h.stored (l.length*3+2) (.bool true)).1
 rw[List.length_append,List.length_singleton,dY]
 rw[dY] at this
 have e:(eb l++[Value.bool tl,.bool tw,.bool tt]).set (l.length*3+2) (.bool true)=eb l++[.bool tl,.bool tw,.bool true]:=by
  rw[List.set_append_right _ _ (by rw[da];omega),da,show l.length*3+2-l.length*3=2 by omega]
  rfl
 simp only at this ⊢
 rw[e] at this
 exact this
theorem rZ(a:Option Addr)(cap:Nat)(cd:List RI)(w:World)(hrow:dG w.heap.size w 5 a cd.length λi j=>(cd.getD i default).cell j)(hmax:cd.length<=16384):
  Calls Try.prog 64 #[.slice a cd.length cap] w λe w'=>e= .returned (.tuple #[.int .i64 (aX cd 0 []).1,.bool (aX cd 0 []).2])/\Below w.heap.size w w':=by
 have HR:=Lib.hid hrow
 clear hrow
 go_enter Try.func64,Try.ntmps64
 go_wp2_with fail
 go_loopw [4,13] (λv i wr=>pz w cd v i wr) (λ_ i _=>cd.length-(intOf i).toNat)
 case atStart=>exact b7.rel (k:=0) (o:=[]) ⟨Nat.zero_le _,World.ownsRow_nil _ _ _ _,Below.refl _ _,by simp,by simp⟩
 case round=>
  obtain⟨k,o,va,vc,rfl,rfl,NA⟩:=hrel
  have hkl:=NA.le
  by_cases hk:k<cd.length
  ·obtain⟨b,off,rfl,hb,hc⟩:=HR.out k hk
   have hk':=bt hk
   have hbw:b<wr.heap.size:=Nat.lt_of_lt_of_le hb NA.bel.size
   have hc2:∀j,j<5->wr.cell? ⟨b,off+k*5+j,none⟩=some ((cd.getD k default).cell j):=λj hj=>by rw[NA.bel.cell (p:=⟨b,off+k*5+j,none⟩) hb];exact hc j hj
   have hnext:=nJ cd k hk o
   have hbad:=qr cd k hk o
   generalize hi:cd.getD k default=i at hc2 hnext hbad
   obtain⟨op,to,ra,rb,arg⟩:=i
   have k0:wr.cell? ⟨b,off+k*5,none⟩=some (.int .i64 op):=hc2 0 (by omega)
   have k1:wr.cell? ⟨b,off+k*5+1,none⟩=some (.int .i64 to):=hc2 1 (by omega)
   have k2:wr.cell? ⟨b,off+k*5+1+1,none⟩=some (.int .i64 ra):=hc2 2 (by omega)
   have k3:wr.cell? ⟨b,off+k*5+1+1+1,none⟩=some (.int .i64 rb):=hc2 3 (by omega)
   have k4:wr.cell? ⟨b,off+k*5+1+1+1+1,none⟩=some (.int .u32 arg):=hc2 4 (by omega)
   clear hc2 hi hc
   rcases qq o with rfl|⟨l,⟨tl,tw,tt⟩,rfl⟩
   ·have OWN:=Lib.hid ((NA.own.alloc (.cells #[.int .i64 op,.int .i64 to,.int .i64 ra,.int .i64 rb,.int .u32 arg] 60)).alloc (.cells #[.bool false,.bool false,.bool false] 133))
    have BEL2:Below w.heap.size w ((wr.alloc (.cells #[.int .i64 op,.int .i64 to,.int .i64 ra,.int .i64 rb,.int .u32 arg] 60)).alloc (.cells #[.bool false,.bool false,.bool false] 133)):=(NA.bel.alloc NA.bel.size _).alloc (by have:=NA.bel.size;simp;omega) _
    have HRUN:=Lib.hid NA.run
    have HNEXT:=Lib.hid hnext
    have HBAD:=Lib.hid hbad
    clear NA hnext hbad
    by_cases o27:op=27
    ·subst o27
     have HN:=Lib.hid (HNEXT.out ([]++[⟨false,false,false⟩]) (by simp[aD,bG]))
     go_wp2_with (at_builtin;refine cr Try.elNB rfl _ _ rfl w.heap.size (.slice va 0 vc) 0 [] rfl (OWN.out.alloc _) (wr.heap.size+1+1) [.bool false,.bool false,.bool false] (0,0) rfl (ew wr _ _ _) rfl (by simp[Value.oneCell']) (by omega) (by have:=BEL2.size;simp at this ⊢;omega) ?_)
     intro g' c' w' hown' hgrow hat hlt
     have NX:=Lib.hid (hZ (o:=[]) (by simp) BEL2 (OWN.out.alloc _) hown' hgrow (by omega) (by first|(simp;done)|(simp;omega)) (HRUN.out.trans HN.out))
     clear hown' hgrow hat hlt
     go_wp2
     go_roundw
     case rel=>exact b7.rel' (by simp) NX.out
     case measure=>simp[intOf];omega
    by_cases o29:op=29
    ·subst o29
     have HN:=Lib.hid (HNEXT.out ([]++[⟨true,true,false⟩]) (by simp[aD,bG]))
     go_wp2_with (at_builtin;refine cr Try.elNB rfl _ _ rfl w.heap.size (.slice va 0 vc) 0 [] rfl (OWN.out.alloc _) (wr.heap.size+1+1) [.bool true,.bool true,.bool false] (0,0) rfl (ew wr _ _ _) rfl (by simp[Value.oneCell']) (by omega) (by have:=BEL2.size;simp at this ⊢;omega) ?_)
     intro g' c' w' hown' hgrow hat hlt
     have NX:=Lib.hid (hZ (o:=[]) (by simp) BEL2 (OWN.out.alloc _) hown' hgrow (by omega) (by first|(simp;done)|(simp;omega)) (HRUN.out.trans HN.out))
     clear hown' hgrow hat hlt
     go_wp2
     go_roundw
     case rel=>exact b7.rel' (by simp) NX.out
     case measure=>simp[intOf];omega
    by_cases o28:op=28
    ·subst o28
     go_wp2
     go_ret2
     refine⟨?_,BEL2⟩
     rw[HRUN.out,HBAD.out (by simp[aD,bG])];rfl
    by_cases o30:op=30
    ·subst o30
     go_wp2
     go_ret2
     refine⟨?_,BEL2⟩
     rw[HRUN.out,HBAD.out (by simp[aD,bG])];rfl
    by_cases o31:op=31
    ·subst o31
     go_wp2
     go_ret2
     refine⟨?_,BEL2⟩
     rw[HRUN.out,HBAD.out (by simp[aD,bG])];rfl
    have q27:(op==27)=false:=by simpa using o27
    have q29:(op==29)=false:=by simpa using o29
    have q28:(op==28)=false:=by simpa using o28
    have q30:(op==30)=false:=by simpa using o30
    have q31:(op==31)=false:=by simpa using o31
    have HN:=Lib.hid (HNEXT.out [] (by simp[aD,bG,o27,o29,o28,o30,o31]))
    go_wp2
    go_roundw
    case rel=>exact b7.rel' (k:=k+1) (o:=[]) (by simp) ⟨by omega,OWN.out,BEL2,by simp,HRUN.out.trans HN.out⟩
    case measure=>simp[intOf];omega
   ·obtain⟨g,cc,hv,hcap,hg0,hgl,htc,hfz⟩:=NA.top
    simp only[Value.slice.injEq] at hv
    obtain⟨rfl,hv2,rfl⟩:=hv
    have hlb:l.length+1<=8:=by have:=NA.len;simpa using this
    have t0:wr.cell? ⟨g,l.length*3,none⟩=some (.bool tl):=htc 0 (by omega)
    have t1:wr.cell? ⟨g,l.length*3+1,none⟩=some (.bool tw):=htc 1 (by omega)
    have t2:wr.cell? ⟨g,l.length*3+1+1,none⟩=some (.bool tt):=htc 2 (by omega)
    have t2':wr.cell? ⟨g,l.length*3+2,none⟩=some (.bool tt):=htc 2 (by omega)
    have HZ:=Lib.hid hfz
    have hown:=NA.own
    rw[List.length_append,List.length_singleton] at hown ⊢
    have OWN:=Lib.hid ((hown.alloc (.cells #[.int .i64 op,.int .i64 to,.int .i64 ra,.int .i64 rb,.int .u32 arg] 60)).alloc (.cells #[.bool tl,.bool tw,.bool tt] 133))
    have BEL2:Below w.heap.size w ((wr.alloc (.cells #[.int .i64 op,.int .i64 to,.int .i64 ra,.int .i64 rb,.int .u32 arg] 60)).alloc (.cells #[.bool tl,.bool tw,.bool tt] 133)):=(NA.bel.alloc NA.bel.size _).alloc (by have:=NA.bel.size;simp;omega) _
    have OWN0:=Lib.hid hown
    have BEL0:=Lib.hid NA.bel
    have hcapI:(l.length:Int)<=(vc:Int)/\¬vc=0:=by omega
    have HRUN:=Lib.hid NA.run
    have HNEXT:=Lib.hid hnext
    have HBAD:=Lib.hid hbad
    clear NA hnext hbad htc hv2 hfz hown
    by_cases o27:op=27
    ·subst o27
     by_cases h8:l.length+1<8
     ·have h8':((l.length:Int)+1<8):=by omega
      have HN:=Lib.hid (HNEXT.out ((l++[⟨tl,tw,tt⟩])++[⟨false,tw,false⟩]) (by simp[aD,bG,h8]))
      go_wp2_with (at_builtin;refine cr Try.elNB rfl _ _ rfl w.heap.size (.slice (some ⟨g,0,none⟩) (l.length+1) vc) (l.length+1) _ rfl (OWN.out.alloc _) (wr.heap.size+1+1) [.bool false,.bool tw,.bool false] (0,0) rfl (ew wr _ _ _) rfl (by simp[Value.oneCell']) (by omega) (by have:=BEL2.size;simp at this ⊢;omega) ?_)
      intro g' c' w' hown' hgrow hat hlt
      have NX:=Lib.hid (hZ (o:=l++[⟨tl,tw,tt⟩]) (by simp) BEL2 (OWN.out.alloc _) hown' hgrow (by omega) (by first|(simp;done)|(simp;omega)) (HRUN.out.trans HN.out))
      clear hown' hgrow hat hlt
      go_wp2
      go_roundw
      case rel=>exact b7.rel' (by simp) NX.out
      case measure=>simp[intOf];omega
     ·have h8':¬((l.length:Int)+1<8):=by omega
      go_wp2_with (at_builtin;refine cr Try.elNB rfl _ _ rfl w.heap.size (.slice (some ⟨g,0,none⟩) (l.length+1) vc) (l.length+1) _ rfl (OWN.out.alloc _) (wr.heap.size+1+1) [.bool false,.bool tw,.bool false] (0,0) rfl (ew wr _ _ _) rfl (by simp[Value.oneCell']) (by omega) (by have:=BEL2.size;simp at this ⊢;omega) ?_)
      intro g' c' w' hown' hgrow hat hlt
      have BX:=Lib.hid (lN BEL2 (OWN.out.alloc _) hgrow)
      clear hown' hgrow hat hlt
      go_wp2
      go_ret2
      refine⟨?_,BX.out⟩
      rw[HRUN.out,HBAD.out (by simp[aD,bG];omega)];rfl
    by_cases o29:op=29
    ·subst o29
     by_cases h8:l.length+1<8
     ·have h8':((l.length:Int)+1<8):=by omega
      have HN:=Lib.hid (HNEXT.out ((l++[⟨tl,tw,tt⟩])++[⟨true,true,false⟩]) (by simp[aD,bG,h8]))
      go_wp2_with (at_builtin;refine cr Try.elNB rfl _ _ rfl w.heap.size (.slice (some ⟨g,0,none⟩) (l.length+1) vc) (l.length+1) _ rfl (OWN.out.alloc _) (wr.heap.size+1+1) [.bool true,.bool true,.bool false] (0,0) rfl (ew wr _ _ _) rfl (by simp[Value.oneCell']) (by omega) (by have:=BEL2.size;simp at this ⊢;omega) ?_)
      intro g' c' w' hown' hgrow hat hlt
      have NX:=Lib.hid (hZ (o:=l++[⟨tl,tw,tt⟩]) (by simp) BEL2 (OWN.out.alloc _) hown' hgrow (by omega) (by first|(simp;done)|(simp;omega)) (HRUN.out.trans HN.out))
      clear hown' hgrow hat hlt
      go_wp2
      go_roundw
      case rel=>exact b7.rel' (by simp) NX.out
      case measure=>simp[intOf];omega
     ·have h8':¬((l.length:Int)+1<8):=by omega
      go_wp2_with (at_builtin;refine cr Try.elNB rfl _ _ rfl w.heap.size (.slice (some ⟨g,0,none⟩) (l.length+1) vc) (l.length+1) _ rfl (OWN.out.alloc _) (wr.heap.size+1+1) [.bool true,.bool true,.bool false] (0,0) rfl (ew wr _ _ _) rfl (by simp[Value.oneCell']) (by omega) (by have:=BEL2.size;simp at this ⊢;omega) ?_)
      intro g' c' w' hown' hgrow hat hlt
      have BX:=Lib.hid (lN BEL2 (OWN.out.alloc _) hgrow)
      clear hown' hgrow hat hlt
      go_wp2
      go_ret2
      refine⟨?_,BX.out⟩
      rw[HRUN.out,HBAD.out (by simp[aD,bG];omega)];rfl
    by_cases o28:op=28
    ·subst o28
     cases tl
     ·cases tt
      ·have HN:=Lib.hid (HNEXT.out (l++[⟨false,tw,true⟩]) (by simp[aD,bG]))
       have z2:=HZ.out (l.length*3+2)
       go_wp2
       go_roundw
       case rel=>exact b7.rel' (k:=k+1) (o:=l++[⟨false,tw,true⟩]) (by simp) (((r6 BEL0.out OWN0.out hg0 (by omega) (by simp;omega) (HRUN.out.trans HN.out)).alloc _).alloc _)
       case measure=>simp[intOf];omega
      ·go_wp2
       go_ret2
       refine⟨?_,BEL2⟩
       rw[HRUN.out,HBAD.out (by simp[aD,bG])];rfl
     ·go_wp2
      go_ret2
      refine⟨?_,BEL2⟩
      rw[HRUN.out,HBAD.out (by simp[aD,bG])];rfl
    by_cases o30:op=30
    ·subst o30
     cases tw
     ·go_wp2
      go_ret2
      refine⟨?_,BEL2⟩
      rw[HRUN.out,HBAD.out (by simp[aD,bG])];rfl
     ·have HN:=Lib.hid (HNEXT.out (l++[⟨tl,true,tt⟩]) (by simp[aD,bG]))
      go_wp2
      go_roundw
      case rel=>exact b7.rel' (k:=k+1) (o:=l++[⟨tl,true,tt⟩]) (by simp) ⟨by omega,by simpa using OWN.out,BEL2,by simp;omega,HRUN.out.trans HN.out⟩
      case measure=>simp[intOf];omega
    by_cases o31:op=31
    ·subst o31
     have HN:=Lib.hid (HNEXT.out l (by simp[aD]))
     go_wp2
     go_roundw
     case rel=>exact b7.rel' (k:=k+1) (o:=l) (by simp) ⟨by omega,xC OWN.out,BEL2,by omega,HRUN.out.trans HN.out⟩
     case measure=>simp[intOf];omega
    have q27:(op==27)=false:=by simpa using o27
    have q29:(op==29)=false:=by simpa using o29
    have q28:(op==28)=false:=by simpa using o28
    have q30:(op==30)=false:=by simpa using o30
    have q31:(op==31)=false:=by simpa using o31
    have HN:=Lib.hid (HNEXT.out (l++[⟨tl,tw,tt⟩]) (by simp[aD,o27,o29,o28,o30,o31]))
    go_wp2
    go_roundw
    case rel=>exact b7.rel' (k:=k+1) (o:=l++[⟨tl,tw,tt⟩]) (by simp) ⟨by omega,by simpa using OWN.out,BEL2,by simp;omega,HRUN.out.trans HN.out⟩
    case measure=>simp[intOf];omega
  ·have hkk:k=cd.length:=by omega
   subst hkk
   have HB:=Lib.hid NA.bel
   have HRUN:=Lib.hid NA.run
   clear NA
   go_wp2
   go_ret2
   refine⟨?_,HB.out⟩
   rw[HRUN.out,xD]
   simp
end Go.Proofs.Yteopfmnnhlhbmaa