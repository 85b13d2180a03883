/- A part of the proof of AllocateNeeds: LvA LvB LvC LvE LvD BlP BlQ BlA. No condition. -/
import Derived.Lib.Hide
import Derived.LoopIn
import Derived.LoopNIn
import Derived.OwnWalkIn
import Derived.RangeFuncBox
import Derived.RangeFuncLeaves
import Derived.Shelf.Abstract
import Derived.TacticsInMore
import Derived.WalkKit
import Derived.Test.YteopfmnnhlhbmaaHn22
import Derived.Test.YteopfmnnhlhbmaaProg
import Derived.Test.YteopfmnnhlhbmaaHn17
import Derived.Test.YteopfmnnhlhbmaaHn13
import Derived.Test.YteopfmnnhlhbmaaHn16
import Derived.Test.YteopfmnnhlhbmaaHn10
import Derived.Test.YteopfmnnhlhbmaaHn14
set_option linter.unusedSimpArgs false
set_option linter.unusedVariables false
set_option linter.constructorNameAsVariable false
set_option maxRecDepth 100000
set_option maxHeartbeats 4000000
namespace Go.Proofs.Yteopfmnnhlhbmaa
open Go.RowKit Go.Shelf
attribute [local go_sem] Oper.semAt_some
theorem n4(l c0 o0:Nat)(ad:Option Addr)(cap n:Nat)(f:Nat->Nat->Value)(J:Nat->World->Prop)
  (hbox:∀i W,J i W->W.cell? ⟨c0,o0,none⟩=some (.slice ad n cap))
  (hel:∀i W k,J i W->k<n->∃c off,ad=some ⟨c,off,none⟩/\∀j,j<5->W.cell? ⟨c,off+k*5+j,none⟩=some (f k j))
  (hY:∀i W1,i<n->J i W1->YieldAt Fence.wide 7 Try.prog l #[.int .i64 ((n-1-i:Nat):Int),.agg #[f (n-1-i) 0,f (n-1-i) 1,f (n-1-i) 2,f (n-1-i) 3,f (n-1-i) 4]] W1 λe W'=>e= .returned (.bool true)/\J (i+1) W')
  (W:World) (h0:J 0 W) (hn:n<=16777216):
  CallsIn Fence.wide 8 Try.prog 87 #[.func (.yield l) #[] #[],.pointer (some ⟨c0,o0,none⟩)] W λe W'=>(∃v,e= .returned v)/\J n W':=by
 have hfn:∀f,Fence.wide.fn f:=λ_=>trivial
 have HB:=Lib.hid hbox
 have HE:=Lib.hid hel
 have HY:=Lib.hid hY
 have hb0:=hbox 0 W h0
 clear hbox hel hY
 refine callsIn_of_wp Try.func87 rfl trivial ?_ rfl
 simp only[Try.ntmps87,List.size_toArray,List.length_cons,List.length_nil,Nat.reduceAdd,Nat.reduceSub,Array.replicate_succ,Array.replicate_zero,List.push_toArray,List.append_toArray,List.nil_append,List.cons_append]
 have hw0:IntKind.wrap .i64 ((n:Int)-1)=(n:Int)-1:=by rw[IntKind.wrap_i64];omega
 gi_wp2
 gi_loopw [3] (λi wr=>∃k:Nat,k<=n/\i= .int .i64 ((n:Int)-1-k)/\J k wr) (λi _=>(intOf i+1).toNat)
 case atStart=>exact⟨0,Nat.zero_le _,by simp,h0⟩
 case round=>
  obtain⟨k,hk,rfl,hJk⟩:=hrel
  by_cases hlt:k<n
  ·have hbx:=HB.out k wr hJk
   obtain⟨c,off,rfl,hc⟩:=HE.out k wr (n-1-k) hJk (by omega)
   have c0':=hc 0 (by omega)
   rw[Nat.add_zero] at c0'
   have c1':=hc 1 (by omega)
   have c2':=hc 2 (by omega)
   have c3':=hc 3 (by omega)
   have c4':=hc 4 (by omega)
   obtain⟨fn,tmps,assign,body,hy,hR⟩:=HY.out k wr hlt hJk
   have hi:(n:Int)-1-k=((n-1-k:Nat):Int):=by omega
   rw[hi]
   have hge:(0:Int)<=((n-1-k:Nat):Int):=by omega
   have hltn:((n-1-k:Nat):Int)<(n:Int):=by omega
   clear hc
   gi_wp2
   refine hR.mono ?_
   rintro e W3 ⟨rfl,hJ3⟩
   gi_wp2
   go_roundw
   case rel=>exact⟨k+1,by omega,by simp;omega,hJ3⟩
   case measure=>simp[intOf]<;>omega
  ·obtain rfl:k=n:=by omega
   have hneg:¬(0:Int)<=(k:Int)-1-k:=by omega
   gi_wp2
   go_end0
   exact⟨⟨_,rfl⟩,hJk⟩
theorem uk{φ:Fz}{W:World}(h:pE φ W){c:Nat}{cs:Array Value}(hz:φ c=some cs){i:Nat}(hi:i<cs.size):W.cell? ⟨c,i,none⟩=some (cs.getD i undef):=by
 obtain⟨cs',t,fr,h1,h2⟩:=h c cs hz
 have:=h2.1
 have:=h2.2 i hi
 simp only[World.cell?,h1]
 rw[this]
 simp[Array.getD,hi]
theorem nh(n:Nat)(row:Nat->Nat->AV)(hn:n<=16777216):Pm Try.prog 87 [.fp 1 (λ_=> .fs 5 n row) 0] n (λi=>(.n .i64 ((n-1-i:Nat):Int),.agg [row (n-1-i) 0,row (n-1-i) 1,row (n-1-i) 2,row (n-1-i) 3,row (n-1-i) 4])):=by
 refine⟨enters_of Try.func87 (by kernel_rfl) rfl,λφ lb hlb=>?_⟩
 obtain⟨u,rfl⟩:∃u,lb= #[u]:=by
  have:=hlb.1
  match lb,this with
  |⟨[u]⟩,_=>exact⟨u,rfl⟩
 have hu:VR (Sg.data φ) (.fp 1 (λ_=> .fs 5 n row) 0) u:=by simpa using hlb.2 0 _ rfl
 cases hu with
 |@fp _ _ _ c0 o0 cs0 hz hb h1 h j=>
  have h2:=h 0 (by decide)
  have hb0:o0<cs0.size:=by omega
  generalize hsv:cs0.getD (o0+0) undef=sv at h2
  rw[Nat.add_zero] at hsv
  have hbx:∀W,pE φ W->W.cell? ⟨c0,o0,none⟩=some sv:=λW hW=>by rw[uk hW hz hb0,hsv]
  cases h2 with
  |fs0 esz row a cap=>
   refine⟨λ_=>(.bool true,.bool true),λi hi=>by omega,λl J W hJ hY h0=>?_⟩
   exact n4 l c0 o0 a cap 0 (λ_ _=> .bool true) J (λi W hi=>hbx W (hJ i W hi)) (λi W k _ hk=>by omega) (λi W1 hi=>by omega) W h0 hn
  |fs hz2 hb2 h3 h4 cap hcap=>
   rename_i c off cs
   refine⟨λi=>(.int .i64 ((n-1-i:Nat):Int),.agg #[cs.getD (off+(n-1-i)*5+0) undef,cs.getD (off+(n-1-i)*5+1) undef,cs.getD (off+(n-1-i)*5+2) undef,cs.getD (off+(n-1-i)*5+3) undef,cs.getD (off+(n-1-i)*5+4) undef]),λi hi=>⟨.n _ _,?_⟩,λl J W hJ hY h0=>?_⟩
   ·have g:=λj hj=>h4 (n-1-i) j (by omega) hj
    exact(((((bw.nil.cons (g 4 (by decide))).cons (g 3 (by decide))).cons (g 2 (by decide))).cons (g 1 (by decide))).cons (g 0 (by decide))).agg
   ·refine n4 l c0 o0 _ cap n (λk j=>cs.getD (off+k*5+j) undef) J (λi W hi=>hbx W (hJ i W hi)) (λi W k hi hk=>⟨c,off,rfl,λj hj=>uk (hJ i W hi) hz2 (by omega)⟩) (λi W1 hi hJ1=>hY i W1 hi hJ1) W h0 hn
end Go.Proofs.Yteopfmnnhlhbmaa
namespace Go.Proofs.Yteopfmnnhlhbmaa
open Go.RowKit
theorem pj(n:Nat)(row:Nat->Nat->AV):bR Try.prog 67 [.fs 5 n row] [.v (.f 87 [] [.fp 1 (λ_=> .fs 5 n row) 0])]:=by
 refine aK bf Mi ⟨by simp,by decide⟩ ?_
 simp only[bI]
 (try simp only[go_sem,simprocAttr])
 iterate 4 (with_reducible refine GA.go bf rfl ?_;try simp only[go_sem,simprocAttr])
 refine GA.wk (Wk.mk (L:=[(2,.f 87 [] [.fp 1 (λ_=> .fs 5 n row) 0])]) (bl:=[]) [] [0] ?_ ?_ ?_) ?_
 ·exact⟨⟨by decide,.f 87 [] [.p 0 0],by simp only[go_sem,simprocAttr],.cv (.fn .nil (.cons (.p (o:=0) (j:=0) (x:=bg 0 23 [.fs 5 n row]) (List.mem_cons_self ..) (by simp only[go_sem,simprocAttr]<;>rfl) (by show 0+1<=1;decide) (by show 0<1;decide) (λq hq=>by obtain rfl:q=0:=(by omega);rfl) (λq hq=>rfl)) .nil))⟩,True.intro⟩
 ·exact .nil
 ·decide
 repeat first|with_reducible refine aw ?_|simp only[go_sem,simprocAttr]
 exact⟨[_],rfl,⟨rfl,rfl⟩,True.intro⟩
def gC(nx:Nat->List Nat)(i _j:Nat):AV:= .fs 1 (nx i).length (λj _=> .n .i64 (((nx i).getD j 0:Nat):Int))
def bO(l:List Int):dl:=⟨true,λk=>if k ∈ l then some (.b true) else none,l.length,none⟩
def zO(ad:Nat->Nat)(i _j:Nat):AV:= .cv (.map (some (ad i)))
def gW(l:List Int)(k:Int):List Int:=if k ∈ l then l else l++[k]
theorem iY{l:List Int}(h:l.Nodup)(k:Int):(gW l k).Nodup:=by
 unfold gW
 split
 ·exact h
 ·rename_i hk
  exact List.nodup_append.2 ⟨h,by simp,λa ha b hb e=>by simp at hb;subst hb;subst e;exact hk ha⟩
theorem dc{l:List Int}{k r:Int}:r ∈ gW l k↔r ∈ l\/r=k:=by
 unfold gW
 split
 ·rename_i hk
  exact⟨.inl,λh=>h.elim id (λe=>e ▸ hk)⟩
 ·simp
theorem zL(l:List Int)(k:Int):∃e,gW l k=l++e:=by
 unfold gW
 split
 ·exact⟨[],by simp⟩
 ·exact⟨[k],rfl⟩
theorem i6(l:List Int)(k:Int):(bO l).put k (.b true)=bO (gW l k):=by
 unfold dl.put bO gW
 by_cases hk:k ∈ l
 ·simp only[hk,if_true,Option.isSome_some]
  congr 1
  funext q
  by_cases e:q=k
  ·subst e;simp[hk]
  ·simp[e]
 ·simp only[hk,if_false,Option.isSome_none,Bool.false_eq_true]
  congr 1
  ·funext q
   by_cases e:q=k
   ·subst e;simp
   ·simp[e]
  ·simp
theorem du(l:List Int)(k:Int):(bO l).get k=if k ∈ l then some (.b true) else none:=rfl
theorem pR(l:List Int):(bO l).own=true:=rfl
theorem gu(l:List Int):(bO l).cnt=l.length:=rfl
theorem fi:(⟨true,λ_=>none,0,none⟩:dl)=bO []:=by unfold bO;simp
def aZ{α:Type}(S:Nat->α)(p:Nat)(l:α):Nat->α:=λi=>if i=p then l else S i
theorem aY{α:Type}(S:Nat->α)(p:Nat)(l:α):aZ S p l p=l:=if_pos rfl
theorem ae{α:Type}(S:Nat->α){p i:Nat}(l:α)(h:i≠p):aZ S p l i=S i:=if_neg h
theorem lU{α:Type}(S:Nat->α)(p:Nat):aZ S p (S p)=S:=by
 funext i;unfold aZ;split<;>simp_all
theorem kY{α:Type}(S:Nat->α)(p:Nat)(l l':α):aZ (aZ S p l) p l'=aZ S p l':=by
 funext i;unfold aZ;split<;>rfl
structure eL(n:Nat)(ad:Nat->Nat)(S:Nat->List Int)(ob:Nat->Option OB):Prop where
 at_:∀i,i<n->ob (ad i)=some (.mp (bO (S i)))
 inj:∀i j,i<n->j<n->ad i=ad j->i=j
theorem eL.put{n:Nat}{ad:Nat->Nat}{S:Nat->List Int}{ob:Nat->Option OB}(h:eL n ad S ob){p:Nat}(hp:p<n)(k:Int):eL n ad (aZ S p (gW (S p) k)) (bp (gj ob) (ad p) (.mp ((bO (S p)).put k (.b true)))):=by
 refine⟨λi hi=>?_,h.inj⟩
 by_cases e:i=p
 ·subst e
  rw[aJ,aY,i6]
 ·rw[aW _ _ (λe'=>e (h.inj i p hi hp e')),ae _ _ e,dR (h.at_ i hi)]
theorem eL.iter{n:Nat}{ad:Nat->Nat}{S:Nat->List Int}{ob:Nat->Option OB}(h:eL n ad S ob){t:Nat}(ht:ob t=none)(x:OB):eL n ad S (bp ob t x):=
 ⟨λi hi=>by rw[aW _ _ (iE (h.at_ i hi) ht)];exact h.at_ i hi,h.inj⟩
theorem eL.turn{n:Nat}{ad:Nat->Nat}{S:Nat->List Int}{ob:Nat->Option OB}(h:eL n ad S ob){t:Nat}{y:mP}(ht:ob t=some (.it y))(x:OB):eL n ad S (bp ob t x):=
 ⟨λi hi=>by rw[aW _ _ (λe=>by have:=h.at_ i hi;rw[e,ht] at this;cases this)];exact h.at_ i hi,h.inj⟩
def ga(ob0 ob:Nat->Option OB):Prop:=∀r o,ob0 r=some (.fix o)->ob r=some (.fix o)
theorem ga.refl(ob:Nat->Option OB):ga ob ob:=λ_ _ h=>h
theorem ga.trans{a b c:Nat->Option OB}(h:ga a b)(h':ga b c):ga a c:=λr o hr=>h' r o (h r o hr)
theorem ga.new{ob0 ob:Nat->Option OB}(h:ga ob0 ob){t:Nat}(ht:ob t=none)(x:OB):ga ob0 (bp ob t x):=λr o hr=>by
 have:=h r o hr
 rw[aW _ _ (iE this ht)];exact this
theorem ga.turn{ob0 ob:Nat->Option OB}(h:ga ob0 ob){t:Nat}{y:OB}(ht:ob t=some y)(hy:∀o,y≠ .fix o)(x:OB):ga ob0 (bp ob t x):=λr o hr=>by
 have:=h r o hr
 rw[aW _ _ (λe=>by rw[e,ht] at this;exact hy o (Option.some.inj this))];exact this
theorem ga.clr{ob0 ob:Nat->Option OB}(h:ga ob0 ob):ga ob0 (gj ob):=λr o hr=>by
 unfold gj;rw[h r o hr];rfl
/-! ### what is live-/
inductive bn(cs:List In)(nx:Nat->List Nat):Nat->Int->Prop where
 |read {i:Nat} {r:Int} (hi:i<cs.length) (h:r ∈ aA (cs.getD i (0,0,0,0,0)).1 (cs.getD i (0,0,0,0,0)).2.2.1 (cs.getD i (0,0,0,0,0)).2.2.2.1):bn cs nx i r
 |flow {i k:Nat} {r:Int} (hi:i<cs.length) (hk:k ∈ nx i) (h:bn cs nx k r) (hw:r≠a8 (cs.getD i (0,0,0,0,0)).1 (cs.getD i (0,0,0,0,0)).2.1):bn cs nx i r
def pB(cs:List In)(nx:Nat->List Nat)(S:Nat->List Int)(i:Nat):Prop:=
 (∀r ∈ aA (cs.getD i (0,0,0,0,0)).1 (cs.getD i (0,0,0,0,0)).2.2.1 (cs.getD i (0,0,0,0,0)).2.2.2.1,r ∈ S i)/\∀k ∈ nx i,∀r ∈ S k,r≠a8 (cs.getD i (0,0,0,0,0)).1 (cs.getD i (0,0,0,0,0)).2.1->r ∈ S i
structure iZ(cs:List In)(nx:Nat->List Nat)(S:Nat->List Int):Prop where
 nd:∀i,(S i).Nodup
 live:∀i,∀r ∈ S i,bn cs nx i r
theorem iZ.nil(cs:List In)(nx:Nat->List Nat):iZ cs nx (λ_=>[]):=⟨λ_=>List.nodup_nil,λ_ _ h=>by cases h⟩
theorem iZ.add{cs:List In}{nx:Nat->List Nat}{S:Nat->List Int}(h:iZ cs nx S){p:Nat}{k:Int}(hk:bn cs nx p k):iZ cs nx (aZ S p (gW (S p) k)):=by
 refine⟨λi=>?_,λi r hr=>?_⟩
 ·by_cases e:i=p
  ·subst e;rw[aY];exact iY (h.nd i) k
  ·rw[ae _ _ e];exact h.nd i
 ·by_cases e:i=p
  ·subst e;rw[aY] at hr
   rcases dc.1 hr with hr|rfl
   ·exact h.live i r hr
   ·exact hk
  ·rw[ae _ _ e] at hr;exact h.live i r hr
theorem lW{cs:List In}{nx:Nat->List Nat}{S:Nat->List Int}(hc:∀i,i<cs.length->pB cs nx S i){i:Nat}{r:Int}(h:bn cs nx i r):r ∈ S i:=by
 induction h with
 |read hi h=>exact(hc _ hi).1 _ h
 |flow hi hk _ hw ih=>exact(hc _ hi).2 _ hk _ ih hw
def size(S:Nat->List Int):Nat->Nat
 |0=>0
 |n+1=>size S n+(S n).length
theorem pP(S:Nat->List Int)(p:Nat)(e:List Int):∀n,p<n->size (aZ S p (S p++e)) n=size S n+e.length
 |0,h=>by omega
 |n+1,h=>by
  unfold size
  by_cases e1:n=p
  ·subst e1
   rw[aY,List.length_append]
   have:∀m,m<=n->size (aZ S n (S n++e)) m=size S m:=by
    intro m
    induction m with
    |zero=>intro _;rfl
    |succ m ih=>intro hm;unfold size;rw[ih (by omega),ae _ _ (by omega)]
   rw[this n (Nat.le_refl _)];omega
  ·rw[pP S p e n (by omega),ae _ _ e1];omega
theorem gz:∀{R:Nat} {l:List Int},l.Nodup->(∀r ∈ l,0<=r/\r<(R:Int))->l.length<=R
 |0,l,h,hr=>by
  cases l with
  |nil=>simp
  |cons a l=>have:=hr a (List.mem_cons_self ..);omega
 |R+1,l,h,hr=>by
  by_cases hm:(R:Int) ∈ l
  ·have h1:(l.erase (R:Int)).length<=R:=gz (h.erase _) (λr hr'=>by
    obtain⟨a,b⟩:=h.mem_erase_iff.1 hr'
    have:=hr r b
    omega)
   rw[List.length_erase_of_mem hm] at h1
   omega
  ·have h1:l.length<=R:=gz h (λr hr'=>by
    have:=hr r hr'
    have:r≠(R:Int):=λe=>hm (e ▸ hr')
    omega)
   omega
theorem bn.range{cs:List In}{nx:Nat->List Nat}{R:Nat}(hR:∀x ∈ cs,∀r ∈ aA x.1 x.2.2.1 x.2.2.2.1,0<=r/\r<(R:Int)){i:Nat}{r:Int}(h:bn cs nx i r):0<=r/\r<(R:Int):=by
 induction h with
 |read hi h=>exact hR _ (by rw[List.getD_eq_getElem?_getD,List.getElem?_eq_getElem hi];exact List.getElem_mem hi) _ h
 |flow _ _ _ _ ih=>exact ih
theorem iZ.size_le{cs:List In}{nx:Nat->List Nat}{S:Nat->List Int}(h:iZ cs nx S){R:Nat}(hR:∀x ∈ cs,∀r ∈ aA x.1 x.2.2.1 x.2.2.2.1,0<=r/\r<(R:Int)):∀n,size S n<=n*R
 |0=>by simp[size]
 |n+1=>by
  have:=h.size_le hR n
  have h2:=gz (h.nd n) (λr hr=>(h.live n r hr).range hR)
  unfold size
  rw[Nat.succ_mul];omega
structure rr(cs:List In)(nx:Nat->List Nat)(S0 S:Nat->List Int)(fl:Bool)(q:Nat):Prop where
 good:iZ cs nx S
 no:fl=false->S=S0/\∀i,q<=i->i<cs.length->pB cs nx S0 i
 yes:fl=true->size S0 (cs.length+1)<size S (cs.length+1)
theorem rr.start{cs:List In}{nx:Nat->List Nat}{S:Nat->List Int}(h:iZ cs nx S):rr cs nx S S false cs.length:=⟨h,λ_=>⟨rfl,λi h1 h2=>by omega⟩,λh=>by cases h⟩
theorem rr.next{cs:List In}{nx:Nat->List Nat}{S0 S:Nat->List Int}{fl:Bool}{p:Nat}(h:rr cs nx S0 S fl (p+1))(hp:p<cs.length){e:List Int}(hg:iZ cs nx (aZ S p (S p++e)))
  (h1:∀r ∈ aA (cs.getD p (0,0,0,0,0)).1 (cs.getD p (0,0,0,0,0)).2.2.1 (cs.getD p (0,0,0,0,0)).2.2.2.1,r ∈ S p++e) (h2:∀k ∈ nx p,∀r ∈ S k,r≠a8 (cs.getD p (0,0,0,0,0)).1 (cs.getD p (0,0,0,0,0)).2.1->r ∈ S p++e):
  rr cs nx S0 (aZ S p (S p++e)) (fl||decide ((S p).length<(S p++e).length)) p:=by
 have hs:=pP S p e (cs.length+1) (by omega)
 refine⟨hg,λhf=>?_,λhf=>?_⟩
 ·simp only[Bool.or_eq_false_iff,decide_eq_false_iff_not,List.length_append] at hf
  obtain⟨hf,he⟩:=hf
  have he:e=[]:=List.eq_nil_of_length_eq_zero (by omega)
  subst he
  obtain⟨rfl,hc⟩:=h.no hf
  simp only[List.append_nil] at*
  refine⟨lU _ _,λi hi1 hi2=>?_⟩
  by_cases e1:i=p
  ·subst e1;exact⟨h1,h2⟩
  ·exact hc i (by omega) hi2
 ·rw[hs]
  simp only[Bool.or_eq_true,decide_eq_true_eq,List.length_append] at hf
  rcases hf with hf|hf
  ·have:=h.yes hf;omega
  ·cases hfl:fl with
   |true=>have:=h.yes hfl;omega
   |false=>
    obtain⟨rfl,_⟩:=h.no hfl
    omega
abbrev Pp(n1:Nat)(ad:Nat->Nat)(nx:Nat->List Nat)(n:Nat)(fl:Bool)(ob:Nat->Option OB):AH:=ba ob [bg 0 4 [.b fl],bg 0 66 [.fs 1 n1 (zO ad)],bg 0 28 [.fs 1 n (gC nx)]]
abbrev HU(cs:List In):Tr AV:=aE [(0,.fs 5 cs.length (cC cs)),(4,.p 0 0),(5,.p 1 0),(7,.p 2 0)]
theorem Hy(y:mP)(k:Int)(v:AV):(y.at k v).cur=some (k,v):=id rfl
theorem fI{α:Type}[DecidableEq α]:∀{l l':List α},l.Nodup->(∀x ∈ l,x ∈ l')->l.length<=l'.length
 |[],l',_,_=>Nat.zero_le _
 |a::l,l',hn,hs=>by
  have h1:=List.nodup_cons.1 hn
  have ha:=hs a (List.mem_cons_self ..)
  have h2:=fI (l':=l'.erase a) h1.2 (λx hx=>(List.mem_erase_of_ne (by rintro rfl;exact h1.1 hx)).2 (hs x (List.mem_cons_of_mem _ hx)))
  rw[List.length_erase_of_mem ha] at h2
  have:0<l'.length:=List.length_pos_of_mem ha
  simp only[List.length_cons]
  omega
theorem mG(l E:List Int)(q:Int):∃E2,gW (l++E) q=l++E2:=by
 obtain⟨x,hx⟩:=zL (l++E) q
 exact⟨E++x,by rw[hx,List.append_assoc]⟩
abbrev RJ:Nat->Bool:=λt=>decide (t<8)
abbrev OY(n1:Nat)(ad:Nat->Nat)(nx:Nat->List Nat)(n:Nat)(fl:Bool)(x:In):List AB:=[bg 0 60 [.n .i64 x.1,.n .i64 x.2.1,.n .i64 x.2.2.1,.n .i64 x.2.2.2.1,.n .u32 x.2.2.2.2],bg 0 4 [.b fl],bg 0 66 [.fs 1 n1 (zO ad)],bg 0 28 [.fs 1 n (gC nx)]]
theorem A8(cs:List In)(nx:Nat->List Nat)(n1:Nat)(hn1:cs.length+1=n1)(hn:cs.length<=16384)(hnx:∀i,i<cs.length->∀k ∈ nx i,k<=cs.length)(hnl:∀i,(nx i).length<=2)
  (hw1:∀i k,i<cs.length->k ∈ nx i->k=i->a8 (cs.getD i (0,0,0,0,0)).1 (cs.getD i (0,0,0,0,0)).2.1= -1) (l p:Nat) (hp:p<cs.length) (hop:0<=(cs.getD p (0,0,0,0,0)).1/\(cs.getD p (0,0,0,0,0)).1<39) (ad:Nat->Nat) (S0 S:Nat->List Int) (fl:Bool) (ob:Nat->Option OB) (hP:rr cs nx S0 S fl (p+1)) (hob:eL n1 ad S ob):
  GX Try.prog 101 (aB Try.prog 36) RJ (some l) [] wI (aE [(8,.n .i64 p),(9,.p 3 0),(0,.fs 5 cs.length (cC cs)),(4,.p 0 0),(5,.p 1 0),(7,.p 2 0)]) (ba ob (OY n1 ad nx cs.length fl (cs.getD p (0,0,0,0,0))))
   (λds' x e' H'=>x= .normal/\ds'=[]/\∃e2 H2,Wk 101 e' H' e2 H2/\(∃S' fl' ob',rr cs nx S0 S' fl' p/\eL n1 ad S' ob'/\ga ob ob'/\e2=HU cs/\H2=Pp n1 ad nx cs.length fl' ob')):=by
 have hp0:(0:Int)<=(p:Int):=by omega
 have hp1:(p:Int)<(n1:Int):=by omega
 have hp2:(p:Int)<(cs.length:Int):=by omega
 have hpn:p<n1:=by omega
 have hadC:∀i,zO ad i 0= .cv (.map (some (ad i))):=λ_=>rfl
 have hgC:∀i,gC nx i 0= .fs 1 (nx i).length (λj _=> .n .i64 (((nx i).getD j 0:Nat):Int)):=λ_=>rfl
 have hobp:=hob.at_ p hpn
 have hadd:∀j:Nat,j<100000->IntKind.wrap .i64 ((j:Int)+1)=((j+1:Nat):Int):=λj hj=>by rw[aU (by omega)];omega
 generalize hx:cs.getD p (0,0,0,0,0)=x at*
 obtain⟨op,to,a,b,arg⟩:=x
 have hu:=fS (lq op to a b arg hop) (by rfl)
 simp only[List.map_cons,List.map_nil,RT.fz] at hu
 repeat (first|((with_reducible refine GX.go bf rfl ?_ ?_);focus rfl)|simp only[hp0,hp1,hp2,hadC,hobp,gu,go_sem,simprocAttr])
 refine sC hu ?_
 repeat (first|((with_reducible refine GX.go bf rfl ?_ ?_);focus rfl)|simp only[hp0,hp1,hp2,hgC,go_sem,simprocAttr])
 refine GX.loop (I:=λmm ds e H=>∃(j:Nat) (E:List Int) (ob':Nat->Option OB),mm=(nx p).length-j/\j<=(nx p).length/\ds=[]/\iZ cs nx (aZ S p (S p++E))/\eL n1 ad (aZ S p (S p++E)) ob'/\ga ob ob'/\(∀j',j'<j->∀r ∈ S ((nx p).getD j' 0),r≠a8 op to->r ∈ S p++E)/\
   e=aE [(52,.fs 1 (nx p).length (λj _=> .n .i64 (((nx p).getD j 0:Nat):Int))),(53,.n .i64 (nx p).length),(54,.n .i64 j),(10,.n .i64 (S p).length),(11,.fs 1 (aA op a b).length (iC .i64 (aA op a b))),(12,.n .i64 (a8 op to)),(8,.n .i64 p),(9,.p 3 0),(0,.fs 5 cs.length (cC cs)),(4,.p 0 0),(5,.p 1 0),(7,.p 2 0)]/\
   H=ba ob' (OY n1 ad nx cs.length fl (op,to,a,b,arg))) (Wk.mkS [3,2,1,0] [] ?_ ?_ ?_) ⟨0,[],ob,rfl,by omega,rfl,by rw[List.append_nil,lU];exact hP.good,by rw[List.append_nil,lU];exact hob,.refl _,λj hj=>by omega,rfl,rfl⟩ ?_
 ·simp only[bk,bh,go_sem,simprocAttr]
  repeat' refine ab ?_ ?_
  all_goals first|exact bu|skip
 ·exact .cons rfl .ls (.cons rfl .ls (.cons rfl .ls (.cons rfl .ls .nil)))
 ·simp
 ·rintro mm ds e H ⟨j,E,ob',rfl,hj,rfl,hgd,hob',hfx,hin,rfl,rfl⟩
  repeat (first|((with_reducible refine GX.go bf rfl ?_ ?_);focus rfl)|simp only[go_sem,simprocAttr])
  refine⟨λh=>?_,λh=>?_⟩
  ·have hjl:j<(nx p).length:=by omega
   have hj0:(0:Int)<=(j:Int):=by omega
   have ha:=hadd j (by have:=hnl p;omega)
   obtain⟨k,hk⟩:∃k,(nx p).getD j 0=k:=⟨_,rfl⟩
   have hkm:k ∈ nx p:=by rw[<-hk,List.getD_eq_getElem?_getD,List.getElem?_eq_getElem hjl];exact List.getElem_mem hjl
   have hkn:k<n1:=by have:=hnx p hp k hkm;omega
   have hk0:(0:Int)<=(k:Int):=by omega
   have hk1:(k:Int)<(n1:Int):=by omega
   have hobk:=hob'.at_ k hkn
   repeat (first|((with_reducible refine GX.go bf rfl ?_ ?_);focus rfl)|simp only[hj0,h,hk,hk0,hk1,hadC,hobk,go_sem,simprocAttr])
   refine lG (λt ht=>?_)
   have ht:ob' t=none:=ht
   repeat (first|((with_reducible refine GX.go bf rfl ?_ ?_);focus rfl)|simp only[go_sem,simprocAttr])
   refine GX.loop (I:=λmm ds e H=>∃(d E':List Int) (ob2:Nat->Option OB) (seen:Int->Bool) (cur:Option (Int×AV)),mm=(aZ S p (S p++E) k).length-d.length/\ds=[]/\d.Nodup/\(∀r ∈ d,r ∈ aZ S p (S p++E) k)/\(∀q,seen q=true↔q ∈ d)/\ob2 t=some (.it ⟨ad k,λq=>((bO (aZ S p (S p++E) k)).get q).isSome,seen,cur⟩)/\
     iZ cs nx (aZ S p (S p++E'))/\eL n1 ad (aZ S p (S p++E')) ob2/\ga ob ob2/\(∀r ∈ S p++E,r ∈ S p++E')/\(∀r ∈ d,r≠a8 op to->r ∈ S p++E')/\(k=p->E'=E)/\
     e=aE [(62,.cv (.pointer (some ⟨t,0,none⟩))),(52,.fs 1 (nx p).length (λj _=> .n .i64 (((nx p).getD j 0:Nat):Int))),(53,.n .i64 (nx p).length),(54,.n .i64 j),(10,.n .i64 (S p).length),(11,.fs 1 (aA op a b).length (iC .i64 (aA op a b))),(12,.n .i64 (a8 op to)),(8,.n .i64 p),(9,.p 3 0),(0,.fs 5 cs.length (cC cs)),(4,.p 0 0),(5,.p 1 0),(7,.p 2 0)]/\
     H=ba ob2 (OY n1 ad nx cs.length fl (op,to,a,b,arg))) (Wk.mkS [3,2,1,0] [] ?_ ?_ ?_) ⟨[],E,bp ob' t (.it ⟨ad k,λq=>((bO (aZ S p (S p++E) k)).get q).isSome,λ_=>false,none⟩),λ_=>false,none,rfl,rfl,List.nodup_nil,λr hr=>(by cases hr),λq=>by simp,aJ _ _ _,hgd,hob'.iter ht _,hfx.new ht _,λr hr=>hr,λr hr=>(by cases hr),λ_=>rfl,rfl,rfl⟩ ?_
   ·simp only[bk,bh,go_sem,simprocAttr]
    repeat' refine ab ?_ ?_
    all_goals first|exact bu|skip
   ·exact .cons rfl .ls (.cons rfl .ls (.cons rfl .ls (.cons rfl .ls .nil)))
   ·simp
   rintro mm ds e H ⟨d,E',ob2,seen,cur,rfl,rfl,hdn,hdk,hsd,hot,hgd2,hob2,hfx2,hEE,hdE,hkp,rfl,rfl⟩
   have hob2k:=hob2.at_ k hkn
   have hLk:aZ S p (S p++E') k=aZ S p (S p++E) k:=by
    by_cases e:k=p
    ·rw[hkp e]
    ·rw[ae _ _ e,ae _ _ e]
   rw[hLk] at hob2k
   repeat (first|((with_reducible refine GX.go bf rfl ?_ ?_);focus rfl)|simp only[hot,hob2k,go_sem,simprocAttr])
   refine xv (λq v hq=>by show((bO (aZ S p (S p++E) k)).get q).isSome=true;rw[hq];rfl) (λq v hq hsq=>?_) (λhall=>?_)
   ·have hqk:q ∈ aZ S p (S p++E) k:=by
     rw[du] at hq
     split at hq
     ·assumption
     ·cases hq
    have hqd:q ∉ d:=λhm=>by
     have:=(hsd q).2 hm
     have hsq:seen q=false:=hsq
     rw[hsq] at this;cases this
    have hobt:=hob2.turn hot (.it (mP.at ⟨ad k,λq=>((bO (aZ S p (S p++E) k)).get q).isSome,seen,cur⟩ q v))
    have hobtp:=hobt.at_ p hpn
    have hfxt:=hfx2.turn hot (λo e=>by cases e) (.it (mP.at ⟨ad k,λq=>((bO (aZ S p (S p++E) k)).get q).isSome,seen,cur⟩ q v))
    have htp:¬t=ad p:=λe=>by have:=hob2.at_ p hpn;rw[<-e,hot] at this;cases this
    have hlen:d.length+1<=(aZ S p (S p++E) k).length:=by
     have:=fI (l:=d++[q]) (l':=aZ S p (S p++E) k) (List.nodup_append.2 ⟨hdn,by simp,λa ha b hb e=>by simp at hb;subst hb;subst e;exact hqd ha⟩) (λx hx=>by
      rcases List.mem_append.1 hx with hx|hx
      ·exact hdk x hx
      ·simp at hx;subst hx;exact hqk)
     simpa using this
    have hdn2:(d++[q]).Nodup:=List.nodup_append.2 ⟨hdn,by simp,λa ha b hb e=>by simp at hb;subst hb;subst e;exact hqd ha⟩
    have hdk2:∀r ∈ d++[q],r ∈ aZ S p (S p++E) k:=λr hr=>by
     rcases List.mem_append.1 hr with hr|hr
     ·exact hdk r hr
     ·simp at hr;subst hr;exact hqk
    have hsd2:∀q',(decide (q'=q)||seen q')=true↔q' ∈ d++[q]:=λq'=>by
     rw[Bool.or_eq_true,decide_eq_true_eq,hsd q',List.mem_append,List.mem_singleton,or_comm]
    repeat (first|((with_reducible refine GX.go bf rfl ?_ ?_);focus rfl)|simp only[Hy,go_sem,simprocAttr])
    refine⟨λhne=>?_,λheq=>?_⟩
    ·obtain⟨E2,hE2⟩:=mG (S p) E' q
     have hput:=hobt.put hpn q
     have hcp:=dR hobtp
     have hct:=ui (aJ ob2 t (.it (mP.at ⟨ad k,λq=>((bO (aZ S p (S p++E) k)).get q).isSome,seen,cur⟩ q v)))
     rw[aY] at hput hcp
     have hfx3:=hfxt.clr.turn hcp (λo e=>by cases e) (.mp ((bO (S p++E')).put q (.b true)))
     have hgd3:=hgd2.add (p:=p) (k:=q) (.flow hp hkm (hgd.live k q hqk) (by rw[hx];exact hne))
     rw[aY,kY,hE2] at hgd3
     rw[kY,hE2] at hput
     rw[aY] at hobtp
     repeat (first|((with_reducible refine GX.go bf rfl ?_ ?_);focus rfl)|simp only[hp0,hp1,hadC,hobtp,pR,go_sem,simprocAttr])
     refine⟨_,_,_,?_,Wk.mkS [3,2,1,0] [] ?_ ?_ ?_,d++[q],E2,_,_,_,rfl,hdn2,hdk2,hsd2,(by rw[aW _ _ htp];exact hct),hgd3,hput,hfx3,λr hr=>?_,λr hr hrw=>?_,λe=>?_,rfl,rfl⟩
     ·simp only[List.length_append,List.length_singleton];omega
     ·simp only[bk,bh,go_sem,simprocAttr]
      repeat' refine ab ?_ ?_
      all_goals first|exact bu|skip
     ·exact .cons rfl .ls (.cons rfl .ls (.cons rfl .ls (.cons rfl .ls .nil)))
     ·simp
     ·rw[<-hE2];exact dc.2 (.inl (hEE r hr))
     ·rw[<-hE2]
      rcases List.mem_append.1 hr with hr|hr
      ·exact dc.2 (.inl (hdE r hr hrw))
      ·simp at hr;exact dc.2 (.inr hr)
     ·have h1:=hkp e
      have:q ∈ S p++E':=by rw[h1];rw[e,aY] at hqk;exact hqk
      have h2:gW (S p++E') q=S p++E':=by unfold gW;rw[if_pos this]
      rw[h2] at hE2
      rw[<-h1]
      exact(List.append_cancel_left hE2).symm
    ·repeat (first|((with_reducible refine GX.go bf rfl ?_ ?_);focus rfl)|simp only[go_sem,simprocAttr])
     refine⟨_,_,_,?_,Wk.mkS [3,2,1,0] [] ?_ ?_ ?_,d++[q],E',_,_,_,rfl,hdn2,hdk2,hsd2,aJ _ _ _,hgd2,hobt,hfxt,hEE,λr hr hrw=>?_,hkp,rfl,rfl⟩
     ·simp only[List.length_append,List.length_singleton];omega
     ·simp only[bk,bh,go_sem,simprocAttr]
      repeat' refine ab ?_ ?_
      all_goals first|exact bu|skip
     ·exact .cons rfl .ls (.cons rfl .ls (.cons rfl .ls (.cons rfl .ls .nil)))
     ·simp
     ·rcases List.mem_append.1 hr with hr|hr
      ·exact hdE r hr hrw
      ·simp at hr;subst hr;exact absurd heq hrw
   ·repeat (first|((with_reducible refine GX.go bf rfl ?_ ?_);focus rfl)|simp only[ha,go_sem,simprocAttr])
    refine⟨_,_,_,?_,Wk.mkS [3,2,1,0] [] ?_ ?_ ?_,j+1,E',ob2,rfl,by omega,hgd2,hob2,hfx2,λj' hj' r hr hrw=>?_,rfl,rfl⟩
    ·omega
    ·simp only[bk,bh,go_sem,simprocAttr]
     repeat' refine ab ?_ ?_
     all_goals first|exact bu|skip
    ·exact .cons rfl .ls (.cons rfl .ls (.cons rfl .ls (.cons rfl .ls .nil)))
    ·simp
    ·by_cases e:j'=j
     ·subst e
      rw[hk] at hr
      have hr2:r ∈ aZ S p (S p++E) k:=by
       by_cases e2:k=p
       ·subst e2;rw[aY];exact List.mem_append.2 (.inl hr)
       ·rw[ae _ _ e2];exact hr
      refine hdE r ((hsd r).1 (hall r ?_)) hrw
      show((bO (aZ S p (S p++E) k)).get r).isSome=true
      rw[du,if_pos hr2];rfl
     ·exact hEE r (hin j' (by omega) r hr hrw)
  ·have hj:j=(nx p).length:=by omega
   subst hj
   have hin2:∀k ∈ nx p,∀r ∈ S k,r≠a8 op to->r ∈ S p++E:=λk hk r hr hrw=>by
    obtain⟨i,hi,e⟩:=List.getElem_of_mem hk
    refine hin i hi r ?_ hrw
    rw[List.getD_eq_getElem?_getD,List.getElem?_eq_getElem hi,Option.getD_some,e]
    exact hr
   have hiC:∀i,iC .i64 (aA op a b) i 0= .n .i64 ((aA op a b).getD i 0):=λ_=>rfl
   have hrl:(aA op a b).length<=2:=by unfold aA;split<;>split<;>simp
   repeat (first|((with_reducible refine GX.go bf rfl ?_ ?_);focus rfl)|simp only[go_sem,simprocAttr])
   refine GX.loop (I:=λmm ds e H=>∃(j:Nat) (E:List Int) (ob':Nat->Option OB),mm=(aA op a b).length-j/\j<=(aA op a b).length/\ds=[]/\iZ cs nx (aZ S p (S p++E))/\eL n1 ad (aZ S p (S p++E)) ob'/\ga ob ob'/\(∀k ∈ nx p,∀r ∈ S k,r≠a8 op to->r ∈ S p++E)/\(∀j',j'<j->(aA op a b).getD j' 0 ∈ S p++E)/\
     e=aE [(76,.fs 1 (aA op a b).length (iC .i64 (aA op a b))),(77,.n .i64 (aA op a b).length),(78,.n .i64 j),(10,.n .i64 (S p).length),(8,.n .i64 p),(9,.p 3 0),(0,.fs 5 cs.length (cC cs)),(4,.p 0 0),(5,.p 1 0),(7,.p 2 0)]/\
     H=ba ob' (OY n1 ad nx cs.length fl (op,to,a,b,arg))) (Wk.mkS [3,2,1,0] [] ?_ ?_ ?_) ⟨0,E,ob',rfl,by omega,rfl,hgd,hob',hfx,hin2,λj hj=>by omega,rfl,rfl⟩ ?_
   ·simp only[bk,bh,go_sem,simprocAttr]
    repeat' refine ab ?_ ?_
    all_goals first|exact bu|skip
   ·exact .cons rfl .ls (.cons rfl .ls (.cons rfl .ls (.cons rfl .ls .nil)))
   ·simp
   clear h hin hin2 hj hfx hob' hgd
   clear E ob'
   rintro mm ds e H ⟨j,E,ob',rfl,hj,rfl,hgd,hob',hfx,hin2,hrd,rfl,rfl⟩
   have hobp':=hob'.at_ p hpn
   repeat (first|((with_reducible refine GX.go bf rfl ?_ ?_);focus rfl)|simp only[go_sem,simprocAttr])
   refine⟨λh=>?_,λh=>?_⟩
   ·have hjl:j<(aA op a b).length:=by omega
    have hj0:(0:Int)<=(j:Int):=by omega
    have ha:=hadd j (by omega)
    obtain⟨q,hq⟩:∃q,(aA op a b).getD j 0=q:=⟨_,rfl⟩
    obtain⟨E2,hE2⟩:=mG (S p) E q
    have hput:=hob'.put hpn q
    have hqm:q ∈ aA op a b:=by rw[<-hq,List.getD_eq_getElem?_getD,List.getElem?_eq_getElem hjl];exact List.getElem_mem hjl
    have hgd3:=hgd.add (p:=p) (k:=q) (.read hp (by rw[hx];exact hqm))
    rw[aY] at hput hobp'
    rw[aY,kY,hE2] at hgd3
    rw[kY,hE2] at hput
    have hfx3:=hfx.clr.turn (dR hobp') (λo e=>by cases e) (.mp ((bO (S p++E)).put q (.b true)))
    repeat (first|((with_reducible refine GX.go bf rfl ?_ ?_);focus rfl)|simp only[hj0,h,hiC,hq,hp0,hp1,hadC,hobp',pR,ha,go_sem,simprocAttr])
    refine⟨_,_,_,?_,Wk.mkS [3,2,1,0] [] ?_ ?_ ?_,j+1,E2,_,rfl,by omega,hgd3,hput,hfx3,λk hk r hr hrw=>?_,λj' hj'=>?_,rfl,rfl⟩
    ·omega
    ·simp only[bk,bh,go_sem,simprocAttr]
     repeat' refine ab ?_ ?_
     all_goals first|exact bu|skip
    ·exact .cons rfl .ls (.cons rfl .ls (.cons rfl .ls (.cons rfl .ls .nil)))
    ·simp
    ·rw[<-hE2];exact dc.2 (.inl (hin2 k hk r hr hrw))
    ·rw[<-hE2]
     by_cases e:j'=j
     ·subst e;exact dc.2 (.inr hq)
     ·exact dc.2 (.inl (hrd j' (by omega)))
   ·have hj:j=(aA op a b).length:=by omega
    subst hj
    have hP2:=hP.next hp (e:=E) hgd (by
     rw[hx]
     intro r hr
     obtain⟨i,hi,e⟩:=List.getElem_of_mem hr
     have:=hrd i hi
     rw[List.getD_eq_getElem?_getD,List.getElem?_eq_getElem hi,Option.getD_some,e] at this
     exact this) (by rw[hx];exact hin2)
    rw[aY] at hobp'
    cases fl with
    |true=>
     repeat (first|((with_reducible refine GX.go bf rfl ?_ ?_);focus rfl)|simp only[hp0,hp1,hadC,hobp',gu,go_sem,simprocAttr])
     refine⟨_,_,Wk.mkS [2,1,0] [] ?_ ?_ ?_,_,_,ob',hP2,hob',hfx,rfl,rfl⟩
     ·simp only[bk,bh,go_sem,simprocAttr]
      repeat' refine ab ?_ ?_
      all_goals first|exact bu|skip
     ·exact .cons rfl .ls (.cons rfl .ls (.cons rfl .ls .nil))
     ·simp
    |false=>
     have hdec:decide ((((S p).length+E.length:Nat):Int)>((S p).length:Int))=(false||decide ((S p).length<(S p++E).length)):=by
      rw[List.length_append,Bool.false_or,Bool.eq_iff_iff]
      simp only[decide_eq_true_eq]
      omega
     repeat (first|((with_reducible refine GX.go bf rfl ?_ ?_);focus rfl)|simp only[hp0,hp1,hadC,hobp',gu,go_sem,simprocAttr])
     rw[hdec]
     refine⟨_,_,Wk.mkS [2,1,0] [] ?_ ?_ ?_,_,_,ob',hP2,hob',hfx,rfl,rfl⟩
     ·simp only[bk,bh,go_sem,simprocAttr]
      repeat' refine ab ?_ ?_
      all_goals first|exact bu|skip
     ·exact .cons rfl (.ls) (.cons rfl .ls (.cons rfl .ls .nil))
     ·simp
theorem O5(nx:Nat->List Nat)(i j:Nat):(gC nx i j).pu 3=true:=rfl
theorem Ba{cs:List In}{t:Nat}{v:AV}(h:(HU cs).get t=some v):RJ t=true:=by
 unfold HU at h
 rw[dC (by decide)] at h
 by_cases e0:t=0
 ·subst e0;rfl
 rw[if_neg e0,dC (by decide)] at h
 by_cases e1:t=4
 ·subst e1;rfl
 rw[if_neg e1,dC (by decide)] at h
 by_cases e2:t=5
 ·subst e2;rfl
 rw[if_neg e2,dC (by decide)] at h
 by_cases e3:t=7
 ·subst e3;rfl
 rw[if_neg e3,il] at h
 cases h
theorem jt(cs:List In)(nx:Nat->List Nat)(R:Nat)(hg:bR Try.prog 66 [.fs 5 cs.length (cC cs)] [.v (.fs 1 cs.length (gC nx))])(hn:cs.length<=16384)
  (hops:∀x ∈ cs,0<=x.1/\x.1<39) (hnx:∀i,i<cs.length->∀k ∈ nx i,k<=cs.length) (hnl:∀i,(nx i).length<=2) (hR:∀x ∈ cs,∀r ∈ aA x.1 x.2.2.1 x.2.2.2.1,0<=r/\r<(R:Int)) (hw1:∀i k,i<cs.length->k ∈ nx i->k=i->a8 (cs.getD i (0,0,0,0,0)).1 (cs.getD i (0,0,0,0,0)).2.1= -1):
  iw Try.prog 36 [.fs 5 cs.length (cC cs)] (λ_=>True) (λM rs N=>∃(S:Nat->List Int) (ad:Nat->Nat),(∀i,i<=cs.length->(S i).Nodup/\∀r,r ∈ S i↔bn cs nx i r)/\eL (cs.length+1) ad S N/\rs=[.v (.fs 1 (cs.length+1) (zO ad)),.v (.fs 1 cs.length (gC nx))]):=by
 have hl1:cs.length+1<1099511627776:=by omega
 have hl2:((cs.length+1:Nat):Int)<=16777216:=by omega
 have hl3:(0:Int)<=((cs.length+1:Nat):Int):=by omega
 have hl4:8*(cs.length+1)<=140737488355328:=by omega
 have hw:IntKind.wrap .i64 ((cs.length:Int)+1)=((cs.length+1:Nat):Int):=by rw[aU (by omega)];omega
 have hadd:∀j:Nat,j<100000->IntKind.wrap .i64 ((j:Int)+1)=((j+1:Nat):Int):=λj hj=>by rw[aU (by omega)];omega
 refine Bo Ms ⟨by simp,by decide⟩ λM hM=>?_
 simp only[bI]
 repeat (first|((with_reducible refine GX.go bf rfl ?_ ?_);focus rfl)|simp only[go_sem,simprocAttr])
 refine sC hg ?_
 repeat (first|((with_reducible refine GX.go bf rfl ?_ ?_);focus rfl)|simp only[hw,hl1,hl2,hl3,hl4,Int.le_refl,decide_true,go_sem,simprocAttr])
 generalize hN1:cs.length+1=n1 at*
 refine GX.loop (I:=λmm ds e H=>∃(k:Nat) (ad:Nat->Nat) (ob:Nat->Option OB),mm=n1-k/\k<=n1/\ds=[]/\eL k ad (λ_=>[]) ob/\e=aE [(0,.fs 5 cs.length (cC cs)),(4,.p 0 0),(5,.p 2 0),(25,.n .i64 n1),(26,.n .i64 k)]/\
   H=ba ob [bg 0 66 [.os 1 n1],aH 70 1 n1 0 (λi _=>if i<k then .cv (.map (some (ad i))) else .cv (.map none)),bg 0 28 [.fs 1 cs.length (gC nx)]]) (Wk.mkS [2,1,0] [] ?_ ?_ ?_) ⟨0,λ_=>0,eN M,rfl,by omega,rfl,⟨λi hi=>by omega,λi j hi=>by omega⟩,rfl,rfl⟩ ?_
 ·simp only[bk,bh,go_sem,simprocAttr]
  repeat' refine ab ?_ ?_
  all_goals first|exact bu|skip
 ·refine .cons rfl (.lstw (x:=_) (by simp only[go_sem,simprocAttr]<;>rfl) (by rfl) (by rfl) (by rfl) (by rfl) (by rfl) (by rfl) (by simp) (λi hi=>by obtain rfl:i=0:=(by simp at hi;omega);simp only[go_sem,simprocAttr];exact Wv.os rfl)) (.cons rfl (.same (by simp only[go_sem,simprocAttr]<;>rfl) rfl (by decide) (λi j hi hj=>?_) (λi j hi hj=>rfl)) (.cons rfl .ls .nil))
  obtain rfl:j=0:=by omega
  rfl
 ·simp
 rintro mm ds e H ⟨k,ad,ob,rfl,hk,rfl,hob,rfl,rfl⟩
 repeat (first|((with_reducible refine GX.go bf rfl ?_ ?_);focus rfl)|simp only[go_sem,simprocAttr])
 refine⟨λh=>?_,λh=>?_⟩
 ·have hk1:k<n1:=by omega
  have hk0:(0:Int)<=(k:Int):=by omega
  have hk2:k+1<=n1:=hk1
  have ha:=hadd k (by omega)
  repeat (first|((with_reducible refine GX.go bf rfl ?_ ?_);focus rfl)|simp only[hk0,h,hk1,hk2,ha,decide_true,go_sem,simprocAttr])
  refine fR (λr hr=>?_)
  have hob1:eL (k+1) (λi=>if i=k then r else ad i) (λ_=>[]) (bp ob r (.mp (bO []))):=by
   have hr:ob r=none:=hr
   refine⟨λi hi=>?_,λi j hi hj e=>?_⟩
   ·by_cases e:i=k
    ·subst e;simp only[if_true];exact aJ _ _ _
    ·simp only[e,if_false]
     rw[aW _ _ (iE (hob.at_ i (by omega)) hr)]
     exact hob.at_ i (by omega)
   ·by_cases e1:i=k
    ·by_cases e2:j=k
     ·omega
     ·simp only[e1,e2,if_true,if_false] at e
      have:=hob.at_ j (by omega)
      rw[<-e,hr] at this;cases this
    ·by_cases e2:j=k
     ·simp only[e1,e2,if_true,if_false] at e
      have:=hob.at_ i (by omega)
      rw[e,hr] at this;cases this
     ·simp only[e1,e2,if_false] at e
      exact hob.inj i j (by omega) (by omega) e
  repeat (first|((with_reducible refine GX.go bf rfl ?_ ?_);focus rfl)|simp only[hk0,h,hk1,hk2,ha,decide_true,go_sem,simprocAttr])
  refine⟨_,_,_,?_,Wk.mkS [2,1,0] [] ?_ ?_ ?_,k+1,λi=>if i=k then r else ad i,_,rfl,by omega,(by rw[<-fi] at hob1;exact hob1),rfl,rfl⟩
  ·omega
  ·simp only[bk,bh,go_sem,simprocAttr]
   repeat' refine ab ?_ ?_
   all_goals first|exact bu|skip
  ·refine .cons rfl (.lstw (x:=_) (by simp only[go_sem,simprocAttr]<;>rfl) (by rfl) (by rfl) (by rfl) (by rfl) (by rfl) (by rfl) (by simp) (λi hi=>by obtain rfl:i=0:=(by simp at hi;omega);simp only[go_sem,simprocAttr];exact Wv.os rfl)) (.cons rfl (.put (q:=k) (by simp only[go_sem,simprocAttr];rfl) (by simp) rfl hk1 rfl (by decide) (by omega) (λi j hi hj=>?_) (λi j hi hj=>?_)) (.cons rfl .ls .nil))
   ·obtain rfl:j=0:=by omega
    by_cases e:i=k
    ·subst e;simp
    ·by_cases e2:i<k
     ·simp[e,e2,show i<k+1 by omega]
     ·simp[e,e2,show ¬i<k+1 by omega]
   ·dsimp only
    split<;>rfl
  ·simp
 ·obtain rfl:k=n1:=by omega
  refine GX.wk (Wk.mkS (L:=[(0,.fs 5 cs.length (cC cs)),(4,.p 0 0),(5,.p 1 0)]) (bl:=[bg 0 66 [.fs 1 k (zO ad)],bg 0 28 [.fs 1 cs.length (gC nx)]]) [2,0] [1] ?_ ?_ ?_) ?_
  ·simp only[bk,bh,go_sem,simprocAttr]
   repeat' refine ab ?_ ?_
   all_goals first|exact bu|skip
  ·refine .cons rfl (.lstw (x:=_) (by simp only[go_sem,simprocAttr]<;>rfl) (by rfl) (by rfl) (by rfl) (by rfl) (by rfl) (by rfl) (by simp) (λi hi=>by obtain rfl:i=0:=(by simp at hi;omega);simp only[go_sem,simprocAttr];exact Wv.cv (.os (x:=aH 70 1 k 0 (λi _=>if i<k then .cv (.map (some (ad i))) else .cv (.map none))) (by simp) (by simp only[go_sem,simprocAttr]) (Nat.le_refl _) (λi j hi hj=>(aL i j hj).trans (by simp only[hi,if_true];rfl)) (λi j hi hj=>rfl)))) (.cons rfl .ls .nil)
  ·simp
  repeat (first|((with_reducible refine GX.go bf rfl ?_ ?_);focus rfl)|simp only[go_sem,simprocAttr])
  have hN1':cs.length+1=k:=hN1
  clear hl1 hl3 hl4 hw h hk hM
  refine GX.loop (I:=λmm ds e H=>∃(S:Nat->List Int) (fl:Bool) (ob:Nat->Option OB),mm=2*((cs.length+1)*R-size S (cs.length+1))+(if fl then 1 else 0)/\iZ cs nx S/\eL k ad S ob/\(fl=false->∀i,i<cs.length->pB cs nx S i)/\ds.Nodup/\(∀D ∈ ds,ob D=some (.fix (.deferred (some []))))/\e=HU cs/\H=Pp k ad nx cs.length fl ob)
   (Wk.mkS [2,1,0] [] ?_ ?_ ?_) ⟨λ_=>[],true,ob,rfl,iZ.nil cs nx,hob,λh=>(by cases h),List.nodup_nil,λD hD=>(by cases hD),rfl,rfl⟩ ?_
  ·simp only[bk,bh,go_sem,simprocAttr]
   repeat' refine ab ?_ ?_
   all_goals first|exact bu|skip
  ·exact .cons rfl (.ls) (.cons rfl .ls (.cons rfl .ls .nil))
  ·simp
  rintro mm ds e H ⟨S,fl,ob1,rfl,hgood,hob1,hcl,hnd,hfx,rfl,rfl⟩
  repeat (first|((with_reducible refine GX.go bf rfl ?_ ?_);focus rfl)|simp only[go_sem,simprocAttr])
  refine⟨λh=>?_,λh=>?_⟩
  ·subst h
   repeat (first|((with_reducible refine GX.go bf rfl ?_ ?_);focus rfl)|simp only[go_sem,simprocAttr])
   refine sC (pj cs.length (cC cs)) ?_
   repeat (first|((with_reducible refine GX.go bf rfl ?_ ?_);focus rfl)|simp only[go_sem,simprocAttr])
   refine GX.rf (Kb:=RJ) (N:=cs.length) (gB:=87) (cap:=[.fp 1 (λ_=> .fs 5 cs.length (cC cs)) 0]) (by simp only[go_sem,simprocAttr]) (by rfl) (nh cs.length (cC cs) (by omega)) ⟨by decide,by decide,by decide⟩
    (λi e H=>∃(S':Nat->List Int) (fl':Bool) (ob':Nat->Option OB),rr cs nx S S' fl' (cs.length-i)/\eL k ad S' ob'/\(∀D ∈ ds,ob' D=some (.fix (.deferred (some []))))/\e=HU cs/\H=Pp k ad nx cs.length fl' ob')
    (e0:=HU cs) (H0:=Pp k ad nx cs.length false ob1) (Wk.mkS [2,1,0] [] ?_ ?_ ?_) ⟨S,false,ob1,.start hgood,hob1,hfx,rfl,rfl⟩ ?_ ?_ ?_ ?_
   ·simp only[bk,bh,go_sem,simprocAttr]
    repeat' refine ab ?_ ?_
    all_goals first|exact bu|skip
   ·exact .cons rfl (.ls) (.cons rfl .ls (.cons rfl .ls .nil))
   ·simp
   ·rintro i e H ob' ⟨S',fl',ob2,hP,hO,hF,rfl,rfl⟩ hob'
    refine⟨S',fl',ob',hP,⟨λj hj=>?_,hO.inj⟩,λD hD=>?_,rfl,rfl⟩
    ·rw[hob' (ad j) (by show(ob1 (ad j)).isSome=true;rw[hob1.at_ j hj];rfl)];exact hO.at_ j hj
    ·rw[hob' D (by show(ob1 D).isSome=true;rw[hfx D hD];rfl)];exact hF D hD
   ·rintro i e H ⟨S',fl',ob2,hP,hO,hF,rfl,rfl⟩ t v h
    exact Ba h
   ·rintro i e H l hi ⟨S',fl',ob2,hP,hO,hF,rfl,rfl⟩
    obtain⟨p,hp⟩:∃p,cs.length-1-i=p:=⟨_,rfl⟩
    have hpn:p<cs.length:=by omega
    have hP1:cs.length-i=p+1:=by omega
    rw[hP1] at hP
    have hxm:cs.getD p (0,0,0,0,0) ∈ cs:=by rw[List.getD_eq_getElem?_getD,List.getElem?_eq_getElem hpn];exact List.getElem_mem hpn
    have hP2:cs.length-(i+1)=p:=by omega
    have hcc0:=ww cs p
    have hcc1:=CB cs p
    have hcc2:=CA cs p
    have hcc3:=Cz cs p
    have hcc4:=Cy cs p
    simp only[hp,hcc0,hcc1,hcc2,hcc3,hcc4]
    repeat (first|((with_reducible refine GX.go bf rfl ?_ ?_);focus rfl)|simp only[go_sem,simprocAttr])
    refine⟨λr o hr=>hr,λob' hob'=>?_⟩
    have hO':eL k ad S' ob':=⟨λj hj=>by rw[hob' (ad j) (by show(ob1 (ad j)).isSome=true;rw[hob1.at_ j hj];rfl)];exact hO.at_ j hj,hO.inj⟩
    have hF':∀D ∈ ds,ob' D=some (.fix (.deferred (some []))):=λD hD=>by
     rw[hob' D (by show(ob1 D).isSome=true;rw[hfx D hD];rfl)];exact hF D hD
    refine GX.wk (Wk.mkS (L:=[(8,.n .i64 p),(9,.p 3 0),(0,.fs 5 cs.length (cC cs)),(4,.p 0 0),(5,.p 1 0),(7,.p 2 0)]) (bl:=OY k ad nx cs.length fl' (cs.getD p (0,0,0,0,0))) [3,2,1,0] [] ?_ ?_ ?_) ((A8 cs nx k hN1' hn hnx hnl hw1 l p hpn (hops _ hxm) ad S S' fl' ob' hP hO').mono ?_)
    ·simp only[bk,bh,go_sem,simprocAttr]
     repeat' refine ab ?_ ?_
     all_goals first|exact bu|skip
    ·exact .cons rfl (.lsti (x:=_) (by simp only[go_sem,simprocAttr]<;>rfl) (by rfl) (by rfl) (by rfl) (by rfl) (by rfl) (by rfl) (by simp) (λi hi=>by rcases iL hi with rfl|rfl|rfl|rfl|rfl<;>(simp only[go_sem,simprocAttr];first|done|rfl)) (by rfl)) (.cons rfl .ls (.cons rfl .ls (.cons rfl .ls .nil)))
    ·simp
    ·rintro ds' x e' H' ⟨rfl,rfl,e2,H2,hwk,S2,fl2,ob3,hP3,hO3,hfo,rfl,rfl⟩
     exact⟨rfl,rfl,_,_,hwk,⟨S2,fl2,ob3,by rw[hP2];exact hP3,hO3,λD hD=>hfo _ _ (hF' D hD),rfl,rfl⟩,hfo⟩
   ·rintro D e H ⟨S',fl',ob2,hP,hO,hF,rfl,rfl⟩ hno hD
    rw[Nat.sub_self] at hP
    repeat (first|((with_reducible refine GX.go bf rfl ?_ ?_);focus rfl)|simp only[go_sem,simprocAttr])
    have hno':ob1 D=none:=hno
    have hD':ob2 D=some (.fix (.deferred (some []))):=hD
    refine⟨_,_,_,?_,Wk.mkS [3,1,0] [] ?_ ?_ ?_,S',fl',ob2,rfl,hP.good,hO,λhf=>?_,List.nodup_cons.2 ⟨λhm=>(by have:=hfx D hm;rw[hno'] at this;cases this),hnd⟩,λD' hD2=>?_,rfl,rfl⟩
    ·have h1:=hP.good.size_le hR (cs.length+1)
     cases fl' with
     |true=>have:=hP.yes rfl;simp only[if_true];omega
     |false=>
      obtain⟨rfl,_⟩:=hP.no rfl
      simp
    ·simp only[bk,bh,go_sem,simprocAttr]
     repeat' refine ab ?_ ?_
     all_goals first|exact bu|skip
    ·exact .cons rfl (.ls) (.cons rfl .ls (.cons rfl .ls .nil))
    ·simp
    ·obtain⟨rfl,hc⟩:=hP.no hf
     exact λi hi=>hc i (Nat.zero_le _) hi
    ·rcases List.mem_cons.1 hD2 with rfl|hD2
     ·exact hD'
     ·exact hF D' hD2
  ·subst h
   repeat (first|((with_reducible refine GX.go bf rfl ?_ ?_);focus rfl)|simp only[go_sem,simprocAttr])
   refine⟨hnd,hfx,?_⟩
   simp only[go_sem,simprocAttr]
   have hcl:=hcl rfl
   let N:Nat->Option OB:=λr=>if(∃i,i<k/\ad i=r) then ob1 r else none
   refine⟨_,N,[_,_],⟨S,ad,λi hi=>⟨hgood.nd i,λr=>⟨hgood.live i r,λhr=>lW hcl hr⟩⟩,⟨λi hi=>?_,hob1.inj⟩,rfl⟩,rfl,⟨⟨rfl,rfl⟩,⟨rfl,rfl⟩,True.intro⟩,λr x hr=>?_⟩
   ·show(if _ then _ else _)=_
    rw[if_pos ⟨i,hi,rfl⟩];exact hob1.at_ i hi
   ·have hr:(if(∃i,i<k/\ad i=r) then ob1 r else none)=some x:=hr
    split at hr
    ·rename_i hi
     obtain⟨i,hi,rfl⟩:=hi
     have h2:=hob1.at_ i hi
     rw[h2] at hr
     cases hr
     refine⟨?_,rfl⟩
     show(if ad i ∈ ds then none else ob1 (ad i))=_
     rw[if_neg (λhm=>by have:=hfx _ hm;rw[h2] at this;cases this),h2]
    ·cases hr
structure BS where
 opn:List Nat
 mid:List Nat
 lv:Nat->List Nat
 pm:Int->Option Int
def bj(cd:List RI)(opn:List Nat):Nat->Nat
 |0=>0
 |j+1=>if aq cd (opn.getD j 0)=29 then j else bj cd opn j
theorem jv(cd:List RI){a b:List Nat}:∀(j:Nat),(∀i,i<j->a.getD i 0=b.getD i 0)->bj cd a j=bj cd b j
 |0,_=>rfl
 |j+1,h=>by unfold bj;rw[h j (by omega),jv cd j (λi hi=>h i (by omega))]
def bX(pm:Int->Option Int)(k v:Int):Int->Option Int:=λq=>if q=k then some v else pm q
def dt(v:Int):List Nat->(Int->Option Int)->Int->Option Int
 |[],pm=>pm
 |l::ls,pm=>dt v ls (bX pm l v)
theorem lC(v:Int):∀(ls:List Nat) (pm:Int->Option Int) (q:Int),dt v ls pm q=if(∃l ∈ ls,(l:Int)=q) then some v else pm q
 |[],pm,q=>by simp[dt]
 |l::ls,pm,q=>by
  rw[dt,lC v ls]
  by_cases h:∃l ∈ ls,(l:Int)=q
  ·rw[if_pos h,if_pos (by obtain⟨a,b,c⟩:=h;exact⟨a,List.mem_cons_of_mem _ b,c⟩)]
  ·rw[if_neg h]
   unfold bX
   by_cases e:q=l
   ·rw[if_pos e,if_pos ⟨l,List.mem_cons_self ..,e.symm⟩]
   ·rw[if_neg e,if_neg]
    rintro ⟨a,b,c⟩
    rcases List.mem_cons.1 b with rfl|b
    ·exact e c.symm
    ·exact h ⟨a,b,c⟩
theorem lB(v:Int)(l:Nat):∀(ls:List Nat) (pm:Int->Option Int),dt v (ls++[l]) pm=bX (dt v ls pm) l v
 |[],pm=>rfl
 |x::ls,pm=>by simp only[List.cons_append,dt,lB v l ls]
def eH(cd:List RI)(k:Nat)(s:BS):BS:=
 if aq cd k=27\/aq cd k=29 then⟨s.opn++[k],s.mid++[k],aZ s.lv s.opn.length [],s.pm⟩
 else if aq cd k=28 then⟨s.opn,s.mid.set (s.opn.length-1) k,s.lv,bX s.pm (s.opn.getD (s.opn.length-1) 0) k⟩
 else if aq cd k=30 then⟨s.opn,s.mid,aZ s.lv (bj cd s.opn s.opn.length) (s.lv (bj cd s.opn s.opn.length)++[k]),s.pm⟩
 else if aq cd k=31 then⟨s.opn.take (s.opn.length-1),s.mid.take (s.opn.length-1),s.lv,dt k (s.lv (s.opn.length-1)) (bX (bX s.pm (s.mid.getD (s.opn.length-1) 0) k) k (s.opn.getD (s.opn.length-1) 0))⟩
 else s
def cI(cd:List RI):Nat->Nat->BS->BS
 |0,_,s=>s
 |n+1,k,s=>cI cd n (k+1) (eH cd k s)
theorem gP(cd:List RI):∀(a b k:Nat) (s:BS),cI cd (a+b) k s=cI cd b (k+a) (cI cd a k s)
 |0,b,k,s=>by simp[cI]
 |a+1,b,k,s=>by rw[show a+1+b=(a+b)+1 by omega,cI,gP cd a b,cI,show k+1+a=k+(a+1) by omega]
def dN(op:Int):Prop:=op=27\/op=28\/op=29\/op=30\/op=31
instance (op:Int):Decidable (dN op):=by unfold dN;exact inferInstance
structure BT(cd:List RI)(w:Bool)(t:T)(k:Nat)(s s':BS):Prop where
 opn:s'.opn=s.opn
 mid:s'.mid=s.mid
 lv:∀j,j<s.opn.length->s'.lv j=s.lv j++(if w=true/\j=bj cd s.opn s.opn.length then t.leaves k else[])
 pin:∀q:Nat,k<=q->q<k+t.size->dN (aq cd q)->q ∉ t.leaves k->∀e,s'.pm q=some ((t.rq k e).getD (q-k) 0)
 pout:∀q:Int,¬(∃q':Nat,q=q'/\k<=q'/\q'<k+t.size/\dN (aq cd q')/\q' ∉ t.leaves k)->s'.pm q=s.pm q
theorem aj:∀(t:T) (k q:Nat),q ∈ t.leaves k->k<=q/\q<k+t.size
 |.nil,k,q,h=>by cases h
 |.plain i r,k,q,h=>by
  simp only[T.leaves] at h
  simp only[T.size]
  split at h
  ·rcases List.mem_cons.1 h with rfl|h
   ·omega
   ·have:=aj r _ _ h;omega
  ·have:=aj r _ _ h;omega
 |.ite i a j r,k,q,h=>by
  simp only[T.leaves,List.mem_append] at h
  simp only[T.size]
  rcases h with h|h
  ·have:=aj a _ _ h;omega
  ·have:=aj r _ _ h;omega
 |.ite2 i a e b j r,k,q,h=>by
  simp only[T.leaves,List.mem_append] at h
  simp only[T.size]
  rcases h with(h|h)|h
  ·have:=aj a _ _ h;omega
  ·have:=aj b _ _ h;omega
  ·have:=aj r _ _ h;omega
 |.loop i a j r,k,q,h=>by
  simp only[T.leaves] at h
  simp only[T.size]
  have:=aj r _ _ h;omega
theorem bm{α:Type}(x:α)(l:List α)(k q:Nat)(d:α)(h:k<q):(x::l).getD (q-k) d=l.getD (q-(k+1)) d:=by
 rw[show q-k=(q-(k+1))+1 by omega,List.getD_cons_succ]
theorem k9{α:Type}(x:α)(l:List α)(k:Nat)(d:α):(x::l).getD (k-k) d=x:=by simp
theorem fU{α:Type}(a b:List α)(k q:Nat)(d:α)(h:k<=q)(h2:q<k+a.length):(a++b).getD (q-k) d=a.getD (q-k) d:=by
 simp only[List.getD_eq_getElem?_getD]
 rw[List.getElem?_append_left (by omega)]
theorem bV{α:Type}(a b:List α)(k q:Nat)(d:α)(h2:k+a.length<=q):(a++b).getD (q-k) d=b.getD (q-(k+a.length)) d:=by
 simp only[List.getD_eq_getElem?_getD]
 rw[List.getElem?_append_right (by omega),show q-k-a.length=q-(k+a.length) by omega]
theorem ei:∀(t:T) (k:Nat) (e:Int) (q:Nat),q ∈ t.leaves k->(t.rq k e).getD (q-k) 0=e
 |.nil,k,e,q,h=>by cases h
 |.plain i r,k,e,q,h=>by
  have hr:=aj _ _ _ h
  simp only[T.leaves] at h
  simp only[T.rq]
  split at h
  ·rename_i hi
   rcases List.mem_cons.1 h with rfl|h
   ·rw[k9,if_pos hi]
   ·have:=aj r _ _ h
    rw[bm _ _ _ _ _ (by omega)];exact ei r _ _ _ h
  ·have:=aj r _ _ h
   rw[bm _ _ _ _ _ (by omega)];exact ei r _ _ _ h
 |.ite i a j r,k,e,q,h=>by
  simp only[T.leaves,List.mem_append] at h
  simp only[T.rq]
  rcases h with h|h
  ·have:=aj a _ _ h
   rw[bm _ _ _ _ _ (by omega),fU _ _ _ _ _ (by omega) (by rw[T.rq_length];omega)];exact ei a _ _ _ h
  ·have:=aj r _ _ h
   rw[bm _ _ _ _ _ (by omega),bV _ _ _ _ _ (by rw[T.rq_length];omega),T.rq_length,bm _ _ _ _ _ (by omega),show k+1+a.size+1=k+a.size+2 by omega];exact ei r _ _ _ h
 |.ite2 i a x b j r,k,e,q,h=>by
  simp only[T.leaves,List.mem_append] at h
  simp only[T.rq]
  rcases h with(h|h)|h
  ·have:=aj a _ _ h
   rw[bm _ _ _ _ _ (by omega),fU _ _ _ _ _ (by omega) (by rw[T.rq_length];omega)];exact ei a _ _ _ h
  ·have:=aj b _ _ h
   rw[bm _ _ _ _ _ (by omega),bV _ _ _ _ _ (by rw[T.rq_length];omega),T.rq_length,bm _ _ _ _ _ (by omega),show k+1+a.size+1=k+a.size+2 by omega,fU _ _ _ _ _ (by omega) (by rw[T.rq_length];omega)];exact ei b _ _ _ h
  ·have:=aj r _ _ h
   rw[bm _ _ _ _ _ (by omega),bV _ _ _ _ _ (by rw[T.rq_length];omega),T.rq_length,bm _ _ _ _ _ (by omega),show k+1+a.size+1=k+a.size+2 by omega,bV _ _ _ _ _ (by rw[T.rq_length];omega),T.rq_length,bm _ _ _ _ _ (by omega),show k+a.size+2+b.size+1=k+a.size+b.size+3 by omega];exact ei r _ _ _ h
 |.loop i a j r,k,e,q,h=>by
  simp only[T.leaves] at h
  simp only[T.rq]
  have:=aj r _ _ h
  rw[bm _ _ _ _ _ (by omega),bV _ _ _ _ _ (by rw[T.rq_length];omega),T.rq_length,bm _ _ _ _ _ (by omega),show k+1+a.size+1=k+a.size+2 by omega];exact ei r _ _ _ h
structure WK(cd:List RI)(w:Bool)(s:BS):Prop where
 len:s.mid.length=s.opn.length
 lp:w=true->bj cd s.opn s.opn.length<s.opn.length
theorem jE{cd:List RI}{k:Nat}{s:BS}(h:aq cd k=27\/aq cd k=29):eH cd k s=⟨s.opn++[k],s.mid++[k],aZ s.lv s.opn.length [],s.pm⟩:=if_pos h
theorem pg{cd:List RI}{k:Nat}{s:BS}(h:aq cd k=28):eH cd k s=⟨s.opn,s.mid.set (s.opn.length-1) k,s.lv,bX s.pm (s.opn.getD (s.opn.length-1) 0) k⟩:=by
 unfold eH;rw[if_neg (by omega),if_pos h]
theorem mB{cd:List RI}{k:Nat}{s:BS}(h:aq cd k=30):eH cd k s=⟨s.opn,s.mid,aZ s.lv (bj cd s.opn s.opn.length) (s.lv (bj cd s.opn s.opn.length)++[k]),s.pm⟩:=by
 unfold eH;rw[if_neg (by omega),if_neg (by omega),if_pos h]
theorem sW{cd:List RI}{k:Nat}{s:BS}(h:aq cd k=31):eH cd k s=⟨s.opn.take (s.opn.length-1),s.mid.take (s.opn.length-1),s.lv,dt k (s.lv (s.opn.length-1)) (bX (bX s.pm (s.mid.getD (s.opn.length-1) 0) k) k (s.opn.getD (s.opn.length-1) 0))⟩:=by
 unfold eH;rw[if_neg (by omega),if_neg (by omega),if_neg (by omega),if_pos h]
theorem mA{cd:List RI}{k:Nat}{s:BS}(h:¬dN (aq cd k)):eH cd k s=s:=by
 unfold dN at h
 unfold eH;rw[if_neg (by omega),if_neg (by omega),if_neg (by omega),if_neg (by omega)]
theorem mC{cd:List RI}{e b m:Nat}{s s2:BS}(h:aq cd e=31)(ho:s2.opn=s.opn++[b])(hm:s2.mid=s.mid++[m])(hl:s.mid.length=s.opn.length):
  eH cd e s2=⟨s.opn,s.mid,s2.lv,dt e (s2.lv s.opn.length) (bX (bX s2.pm m e) e b)⟩:=by
 rw[sW h,ho,hm]
 have h1:(s.opn++[b]).length-1=s.opn.length:=by simp
 rw[h1]
 have h2:(s.opn++[b]).take s.opn.length=s.opn:=by simp
 have h3:(s.mid++[m]).take s.opn.length=s.mid:=by rw[<-hl];simp
 have h4:(s.mid++[m]).getD s.opn.length 0=m:=by rw[<-hl];simp[List.getD_eq_getElem?_getD]
 have h5:(s.opn++[b]).getD s.opn.length 0=b:=by simp[List.getD_eq_getElem?_getD]
 rw[h2,h3,h4,h5]
theorem so(cd:List RI)(opn:List Nat)(b:Nat):bj cd (opn++[b]) (opn.length)=bj cd opn opn.length:=jv cd _ λi hi=>by
 simp only[List.getD_eq_getElem?_getD]
 rw[List.getElem?_append_left hi]
theorem gI(cd:List RI)(opn:List Nat)(b:Nat):bj cd (opn++[b]) (opn++[b]).length=if aq cd b=29 then opn.length else bj cd opn opn.length:=by
 rw[List.length_append,List.length_singleton,bj]
 have:(opn++[b]).getD opn.length 0=b:=by simp[List.getD_eq_getElem?_getD]
 rw[this,so]
theorem ct{pm:Int->Option Int}{k v q:Int}(h:q≠k):bX pm k v q=pm q:=if_neg h
theorem fK{pm:Int->Option Int}{k v:Int}:bX pm k v k=some v:=if_pos rfl
theorem nu{v:Int}{pm:Int->Option Int}:dt v [] pm=pm:=rfl
theorem cW(cd:List RI):∀(t:T) (k q:Nat),gb cd k t.flat->q ∈ t.leaves k->aq cd q=30
 |.nil,k,q,hc,h=>by cases h
 |.plain i r,k,q,hc,h=>by
  simp only[T.flat] at hc
  simp only[T.leaves] at h
  split at h
  ·rename_i hi
   rcases List.mem_cons.1 h with rfl|h
   ·unfold aq;rw[hc.head];exact hi
   ·exact cW cd r _ _ hc.tail h
  ·exact cW cd r _ _ hc.tail h
 |.ite i a j r,k,q,hc,h=>by
  simp only[T.flat] at hc
  simp only[T.leaves,List.mem_append] at h
  have h2:=hc.tail.right
  rw[T.flat_length] at h2
  rcases h with h|h
  ·exact cW cd a _ _ hc.tail.left h
  ·exact cW cd r (k+a.size+2) _ (by have:=h2.tail;rwa [show k+1+a.size+1=k+a.size+2 by omega] at this) h
 |.ite2 i a x b j r,k,q,hc,h=>by
  simp only[T.flat] at hc
  simp only[T.leaves,List.mem_append] at h
  have h2:=hc.tail.right
  rw[T.flat_length] at h2
  have h3:=h2.tail.right
  rw[T.flat_length] at h3
  rcases h with(h|h)|h
  ·exact cW cd a _ _ hc.tail.left h
  ·exact cW cd b (k+a.size+2) _ (by have:=h2.tail.left;rwa [show k+1+a.size+1=k+a.size+2 by omega] at this) h
  ·exact cW cd r (k+a.size+b.size+3) _ (by have:=h3.tail;rwa [show k+1+a.size+1+b.size+1=k+a.size+b.size+3 by omega] at this) h
 |.loop i a j r,k,q,hc,h=>by
  simp only[T.flat] at hc
  simp only[T.leaves] at h
  have h2:=hc.tail.right
  rw[T.flat_length] at h2
  exact cW cd r (k+a.size+2) _ (by have:=h2.tail;rwa [show k+1+a.size+1=k+a.size+2 by omega] at this) h
theorem di:∀(t:T) (d k:Nat),t.wf false d->∀q,q ∉ t.leaves k
 |.nil,d,k,hw,q=>by simp[T.leaves]
 |.plain i r,d,k,hw,q=>by
  obtain⟨hop,h30,hwr⟩:=hw
  have:i.op≠30:=λe=>by cases h30 e
  simp only[T.leaves,if_neg this]
  exact di r d _ hwr q
 |.ite i a j r,d,k,hw,q=>by
  obtain⟨hi,hj,hd,hwa,hwr⟩:=hw
  simp only[T.leaves,List.mem_append,not_or]
  exact⟨di a _ _ hwa q,di r _ _ hwr q⟩
 |.ite2 i a x b j r,d,k,hw,q=>by
  obtain⟨hi,hx,hj,hd,hwa,hwb,hwr⟩:=hw
  simp only[T.leaves,List.mem_append,not_or]
  exact⟨⟨di a _ _ hwa q,di b _ _ hwb q⟩,di r _ _ hwr q⟩
 |.loop i a j r,d,k,hw,q=>by
  obtain⟨hi,hj,hd,hwa,hwr⟩:=hw
  simp only[T.leaves]
  exact di r _ _ hwr q
theorem cF(cd:List RI):∀(t:T) (w:Bool) (d k:Nat) (s:BS),gb cd k t.flat->t.wf w d->WK cd w s->BT cd w t k s (cI cd t.size k s)
 |.nil,w,d,k,s,hc,hw,hs=>by
  refine⟨rfl,rfl,λj hj=>?_,λq h1 h2=>?_,λq _=>rfl⟩
  ·show s.lv j=_;simp[T.leaves]
  ·simp only[T.size] at h2;omega
 |.plain i r,w,d,k,s,hc,hw,hs=>by
  obtain⟨hop,h30,hwr⟩:=hw
  simp only[T.flat] at hc
  have hi:aq cd k=i.op:=by unfold aq;rw[hc.head]
  show BT cd w _ k s (cI cd (r.size+1) k s)
  rw[cI]
  by_cases h3:i.op=30
  ·rw[mB (by rw[hi];exact h3)]
   have ih:=cF cd r w d (k+1) ⟨s.opn,s.mid,aZ s.lv (bj cd s.opn s.opn.length) (s.lv (bj cd s.opn s.opn.length)++[k]),s.pm⟩ hc.tail hwr ⟨hs.len,hs.lp⟩
   refine⟨ih.opn,ih.mid,λj hj=>?_,λq h1 h2 h4 h5 e=>?_,λq hq=>?_⟩
   ·rw[ih.lv j hj]
    simp only[T.leaves,if_pos h3]
    by_cases e:j=bj cd s.opn s.opn.length
    ·have hwt:=h30 h3
     rw[<-e,aY,if_pos ⟨hwt,rfl⟩,if_pos ⟨hwt,rfl⟩]
     simp
    ·rw[ae _ _ e,if_neg (λh=>e h.2),if_neg (λh=>e h.2)]
   ·simp only[T.leaves,if_pos h3,List.mem_cons,not_or] at h5
    simp only[T.size] at h2
    rw[ih.pin q (by omega) (by omega) h4 h5.2 e]
    simp only[T.rq]
    rw[bm _ _ _ _ _ (by omega)]
   ·refine ih.pout q (λ⟨q',e1,e2,e3,e4,e5⟩=>hq ⟨q',e1,by omega,by simp only[T.size];omega,e4,?_⟩)
    simp only[T.leaves,if_pos h3,List.mem_cons,not_or]
    exact⟨by omega,e5⟩
  ·have hnb:¬dN (aq cd k):=by unfold dN;rw[hi];omega
   rw[mA hnb]
   have ih:=cF cd r w d (k+1) s hc.tail hwr hs
   refine⟨ih.opn,ih.mid,λj hj=>?_,λq h1 h2 h4 h5 e=>?_,λq hq=>?_⟩
   ·rw[ih.lv j hj];simp only[T.leaves,if_neg h3]
   ·have hqk:q≠k:=λe=>hnb (e ▸ h4)
    simp only[T.leaves,if_neg h3] at h5
    simp only[T.size] at h2
    rw[ih.pin q (by omega) (by omega) h4 h5 e]
    simp only[T.rq]
    rw[bm _ _ _ _ _ (by omega)]
   ·refine ih.pout q (λ⟨q',e1,e2,e3,e4,e5⟩=>hq ⟨q',e1,by omega,by simp only[T.size];omega,e4,?_⟩)
    simp only[T.leaves,if_neg h3]
    exact e5
 |.ite i a j r,w,d,k,s,hc,hw,hs=>by
  obtain⟨hi,hj,hd,hwa,hwr⟩:=hw
  simp only[T.flat] at hc
  have hio:aq cd k=27:=by unfold aq;rw[hc.head];exact hi
  have hca:=hc.tail.left
  have hcj:=hc.tail.right
  rw[T.flat_length] at hcj
  have hjo:aq cd (k+1+a.size)=31:=by unfold aq;rw[hcj.head];exact hj
  have hcr:=hcj.tail
  rw[show k+1+a.size+1=k+a.size+2 by omega] at hcr
  rw[show k+1+a.size=k+a.size+1 by omega] at hjo
  show BT cd w _ k s (cI cd (a.size+r.size+2) k s)
  rw[show a.size+r.size+2=(a.size+(r.size+1))+1 by omega,cI,jE (.inl hio),gP]
  have hlg:bj cd (s.opn++[k]) (s.opn++[k]).length=bj cd s.opn s.opn.length:=by rw[gI,if_neg (by omega)]
  have iha:=cF cd a w (d-1) (k+1) ⟨s.opn++[k],s.mid++[k],aZ s.lv s.opn.length [],s.pm⟩ hca hwa ⟨by simp[hs.len],λhh=>by rw[hlg];have:=hs.lp hh;simp;omega⟩
  generalize hs2:cI cd a.size (k+1) ⟨s.opn++[k],s.mid++[k],aZ s.lv s.opn.length [],s.pm⟩=s2 at iha ⊢
  rw[cI,show k+1+a.size=k+a.size+1 by omega,mC hjo iha.opn iha.mid hs.len]
  have hlv:s2.lv s.opn.length=[]:=by
   rw[iha.lv s.opn.length (by simp)]
   show aZ s.lv s.opn.length [] s.opn.length++_=_
   rw[aY,if_neg]
   ·rfl
   ·rintro ⟨h1,h2⟩
    simp only[hlg] at h2
    have:=hs.lp h1;omega
  rw[hlv,nu]
  have ihr:=cF cd r w d (k+a.size+2) ⟨s.opn,s.mid,s2.lv,bX (bX s2.pm k ((k+a.size+1:Nat):Int)) ((k+a.size+1:Nat):Int) k⟩ hcr hwr ⟨hs.len,hs.lp⟩
  generalize cI cd r.size (k+a.size+2) ⟨s.opn,s.mid,s2.lv,bX (bX s2.pm k ((k+a.size+1:Nat):Int)) ((k+a.size+1:Nat):Int) k⟩=s3 at ihr ⊢
  refine⟨ihr.opn,ihr.mid,λj hj=>?_,λq h1 h2 h4 h5 e=>?_,λq hq=>?_⟩
  ·rw[ihr.lv j hj]
   show s2.lv j++_=_
   rw[iha.lv j (by simp;omega)]
   simp only[hlg,T.leaves]
   rw[ae _ _ (by omega)]
   by_cases hh:w=true/\j=bj cd s.opn s.opn.length
   ·rw[if_pos hh,if_pos hh,if_pos hh,List.append_assoc]
   ·rw[if_neg hh,if_neg hh,if_neg hh];simp
  ·simp only[T.leaves,List.mem_append,not_or] at h5
   simp only[T.size] at h2
   simp only[T.rq]
   by_cases hr:k+a.size+2<=q
   ·rw[ihr.pin q hr (by omega) h4 h5.2 e,bm _ _ _ _ _ (by omega),bV _ _ _ _ _ (by rw[T.rq_length];omega),T.rq_length,bm _ _ _ _ _ (by omega),show k+1+a.size+1=k+a.size+2 by omega]
   ·rw[ihr.pout q (λ⟨q',e1,e2,e3,e4,e5⟩=>by omega)]
    show bX _ _ _ _=_
    by_cases h6:q=k+a.size+1
    ·subst h6
     rw[fK,bm _ _ _ _ _ (by omega),bV _ _ _ _ _ (by rw[T.rq_length];omega),T.rq_length,show k+a.size+1-(k+1+a.size)=0 by omega]
     rfl
    ·rw[ct (by omega)]
     by_cases h7:q=k
     ·subst h7
      rw[fK,k9]
     ·rw[ct (by omega),iha.pin q (by omega) (by omega) h4 h5.1 e,bm _ _ _ _ _ (by omega),fU _ _ _ _ _ (by omega) (by rw[T.rq_length];omega)]
  ·have hk:q≠k:=λe=>hq ⟨k,e,Nat.le_refl _,by simp only[T.size];omega,.inl hio,λhm=>by
    simp only[T.leaves,List.mem_append] at hm
    rcases hm with hm|hm
    ·have:=aj a _ _ hm;omega
    ·have:=aj r _ _ hm;omega⟩
   have he:q≠((k+a.size+1:Nat):Int):=λe=>hq ⟨k+a.size+1,e,by omega,by simp only[T.size];omega,by rw[hjo];unfold dN;omega,λhm=>by
    simp only[T.leaves,List.mem_append] at hm
    rcases hm with hm|hm
    ·have:=aj a _ _ hm;omega
    ·have:=aj r _ _ hm;omega⟩
   rw[ihr.pout q (λ⟨q',e1,e2,e3,e4,e5⟩=>hq ⟨q',e1,by omega,by simp only[T.size];omega,e4,λhm=>by
    simp only[T.leaves,List.mem_append] at hm
    rcases hm with hm|hm
    ·have:=aj a _ _ hm;omega
    ·exact e5 hm⟩)]
   show bX _ _ _ _=_
   rw[ct he,ct hk,iha.pout q (λ⟨q',e1,e2,e3,e4,e5⟩=>hq ⟨q',e1,by omega,by simp only[T.size];omega,e4,λhm=>by
    simp only[T.leaves,List.mem_append] at hm
    rcases hm with hm|hm
    ·exact e5 hm
    ·have:=aj r _ _ hm;omega⟩)]
 |.ite2 i a x b j r,w,d,k,s,hc,hw,hs=>by
  obtain⟨hi,hx,hj,hd,hwa,hwb,hwr⟩:=hw
  simp only[T.flat] at hc
  have hio:aq cd k=27:=by unfold aq;rw[hc.head];exact hi
  have hca:=hc.tail.left
  have hcx:=hc.tail.right
  rw[T.flat_length] at hcx
  have hxo:aq cd (k+a.size+1)=28:=by rw[show k+a.size+1=k+1+a.size by omega];unfold aq;rw[hcx.head];exact hx
  have hcb:=hcx.tail.left
  have hcj:=hcx.tail.right
  rw[T.flat_length] at hcj
  rw[show k+1+a.size+1=k+a.size+2 by omega] at hcb hcj
  have hjo:aq cd (k+a.size+2+b.size)=31:=by unfold aq;rw[hcj.head];exact hj
  have hcr:=hcj.tail
  rw[show k+a.size+2+b.size+1=k+a.size+b.size+3 by omega] at hcr
  show BT cd w _ k s (cI cd (a.size+b.size+r.size+3) k s)
  rw[show a.size+b.size+r.size+3=(a.size+((b.size+(r.size+1))+1))+1 by omega,cI,jE (.inl hio),gP]
  have hlg:bj cd (s.opn++[k]) (s.opn++[k]).length=bj cd s.opn s.opn.length:=by rw[gI,if_neg (by omega)]
  have hwk:∀lv pm m,WK cd w ⟨s.opn++[k],s.mid++[m],lv,pm⟩:=λlv pm m=>⟨by simp[hs.len],λhh=>by rw[hlg];have:=hs.lp hh;simp;omega⟩
  have iha:=cF cd a w (d-1) (k+1) ⟨s.opn++[k],s.mid++[k],aZ s.lv s.opn.length [],s.pm⟩ hca hwa (hwk _ _ _)
  generalize hs2:cI cd a.size (k+1) ⟨s.opn++[k],s.mid++[k],aZ s.lv s.opn.length [],s.pm⟩=s2 at iha ⊢
  have hlv:s2.lv s.opn.length=[]:=by
   rw[iha.lv s.opn.length (by simp)]
   show aZ s.lv s.opn.length [] s.opn.length++_=_
   rw[aY,if_neg]
   ·rfl
   ·rintro ⟨h1,h2⟩
    simp only[hlg] at h2
    have:=hs.lp h1;omega
  have hmid:eH cd (k+a.size+1) s2=⟨s.opn++[k],s.mid++[k+a.size+1],s2.lv,bX s2.pm k ((k+a.size+1:Nat):Int)⟩:=by
   rw[pg hxo,iha.opn,iha.mid]
   have h1:(s.opn++[k]).length-1=s.opn.length:=by simp
   rw[h1]
   have h5:(s.opn++[k]).getD s.opn.length 0=k:=by simp[List.getD_eq_getElem?_getD]
   have h6:(s.mid++[k]).set s.opn.length (k+a.size+1)=s.mid++[k+a.size+1]:=by rw[<-hs.len];simp
   rw[h5,h6]
  rw[cI,show k+1+a.size=k+a.size+1 by omega,hmid,show k+a.size+1+1=k+a.size+2 by omega,gP]
  have ihb:=cF cd b w (d-1) (k+a.size+2) ⟨s.opn++[k],s.mid++[k+a.size+1],s2.lv,bX s2.pm k ((k+a.size+1:Nat):Int)⟩ hcb hwb (hwk _ _ _)
  generalize hs4:cI cd b.size (k+a.size+2) ⟨s.opn++[k],s.mid++[k+a.size+1],s2.lv,bX s2.pm k ((k+a.size+1:Nat):Int)⟩=s4 at ihb ⊢
  have hlv4:s4.lv s.opn.length=[]:=by
   rw[ihb.lv s.opn.length (by simp)]
   show s2.lv s.opn.length++_=_
   rw[hlv,if_neg]
   ·rfl
   ·rintro ⟨h1,h2⟩
    simp only[hlg] at h2
    have:=hs.lp h1;omega
  rw[cI,mC hjo ihb.opn ihb.mid hs.len,hlv4,nu,show k+a.size+2+b.size+1=k+a.size+b.size+3 by omega]
  have ihr:=cF cd r w d (k+a.size+b.size+3) ⟨s.opn,s.mid,s4.lv,bX (bX s4.pm ((k+a.size+1:Nat):Int) ((k+a.size+2+b.size:Nat):Int)) ((k+a.size+2+b.size:Nat):Int) k⟩ hcr hwr ⟨hs.len,hs.lp⟩
  generalize cI cd r.size (k+a.size+b.size+3) ⟨s.opn,s.mid,s4.lv,bX (bX s4.pm ((k+a.size+1:Nat):Int) ((k+a.size+2+b.size:Nat):Int)) ((k+a.size+2+b.size:Nat):Int) k⟩=s3 at ihr ⊢
  have notin:∀q,q ∈ (T.ite2 i a x b j r).leaves k->q≠k/\q≠k+a.size+1/\q≠k+a.size+2+b.size:=λq hm=>by
   simp only[T.leaves,List.mem_append] at hm
   rcases hm with(hm|hm)|hm
   ·have:=aj a _ _ hm;omega
   ·have:=aj b _ _ hm;omega
   ·have:=aj r _ _ hm;omega
  refine⟨ihr.opn,ihr.mid,λj hj=>?_,λq h1 h2 h4 h5 e=>?_,λq hq=>?_⟩
  ·rw[ihr.lv j hj]
   show s4.lv j++_=_
   rw[ihb.lv j (by simp;omega)]
   show s2.lv j++_++_=_
   rw[iha.lv j (by simp;omega)]
   simp only[hlg,T.leaves]
   rw[ae _ _ (by omega)]
   by_cases hh:w=true/\j=bj cd s.opn s.opn.length
   ·rw[if_pos hh,if_pos hh,if_pos hh,if_pos hh];simp
   ·rw[if_neg hh,if_neg hh,if_neg hh,if_neg hh];simp
  ·simp only[T.leaves,List.mem_append,not_or] at h5
   simp only[T.size] at h2
   simp only[T.rq]
   by_cases hr:k+a.size+b.size+3<=q
   ·rw[ihr.pin q hr (by omega) h4 h5.2 e,bm _ _ _ _ _ (by omega),bV _ _ _ _ _ (by rw[T.rq_length];omega),T.rq_length,bm _ _ _ _ _ (by omega),show k+1+a.size+1=k+a.size+2 by omega,bV _ _ _ _ _ (by rw[T.rq_length];omega),T.rq_length,bm _ _ _ _ _ (by omega),show k+a.size+2+b.size+1=k+a.size+b.size+3 by omega]
   ·rw[ihr.pout q (λ⟨q',e1,e2,e3,e4,e5⟩=>by omega)]
    show bX _ _ _ _=_
    by_cases h6:q=k+a.size+2+b.size
    ·subst h6
     rw[fK,bm _ _ _ _ _ (by omega),bV _ _ _ _ _ (by rw[T.rq_length];omega),T.rq_length,bm _ _ _ _ _ (by omega),show k+1+a.size+1=k+a.size+2 by omega,bV _ _ _ _ _ (by rw[T.rq_length];omega),T.rq_length,show k+a.size+2+b.size-(k+a.size+2+b.size)=0 by omega]
     rfl
    ·rw[ct (by omega)]
     by_cases h7:q=k+a.size+1
     ·subst h7
      rw[fK,bm _ _ _ _ _ (by omega),bV _ _ _ _ _ (by rw[T.rq_length];omega),T.rq_length,show k+a.size+1-(k+1+a.size)=0 by omega,List.getD_cons_zero,show k+a.size+2+b.size=k+a.size+b.size+2 by omega]
     ·rw[ct (by omega)]
      by_cases h8:k+a.size+2<=q
      ·rw[ihb.pin q h8 (by omega) h4 h5.1.2 e,bm _ _ _ _ _ (by omega),bV _ _ _ _ _ (by rw[T.rq_length];omega),T.rq_length,bm _ _ _ _ _ (by omega),show k+1+a.size+1=k+a.size+2 by omega,fU _ _ _ _ _ (by omega) (by rw[T.rq_length];omega)]
      ·rw[ihb.pout q (λ⟨q',e1,e2,e3,e4,e5⟩=>by omega)]
       show bX _ _ _ _=_
       by_cases h9:q=k
       ·subst h9
        rw[fK,k9]
       ·rw[ct (by omega),iha.pin q (by omega) (by omega) h4 h5.1.1 e,bm _ _ _ _ _ (by omega),fU _ _ _ _ _ (by omega) (by rw[T.rq_length];omega)]
  ·have hk:q≠k:=λe=>hq ⟨k,e,Nat.le_refl _,by simp only[T.size];omega,.inl hio,λhm=>(notin _ hm).1 rfl⟩
   have hx1:q≠((k+a.size+1:Nat):Int):=λe=>hq ⟨k+a.size+1,e,by omega,by simp only[T.size];omega,by rw[hxo];unfold dN;omega,λhm=>(notin _ hm).2.1 rfl⟩
   have he:q≠((k+a.size+2+b.size:Nat):Int):=λe=>hq ⟨k+a.size+2+b.size,e,by omega,by simp only[T.size];omega,by rw[hjo];unfold dN;omega,λhm=>(notin _ hm).2.2 rfl⟩
   rw[ihr.pout q (λ⟨q',e1,e2,e3,e4,e5⟩=>hq ⟨q',e1,by omega,by simp only[T.size];omega,e4,λhm=>by
    simp only[T.leaves,List.mem_append] at hm
    rcases hm with(hm|hm)|hm
    ·have:=aj a _ _ hm;omega
    ·have:=aj b _ _ hm;omega
    ·exact e5 hm⟩)]
   show bX _ _ _ _=_
   rw[ct he,ct hx1,ihb.pout q (λ⟨q',e1,e2,e3,e4,e5⟩=>hq ⟨q',e1,by omega,by simp only[T.size];omega,e4,λhm=>by
    simp only[T.leaves,List.mem_append] at hm
    rcases hm with(hm|hm)|hm
    ·have:=aj a _ _ hm;omega
    ·exact e5 hm
    ·have:=aj r _ _ hm;omega⟩)]
   show bX _ _ _ _=_
   rw[ct hk,iha.pout q (λ⟨q',e1,e2,e3,e4,e5⟩=>hq ⟨q',e1,by omega,by simp only[T.size];omega,e4,λhm=>by
    simp only[T.leaves,List.mem_append] at hm
    rcases hm with(hm|hm)|hm
    ·exact e5 hm
    ·have:=aj b _ _ hm;omega
    ·have:=aj r _ _ hm;omega⟩)]
 |.loop i a j r,w,d,k,s,hc,hw,hs=>by
  obtain⟨hi,hj,hd,hwa,hwr⟩:=hw
  simp only[T.flat] at hc
  have hio:aq cd k=29:=by unfold aq;rw[hc.head];exact hi
  have hca:=hc.tail.left
  have hcj:=hc.tail.right
  rw[T.flat_length] at hcj
  have hjo:aq cd (k+1+a.size)=31:=by unfold aq;rw[hcj.head];exact hj
  have hcr:=hcj.tail
  rw[show k+1+a.size+1=k+a.size+2 by omega] at hcr
  rw[show k+1+a.size=k+a.size+1 by omega] at hjo
  show BT cd w _ k s (cI cd (a.size+r.size+2) k s)
  rw[show a.size+r.size+2=(a.size+(r.size+1))+1 by omega,cI,jE (.inr hio),gP]
  have hlg:bj cd (s.opn++[k]) (s.opn++[k]).length=s.opn.length:=by rw[gI,if_pos hio]
  have iha:=cF cd a true (d-1) (k+1) ⟨s.opn++[k],s.mid++[k],aZ s.lv s.opn.length [],s.pm⟩ hca hwa ⟨by simp[hs.len],λhh=>by rw[hlg];simp⟩
  generalize hs2:cI cd a.size (k+1) ⟨s.opn++[k],s.mid++[k],aZ s.lv s.opn.length [],s.pm⟩=s2 at iha ⊢
  rw[cI,show k+1+a.size=k+a.size+1 by omega,mC hjo iha.opn iha.mid hs.len]
  have hlv:s2.lv s.opn.length=a.leaves (k+1):=by
   rw[iha.lv s.opn.length (by simp)]
   show aZ s.lv s.opn.length [] s.opn.length++_=_
   rw[aY,if_pos ⟨rfl,hlg.symm⟩]
   rfl
  rw[hlv]
  have ihr:=cF cd r w d (k+a.size+2) ⟨s.opn,s.mid,s2.lv,dt ((k+a.size+1:Nat):Int) (a.leaves (k+1)) (bX (bX s2.pm k ((k+a.size+1:Nat):Int)) ((k+a.size+1:Nat):Int) k)⟩ hcr hwr ⟨hs.len,hs.lp⟩
  generalize cI cd r.size (k+a.size+2) ⟨s.opn,s.mid,s2.lv,dt ((k+a.size+1:Nat):Int) (a.leaves (k+1)) (bX (bX s2.pm k ((k+a.size+1:Nat):Int)) ((k+a.size+1:Nat):Int) k)⟩=s3 at ihr ⊢
  have notin:∀q,q ∈ (T.loop i a j r).leaves k->k+a.size+2<=q:=λq hm=>by
   simp only[T.leaves] at hm
   have:=aj r _ _ hm;omega
  refine⟨ihr.opn,ihr.mid,λj hj=>?_,λq h1 h2 h4 h5 e=>?_,λq hq=>?_⟩
  ·rw[ihr.lv j hj]
   show s2.lv j++_=_
   rw[iha.lv j (by simp;omega)]
   simp only[hlg,T.leaves]
   rw[ae _ _ (by omega),if_neg (show ¬(True/\j=s.opn.length) by omega)]
   simp
  ·simp only[T.leaves] at h5
   simp only[T.size] at h2
   simp only[T.rq]
   by_cases hr:k+a.size+2<=q
   ·rw[ihr.pin q hr (by omega) h4 h5 e,bm _ _ _ _ _ (by omega),bV _ _ _ _ _ (by rw[T.rq_length];omega),T.rq_length,bm _ _ _ _ _ (by omega),show k+1+a.size+1=k+a.size+2 by omega]
   ·rw[ihr.pout q (λ⟨q',e1,e2,e3,e4,e5⟩=>by omega)]
    show dt _ _ _ _=_
    rw[lC]
    by_cases h6:q=k+a.size+1
    ·subst h6
     rw[if_neg (λ⟨l,hl,e⟩=>by have:=aj a _ _ hl;omega),fK,bm _ _ _ _ _ (by omega),bV _ _ _ _ _ (by rw[T.rq_length];omega),T.rq_length,show k+a.size+1-(k+1+a.size)=0 by omega]
     rfl
    ·by_cases h7:q=k
     ·subst h7
      rw[if_neg (λ⟨l,hl,e⟩=>by have:=aj a _ _ hl;omega),ct (by omega),fK,k9]
     ·rw[bm _ _ _ _ _ (by omega),fU _ _ _ _ _ (by omega) (by rw[T.rq_length];omega)]
      by_cases h8:q ∈ a.leaves (k+1)
      ·rw[if_pos ⟨q,h8,rfl⟩,ei a _ _ _ h8]
      ·rw[if_neg (λ⟨l,hl,e⟩=>h8 (by have:l=q:=by omega
                                    rwa [<-this])),ct (by omega),ct (by omega),iha.pin q (by omega) (by omega) h4 h8 _]
  ·have hk:q≠k:=λe=>hq ⟨k,e,Nat.le_refl _,by simp only[T.size];omega,by rw[hio];unfold dN;omega,λhm=>by have:=notin _ hm;omega⟩
   have he:q≠((k+a.size+1:Nat):Int):=λe=>hq ⟨k+a.size+1,e,by omega,by simp only[T.size];omega,by rw[hjo];unfold dN;omega,λhm=>by have:=notin _ hm;omega⟩
   rw[ihr.pout q (λ⟨q',e1,e2,e3,e4,e5⟩=>hq ⟨q',e1,by omega,by simp only[T.size];omega,e4,λhm=>by
    simp only[T.leaves] at hm;exact e5 hm⟩)]
   show dt _ _ _ _=_
   have hleaf:¬∃l ∈ a.leaves (k+1),(l:Int)=q:=λ⟨l,hl,e⟩=>by
    have:=aj a _ _ hl
    have h30:=cW cd a (k+1) l hca hl
    exact hq ⟨l,e.symm,by omega,by simp only[T.size];omega,by rw[h30];unfold dN;omega,λhm=>by have:=notin _ hm;omega⟩
   rw[lC,if_neg hleaf,ct he,ct hk,iha.pout q (λ⟨q',e1,e2,e3,e4,e5⟩=>hq ⟨q',e1,by omega,by simp only[T.size];omega,e4,λhm=>by have:=notin _ hm;omega⟩)]
theorem vU(t:T)(hw:t.wf false 8)(q:Int):(cI t.flat t.flat.length 0 ⟨[],[],λ_=>[],λ_=>none⟩).pm q=if 0<=q/\q<t.size/\dN (aq t.flat q.toNat) then some ((t.rq 0 0).getD q.toNat 0) else none:=by
 have h:=cF t.flat t false 8 0 ⟨[],[],λ_=>[],λ_=>none⟩ (λj hj=>by rw[Nat.zero_add]) hw ⟨rfl,λh=>by cases h⟩
 rw[T.flat_length]
 have hl:∀q,q ∉ t.leaves 0:=di t 8 0 hw
 by_cases hq:0<=q/\q<t.size/\dN (aq t.flat q.toNat)
 ·rw[if_pos hq]
  have:=h.pin q.toNat (Nat.zero_le _) (by omega) hq.2.2 (hl _) 0
  rw[show((q.toNat:Nat):Int)=q by omega] at this
  exact this
 ·rw[if_neg hq]
  exact h.pout q (λ⟨q',e1,e2,e3,e4,e5⟩=>hq ⟨by omega,by omega,by rw[e1];simpa using e4⟩)
theorem Wk.addNil{n:Nat}{e:Tr AV}{H:AH}(esz ty:Nat)(hn:H.next<1000000):Wk n e H e (H.new (gh esz ty)):=by
 intro B σ a w hE hH
 exact⟨σ.extNil H.next,⟨hE.er.mono (σ.le_extNil H.next),hE.sz,hE.sm⟩,hH.placeNil rfl (λ_ _ h=>h) (by omega) rfl rfl rfl rfl,.of_eq rfl⟩
theorem cZ.rowW{r:Nat->Option Nat}{M:List Nat}{H:AH}{b ty esz n z:Nat}{row:Nat->Nat->AV}{x:AB}(hx:H.at b=some x)(h1:x.ty=ty)(h2:x.esz=esz)(h3:x.opn=true)(h4:n*esz<=x.size)(h5:x.fzn<=z)(hM:M.contains b=false)(h0:0<esz)
  (hr:∀i j,i<n->j<esz->Wv r M H (x.get (i*esz+j)) (row i j)):cZ r M H b (aH ty esz n z row):=by
 refine⟨x,hx,h1.symm,h2.symm,h3.symm,rfl,.inr ⟨h3,h4⟩,by rw[if_neg (by simpa using hM)];exact h5,λi hi=>?_⟩
 have hi':i<n*esz:=hi
 have hq:i / esz<n:=Nat.div_lt_of_lt_mul (by rw[Nat.mul_comm];exact hi')
 have hmd:i%esz<esz:=Nat.mod_lt _ h0
 have hdm:i / esz*esz+i%esz=i:=by
  have:=Nat.div_add_mod i esz
  rw[Nat.mul_comm] at this
  exact this
 have h:=hr _ _ hq hmd
 rw[hdm] at h
 exact h
def fe(l:List Nat)(i _j:Nat):AV:= .n .i64 ((l.getD i 0:Nat):Int)
abbrev mM(lv:Nat->List Nat)(i:Nat):AB:=aH 3 1 (lv i).length 0 (fe (lv i))
def oD(lv:Nat->List Nat)(i _j:Nat):AV:= .os i (lv i).length
abbrev iv(d:Nat)(s:BS):List AB:=[aH 39 1 d 0 (oD s.lv),aH 3 1 d 0 (fe s.mid),aH 3 1 d 0 (fe s.opn),mM s.lv 7,mM s.lv 6,mM s.lv 5,mM s.lv 4,mM s.lv 3,mM s.lv 2,mM s.lv 1,mM s.lv 0]
theorem r9{i:Nat}(h:i<8):i=0\/i=1\/i=2\/i=3\/i=4\/i=5\/i=6\/i=7:=by omega
structure mL(cd:List RI)(opn:List Nat)(nb:List NB):Prop where
 len:nb.length=opn.length
 lp:∀m,m<=opn.length->(bG (nb.take m)).within=true->∃i,i<m/\aq cd (opn.getD i 0)=29
structure wl(cd:List RI)(k:Nat)(s:BS)(nb:List NB):Prop where
 le:k<=cd.length
 run:cI cd (cd.length-k) k s=cI cd cd.length 0 ⟨[],[],λ_=>[],λ_=>none⟩
 nest:(aX (cd.drop k) k nb).2=false
 nr:mL cd s.opn nb
 l8:nb.length<=8
 mid:s.mid.length=s.opn.length
 opn:∀x ∈ s.opn,x<k
 mids:∀x ∈ s.mid,x<k
 lvs:∀j,(s.lv j).length<=k/\∀x ∈ s.lv j,x<k
theorem AY(cd:List RI):mL cd [] []:=⟨rfl,λm hm h=>by
 have:m=0:=by simpa using hm
 subst this;simp[bG] at h⟩
theorem Ao{i:Nat}(h:i<8):([10,9,8,7,6,5,4,3,2,1,0]:List Nat).reverse[i]? =some i:=by
 rcases r9 h with rfl|rfl|rfl|rfl|rfl|rfl|rfl|rfl<;>rfl
theorem cZ.ou{H:AH}{b d:Nat}{lv:Nat->List Nat}(hx:H.at b=some (aH 39 1 d 0 (oD lv)))(hd:d<=8):cZ (λb2=>([10,9,8,7,6,5,4,3,2,1,0]:List Nat).reverse[b2]?) [] H b (aH 39 1 d 0 (oD lv)):=
 .rowW hx rfl rfl rfl (Nat.le_refl _) (Nat.le_refl _) rfl (by decide) (λi j hi hj=>by
  rw[aL i j hj]
  exact Wv.os (Ao (by omega)))
theorem qH{a b:List Nat}{i:Nat}(h:i<a.length):(a++b).getD i 0=a.getD i 0:=by
 simp only[List.getD_eq_getElem?_getD];rw[List.getElem?_append_left h]
theorem qG{a:List Nat}{n i:Nat}(h:i<n):(a.take n).getD i 0=a.getD i 0:=by
 simp only[List.getD_eq_getElem?_getD];rw[List.getElem?_take_of_lt h]
theorem pn(x:dl)(z:AV)(i st:Int)(v:AV):((x.ask z i st).put i v).get=λq=>if q=i then some v else x.get q:=by
 funext q
 show(if q=i then some v else(if q=i then some ((x.get i).getD z) else x.get q))=_
 by_cases e:q=i<;>simp[e]
theorem ic{pm:Int->Option Int}{g:Int->Option AV}(h:g=fu pm)(i v:Int):(λq=>if q=i then some (AV.n .i64 v) else g q)=fu (bX pm i v):=by
 funext q
 subst h
 show _=Option.map _ (bX pm i v q)
 unfold bX
 by_cases e:q=i<;>simp[e]
theorem Az(x:dl)(i:Int)(v:AV):(x.put i v).get=λq=>if q=i then some v else x.get q:=rfl
theorem AW(l:List Nat)(m k:Nat)(hm:m<l.length)(i j:Nat)(hi:i<l.length)(hj:j<1):(if i=m then([AV.n .i64 ((k:Nat):Int)]:List AV)[j]?.getD .u else fe l i j)=fe (l.set m k) i j:=by
 obtain rfl:j=0:=by omega
 unfold fe
 simp only[List.getD_eq_getElem?_getD,List.getElem?_set]
 by_cases e:i=m
 ·subst e;simp[hi]
 ·rw[if_neg e,if_neg (λh=>e h.symm)]
theorem qn(l:List Nat)(k:Nat)(i j:Nat)(hi:i<l.length+1)(hj:j<1):(if i<l.length then fe l i j else([AV.n .i64 ((k:Nat):Int)]:List AV)[j]?.getD .u)=fe (l++[k]) i j:=by
 obtain rfl:j=0:=by omega
 unfold fe
 simp only[List.getD_eq_getElem?_getD]
 by_cases e:i<l.length
 ·rw[if_pos e,List.getElem?_append_left e]
 ·rw[if_neg e,List.getElem?_append_right (by omega)]
  obtain rfl:i=l.length:=by omega
  simp
theorem qk(l:List Nat)(m:Nat)(i j:Nat)(hi:i<m):fe l i j=fe (l.take m) i j:=by
 unfold fe
 rw[qG hi]
theorem aa{r:Nat->Option Nat}{H:AH}{b i:Nat}{lv lv':Nat->List Nat}(hx:H.at b=some (mM lv i))(he:lv' i=lv i):cZ r [] H b (mM lv' i):=by
 unfold mM
 rw[he]
 exact .keep hx rfl (by decide) (λ_ _ _ _=>rfl)
theorem dU{r:Nat->Option Nat}{H:AH}{b i:Nat}{lv':Nat->List Nat}(hx:H.at b=some (gh 1 3))(he:lv' i=[]):cZ r [] H b (mM lv' i):=by
 unfold mM
 rw[he]
 exact .rowW hx rfl rfl rfl (Nat.le_refl _) (Nat.le_refl _) rfl (by decide) (λi j hi=>by simp at hi)
theorem cZ.ou2{ρ:List Nat}{H:AH}{b d q nm:Nat}{lv':Nat->List Nat}{x:AB}(hx:H.at b=some x)(h1:x.ty=39)(h2:x.esz=1)(h3:x.opn=true)(h4:d<=x.size)(h5:x.fzn=0)(hd:d<=8)
  (hg:∀i,i<d->x.get i= .os (if i=q then nm else i) (lv' i).length) (hq:ρ.reverse[q]? =some nm) (hr:∀i,i<8->i≠q->ρ.reverse[i]? =some i):cZ (λb2=>ρ.reverse[b2]?) [] H b (aH 39 1 d 0 (oD lv')):=
 .rowW hx h1 h2 h3 (by omega) (by omega) rfl (by decide) (λi j hi hj=>by
  obtain rfl:j=0:=by omega
  rw[Nat.mul_one,Nat.add_zero,hg i hi]
  refine Wv.os ?_
  by_cases e:i=q
  ·subst e;rw[if_pos rfl];exact hq
  ·rw[if_neg e];exact hr i (by omega) e)
theorem db(x:AB)(n:Nat)(v:AV)(hn:n<1000000)(i:Nat)(hi:i<n+1):(x.app n (.li [v])).get i=if i<n then x.get i else v:=by
 have:=kw x n 1 [v] rfl (by omega) i 0 hi (by decide)
 rw[Nat.mul_one,Nat.mul_one,Nat.add_zero] at this
 rw[this]
 split
 ·rfl
 ·rfl
theorem uJ{H:AH}{d k:Nat}{s:BS}(hd8:d<8)(hmd:s.mid.length=d)(hd:s.opn.length=d)(hs:∀i,i<8->H.at i=some (mM s.lv i))(h13:H.at 13=some ((aH 3 1 d 0 (fe s.opn)).app d (.li [.n .i64 ((k:Nat):Int)])))(h15:H.at 15=some ((aH 3 1 d 0 (fe s.mid)).app d (.li [.n .i64 ((k:Nat):Int)])))(h17:H.at 17=some ((aH 39 1 d 0 (oD s.lv)).app d (.li [.sl0])))(hnx:H.next=18):
  ∃ρ:List Nat,bh (λb2=>ρ.reverse[b2]?) [] ((H.new (gh 1 3)).upd 17 (((aH 39 1 d 0 (oD s.lv)).app d (.li [.sl0])).set d (.os H.next 0))) ρ (iv (d+1) ⟨s.opn++[k],s.mid++[k],aZ s.lv d [],s.pm⟩)/\ρ.reverse[8]? =some 13/\ρ.reverse[9]? =some 15/\ρ.reverse[10]? =some 17:=by
 have hou:∀(nm i:Nat),i<d+1->(((aH 39 1 d 0 (oD s.lv)).app d (.li [.sl0])).set d (.os nm 0)).get i= .os (if i=d then nm else i) (aZ s.lv d [] i).length:=λnm i hi=>by
  rw[oq (by omega)]
  by_cases e:i=d
  ·subst e;rw[if_pos rfl,if_pos rfl,aY];rfl
  ·rw[if_neg e,if_neg e,db _ _ _ (by omega) _ hi,if_pos (by omega),ae _ _ e]
   have:=aL (ty:=39) (n:=d) (z:=0) (row:=oD s.lv) i 0 (by decide:0<1)
   rwa [Nat.mul_one,Nat.add_zero] at this
 have hsn:∀{r:Nat->Option Nat} {H:AH} (l:List Nat),l.length=d->∀i j,i<d+1->j<1->Wv r [] H (((aH 3 1 d 0 (fe l)).app d (.li [.n .i64 ((k:Nat):Int)])).get (i*1+j)) (fe (l++[k]) i j):=λ{r H} l hl i j hi hj=>by
  obtain rfl:j=0:=by omega
  rw[Nat.mul_one,Nat.add_zero,db _ _ _ (by omega) _ hi]
  have h2:=qn l k i 0 (by omega) (by decide)
  rw[hl] at h2
  rw[<-h2]
  by_cases e:i<d
  ·rw[if_pos e,if_pos e]
   have:=aL (ty:=3) (n:=d) (z:=0) (row:=fe l) i 0 (by decide:0<1)
   rw[Nat.mul_one,Nat.add_zero] at this
   rw[this];exact Wv.same rfl
  ·rw[if_neg e,if_neg e];exact Wv.same rfl
 rw[hnx]
 have hold:∀b,b<18->b≠17->((H.new (gh 1 3)).upd 17 (((aH 39 1 d 0 (oD s.lv)).app d (.li [.sl0])).set d (.os 18 0))).at b=H.at b:=λb h1 h2=>by
  rw[gS (by decide),if_neg h2,iW (by omega),hnx,if_neg (by omega)]
 have h17':((H.new (gh 1 3)).upd 17 (((aH 39 1 d 0 (oD s.lv)).app d (.li [.sl0])).set d (.os 18 0))).at 17=some (((aH 39 1 d 0 (oD s.lv)).app d (.li [.sl0])).set d (.os 18 0)):=by
  rw[gS (by decide),if_pos rfl];rfl
 have hsz:∀l:List Nat,(d+1)*1<=((aH 3 1 d 0 (fe l)).app d (.li [.n .i64 ((k:Nat):Int)])).size:=λl=>by
  rw[app_size];simp only[cg.len,List.length_cons,List.length_nil];omega
 rcases r9 hd8 with rfl|rfl|rfl|rfl|rfl|rfl|rfl|rfl
 ·exact⟨[17,15,13,7,6,5,4,3,2,1,18],.cons rfl (.ou2 (q:=0) (nm:=18) h17' (by rfl) (by rfl) (by rfl) (Nat.le_refl _) (by rfl) (by decide) (λi hi=>hou 18 i hi) (by rfl) (by decide)) (.cons rfl (.rowW ((hold 15 (by decide) (by decide)).trans h15) (by rfl) (by rfl) (by rfl) (hsz s.mid) (by exact Nat.le_refl _) rfl (by decide) (λi j hi hj=>hsn s.mid hmd i j hi hj)) (.cons rfl (.rowW ((hold 13 (by decide) (by decide)).trans h13) (by rfl) (by rfl) (by rfl) (hsz s.opn) (by exact Nat.le_refl _) rfl (by decide) (λi j hi hj=>hsn s.opn hd i j hi hj)) (.cons rfl (aa (lv:=s.lv) ((hold 7 (by decide) (by decide)).trans (hs 7 (by decide))) (show aZ s.lv 0 [] 7=s.lv 7 from ae _ _ (by decide))) (.cons rfl (aa (lv:=s.lv) ((hold 6 (by decide) (by decide)).trans (hs 6 (by decide))) (show aZ s.lv 0 [] 6=s.lv 6 from ae _ _ (by decide))) (.cons rfl (aa (lv:=s.lv) ((hold 5 (by decide) (by decide)).trans (hs 5 (by decide))) (show aZ s.lv 0 [] 5=s.lv 5 from ae _ _ (by decide))) (.cons rfl (aa (lv:=s.lv) ((hold 4 (by decide) (by decide)).trans (hs 4 (by decide))) (show aZ s.lv 0 [] 4=s.lv 4 from ae _ _ (by decide))) (.cons rfl (aa (lv:=s.lv) ((hold 3 (by decide) (by decide)).trans (hs 3 (by decide))) (show aZ s.lv 0 [] 3=s.lv 3 from ae _ _ (by decide))) (.cons rfl (aa (lv:=s.lv) ((hold 2 (by decide) (by decide)).trans (hs 2 (by decide))) (show aZ s.lv 0 [] 2=s.lv 2 from ae _ _ (by decide))) (.cons rfl (aa (lv:=s.lv) ((hold 1 (by decide) (by decide)).trans (hs 1 (by decide))) (show aZ s.lv 0 [] 1=s.lv 1 from ae _ _ (by decide))) (.cons rfl (dU (by simp only[hnx,go_sem,simprocAttr]<;>rfl) (show aZ s.lv 0 [] 0=[] from aY _ _ _)) .nil)))))))))),by rfl,by rfl,by rfl⟩
 ·exact⟨[17,15,13,7,6,5,4,3,2,18,0],.cons rfl (.ou2 (q:=1) (nm:=18) h17' (by rfl) (by rfl) (by rfl) (Nat.le_refl _) (by rfl) (by decide) (λi hi=>hou 18 i hi) (by rfl) (by decide)) (.cons rfl (.rowW ((hold 15 (by decide) (by decide)).trans h15) (by rfl) (by rfl) (by rfl) (hsz s.mid) (by exact Nat.le_refl _) rfl (by decide) (λi j hi hj=>hsn s.mid hmd i j hi hj)) (.cons rfl (.rowW ((hold 13 (by decide) (by decide)).trans h13) (by rfl) (by rfl) (by rfl) (hsz s.opn) (by exact Nat.le_refl _) rfl (by decide) (λi j hi hj=>hsn s.opn hd i j hi hj)) (.cons rfl (aa (lv:=s.lv) ((hold 7 (by decide) (by decide)).trans (hs 7 (by decide))) (show aZ s.lv 1 [] 7=s.lv 7 from ae _ _ (by decide))) (.cons rfl (aa (lv:=s.lv) ((hold 6 (by decide) (by decide)).trans (hs 6 (by decide))) (show aZ s.lv 1 [] 6=s.lv 6 from ae _ _ (by decide))) (.cons rfl (aa (lv:=s.lv) ((hold 5 (by decide) (by decide)).trans (hs 5 (by decide))) (show aZ s.lv 1 [] 5=s.lv 5 from ae _ _ (by decide))) (.cons rfl (aa (lv:=s.lv) ((hold 4 (by decide) (by decide)).trans (hs 4 (by decide))) (show aZ s.lv 1 [] 4=s.lv 4 from ae _ _ (by decide))) (.cons rfl (aa (lv:=s.lv) ((hold 3 (by decide) (by decide)).trans (hs 3 (by decide))) (show aZ s.lv 1 [] 3=s.lv 3 from ae _ _ (by decide))) (.cons rfl (aa (lv:=s.lv) ((hold 2 (by decide) (by decide)).trans (hs 2 (by decide))) (show aZ s.lv 1 [] 2=s.lv 2 from ae _ _ (by decide))) (.cons rfl (dU (by simp only[hnx,go_sem,simprocAttr]<;>rfl) (show aZ s.lv 1 [] 1=[] from aY _ _ _)) (.cons rfl (aa (lv:=s.lv) ((hold 0 (by decide) (by decide)).trans (hs 0 (by decide))) (show aZ s.lv 1 [] 0=s.lv 0 from ae _ _ (by decide))) .nil)))))))))),by rfl,by rfl,by rfl⟩
 ·exact⟨[17,15,13,7,6,5,4,3,18,1,0],.cons rfl (.ou2 (q:=2) (nm:=18) h17' (by rfl) (by rfl) (by rfl) (Nat.le_refl _) (by rfl) (by decide) (λi hi=>hou 18 i hi) (by rfl) (by decide)) (.cons rfl (.rowW ((hold 15 (by decide) (by decide)).trans h15) (by rfl) (by rfl) (by rfl) (hsz s.mid) (by exact Nat.le_refl _) rfl (by decide) (λi j hi hj=>hsn s.mid hmd i j hi hj)) (.cons rfl (.rowW ((hold 13 (by decide) (by decide)).trans h13) (by rfl) (by rfl) (by rfl) (hsz s.opn) (by exact Nat.le_refl _) rfl (by decide) (λi j hi hj=>hsn s.opn hd i j hi hj)) (.cons rfl (aa (lv:=s.lv) ((hold 7 (by decide) (by decide)).trans (hs 7 (by decide))) (show aZ s.lv 2 [] 7=s.lv 7 from ae _ _ (by decide))) (.cons rfl (aa (lv:=s.lv) ((hold 6 (by decide) (by decide)).trans (hs 6 (by decide))) (show aZ s.lv 2 [] 6=s.lv 6 from ae _ _ (by decide))) (.cons rfl (aa (lv:=s.lv) ((hold 5 (by decide) (by decide)).trans (hs 5 (by decide))) (show aZ s.lv 2 [] 5=s.lv 5 from ae _ _ (by decide))) (.cons rfl (aa (lv:=s.lv) ((hold 4 (by decide) (by decide)).trans (hs 4 (by decide))) (show aZ s.lv 2 [] 4=s.lv 4 from ae _ _ (by decide))) (.cons rfl (aa (lv:=s.lv) ((hold 3 (by decide) (by decide)).trans (hs 3 (by decide))) (show aZ s.lv 2 [] 3=s.lv 3 from ae _ _ (by decide))) (.cons rfl (dU (by simp only[hnx,go_sem,simprocAttr]<;>rfl) (show aZ s.lv 2 [] 2=[] from aY _ _ _)) (.cons rfl (aa (lv:=s.lv) ((hold 1 (by decide) (by decide)).trans (hs 1 (by decide))) (show aZ s.lv 2 [] 1=s.lv 1 from ae _ _ (by decide))) (.cons rfl (aa (lv:=s.lv) ((hold 0 (by decide) (by decide)).trans (hs 0 (by decide))) (show aZ s.lv 2 [] 0=s.lv 0 from ae _ _ (by decide))) .nil)))))))))),by rfl,by rfl,by rfl⟩
 ·exact⟨[17,15,13,7,6,5,4,18,2,1,0],.cons rfl (.ou2 (q:=3) (nm:=18) h17' (by rfl) (by rfl) (by rfl) (Nat.le_refl _) (by rfl) (by decide) (λi hi=>hou 18 i hi) (by rfl) (by decide)) (.cons rfl (.rowW ((hold 15 (by decide) (by decide)).trans h15) (by rfl) (by rfl) (by rfl) (hsz s.mid) (by exact Nat.le_refl _) rfl (by decide) (λi j hi hj=>hsn s.mid hmd i j hi hj)) (.cons rfl (.rowW ((hold 13 (by decide) (by decide)).trans h13) (by rfl) (by rfl) (by rfl) (hsz s.opn) (by exact Nat.le_refl _) rfl (by decide) (λi j hi hj=>hsn s.opn hd i j hi hj)) (.cons rfl (aa (lv:=s.lv) ((hold 7 (by decide) (by decide)).trans (hs 7 (by decide))) (show aZ s.lv 3 [] 7=s.lv 7 from ae _ _ (by decide))) (.cons rfl (aa (lv:=s.lv) ((hold 6 (by decide) (by decide)).trans (hs 6 (by decide))) (show aZ s.lv 3 [] 6=s.lv 6 from ae _ _ (by decide))) (.cons rfl (aa (lv:=s.lv) ((hold 5 (by decide) (by decide)).trans (hs 5 (by decide))) (show aZ s.lv 3 [] 5=s.lv 5 from ae _ _ (by decide))) (.cons rfl (aa (lv:=s.lv) ((hold 4 (by decide) (by decide)).trans (hs 4 (by decide))) (show aZ s.lv 3 [] 4=s.lv 4 from ae _ _ (by decide))) (.cons rfl (dU (by simp only[hnx,go_sem,simprocAttr]<;>rfl) (show aZ s.lv 3 [] 3=[] from aY _ _ _)) (.cons rfl (aa (lv:=s.lv) ((hold 2 (by decide) (by decide)).trans (hs 2 (by decide))) (show aZ s.lv 3 [] 2=s.lv 2 from ae _ _ (by decide))) (.cons rfl (aa (lv:=s.lv) ((hold 1 (by decide) (by decide)).trans (hs 1 (by decide))) (show aZ s.lv 3 [] 1=s.lv 1 from ae _ _ (by decide))) (.cons rfl (aa (lv:=s.lv) ((hold 0 (by decide) (by decide)).trans (hs 0 (by decide))) (show aZ s.lv 3 [] 0=s.lv 0 from ae _ _ (by decide))) .nil)))))))))),by rfl,by rfl,by rfl⟩
 ·exact⟨[17,15,13,7,6,5,18,3,2,1,0],.cons rfl (.ou2 (q:=4) (nm:=18) h17' (by rfl) (by rfl) (by rfl) (Nat.le_refl _) (by rfl) (by decide) (λi hi=>hou 18 i hi) (by rfl) (by decide)) (.cons rfl (.rowW ((hold 15 (by decide) (by decide)).trans h15) (by rfl) (by rfl) (by rfl) (hsz s.mid) (by exact Nat.le_refl _) rfl (by decide) (λi j hi hj=>hsn s.mid hmd i j hi hj)) (.cons rfl (.rowW ((hold 13 (by decide) (by decide)).trans h13) (by rfl) (by rfl) (by rfl) (hsz s.opn) (by exact Nat.le_refl _) rfl (by decide) (λi j hi hj=>hsn s.opn hd i j hi hj)) (.cons rfl (aa (lv:=s.lv) ((hold 7 (by decide) (by decide)).trans (hs 7 (by decide))) (show aZ s.lv 4 [] 7=s.lv 7 from ae _ _ (by decide))) (.cons rfl (aa (lv:=s.lv) ((hold 6 (by decide) (by decide)).trans (hs 6 (by decide))) (show aZ s.lv 4 [] 6=s.lv 6 from ae _ _ (by decide))) (.cons rfl (aa (lv:=s.lv) ((hold 5 (by decide) (by decide)).trans (hs 5 (by decide))) (show aZ s.lv 4 [] 5=s.lv 5 from ae _ _ (by decide))) (.cons rfl (dU (by simp only[hnx,go_sem,simprocAttr]<;>rfl) (show aZ s.lv 4 [] 4=[] from aY _ _ _)) (.cons rfl (aa (lv:=s.lv) ((hold 3 (by decide) (by decide)).trans (hs 3 (by decide))) (show aZ s.lv 4 [] 3=s.lv 3 from ae _ _ (by decide))) (.cons rfl (aa (lv:=s.lv) ((hold 2 (by decide) (by decide)).trans (hs 2 (by decide))) (show aZ s.lv 4 [] 2=s.lv 2 from ae _ _ (by decide))) (.cons rfl (aa (lv:=s.lv) ((hold 1 (by decide) (by decide)).trans (hs 1 (by decide))) (show aZ s.lv 4 [] 1=s.lv 1 from ae _ _ (by decide))) (.cons rfl (aa (lv:=s.lv) ((hold 0 (by decide) (by decide)).trans (hs 0 (by decide))) (show aZ s.lv 4 [] 0=s.lv 0 from ae _ _ (by decide))) .nil)))))))))),by rfl,by rfl,by rfl⟩
 ·exact⟨[17,15,13,7,6,18,4,3,2,1,0],.cons rfl (.ou2 (q:=5) (nm:=18) h17' (by rfl) (by rfl) (by rfl) (Nat.le_refl _) (by rfl) (by decide) (λi hi=>hou 18 i hi) (by rfl) (by decide)) (.cons rfl (.rowW ((hold 15 (by decide) (by decide)).trans h15) (by rfl) (by rfl) (by rfl) (hsz s.mid) (by exact Nat.le_refl _) rfl (by decide) (λi j hi hj=>hsn s.mid hmd i j hi hj)) (.cons rfl (.rowW ((hold 13 (by decide) (by decide)).trans h13) (by rfl) (by rfl) (by rfl) (hsz s.opn) (by exact Nat.le_refl _) rfl (by decide) (λi j hi hj=>hsn s.opn hd i j hi hj)) (.cons rfl (aa (lv:=s.lv) ((hold 7 (by decide) (by decide)).trans (hs 7 (by decide))) (show aZ s.lv 5 [] 7=s.lv 7 from ae _ _ (by decide))) (.cons rfl (aa (lv:=s.lv) ((hold 6 (by decide) (by decide)).trans (hs 6 (by decide))) (show aZ s.lv 5 [] 6=s.lv 6 from ae _ _ (by decide))) (.cons rfl (dU (by simp only[hnx,go_sem,simprocAttr]<;>rfl) (show aZ s.lv 5 [] 5=[] from aY _ _ _)) (.cons rfl (aa (lv:=s.lv) ((hold 4 (by decide) (by decide)).trans (hs 4 (by decide))) (show aZ s.lv 5 [] 4=s.lv 4 from ae _ _ (by decide))) (.cons rfl (aa (lv:=s.lv) ((hold 3 (by decide) (by decide)).trans (hs 3 (by decide))) (show aZ s.lv 5 [] 3=s.lv 3 from ae _ _ (by decide))) (.cons rfl (aa (lv:=s.lv) ((hold 2 (by decide) (by decide)).trans (hs 2 (by decide))) (show aZ s.lv 5 [] 2=s.lv 2 from ae _ _ (by decide))) (.cons rfl (aa (lv:=s.lv) ((hold 1 (by decide) (by decide)).trans (hs 1 (by decide))) (show aZ s.lv 5 [] 1=s.lv 1 from ae _ _ (by decide))) (.cons rfl (aa (lv:=s.lv) ((hold 0 (by decide) (by decide)).trans (hs 0 (by decide))) (show aZ s.lv 5 [] 0=s.lv 0 from ae _ _ (by decide))) .nil)))))))))),by rfl,by rfl,by rfl⟩
 ·exact⟨[17,15,13,7,18,5,4,3,2,1,0],.cons rfl (.ou2 (q:=6) (nm:=18) h17' (by rfl) (by rfl) (by rfl) (Nat.le_refl _) (by rfl) (by decide) (λi hi=>hou 18 i hi) (by rfl) (by decide)) (.cons rfl (.rowW ((hold 15 (by decide) (by decide)).trans h15) (by rfl) (by rfl) (by rfl) (hsz s.mid) (by exact Nat.le_refl _) rfl (by decide) (λi j hi hj=>hsn s.mid hmd i j hi hj)) (.cons rfl (.rowW ((hold 13 (by decide) (by decide)).trans h13) (by rfl) (by rfl) (by rfl) (hsz s.opn) (by exact Nat.le_refl _) rfl (by decide) (λi j hi hj=>hsn s.opn hd i j hi hj)) (.cons rfl (aa (lv:=s.lv) ((hold 7 (by decide) (by decide)).trans (hs 7 (by decide))) (show aZ s.lv 6 [] 7=s.lv 7 from ae _ _ (by decide))) (.cons rfl (dU (by simp only[hnx,go_sem,simprocAttr]<;>rfl) (show aZ s.lv 6 [] 6=[] from aY _ _ _)) (.cons rfl (aa (lv:=s.lv) ((hold 5 (by decide) (by decide)).trans (hs 5 (by decide))) (show aZ s.lv 6 [] 5=s.lv 5 from ae _ _ (by decide))) (.cons rfl (aa (lv:=s.lv) ((hold 4 (by decide) (by decide)).trans (hs 4 (by decide))) (show aZ s.lv 6 [] 4=s.lv 4 from ae _ _ (by decide))) (.cons rfl (aa (lv:=s.lv) ((hold 3 (by decide) (by decide)).trans (hs 3 (by decide))) (show aZ s.lv 6 [] 3=s.lv 3 from ae _ _ (by decide))) (.cons rfl (aa (lv:=s.lv) ((hold 2 (by decide) (by decide)).trans (hs 2 (by decide))) (show aZ s.lv 6 [] 2=s.lv 2 from ae _ _ (by decide))) (.cons rfl (aa (lv:=s.lv) ((hold 1 (by decide) (by decide)).trans (hs 1 (by decide))) (show aZ s.lv 6 [] 1=s.lv 1 from ae _ _ (by decide))) (.cons rfl (aa (lv:=s.lv) ((hold 0 (by decide) (by decide)).trans (hs 0 (by decide))) (show aZ s.lv 6 [] 0=s.lv 0 from ae _ _ (by decide))) .nil)))))))))),by rfl,by rfl,by rfl⟩
 ·exact⟨[17,15,13,18,6,5,4,3,2,1,0],.cons rfl (.ou2 (q:=7) (nm:=18) h17' (by rfl) (by rfl) (by rfl) (Nat.le_refl _) (by rfl) (by decide) (λi hi=>hou 18 i hi) (by rfl) (by decide)) (.cons rfl (.rowW ((hold 15 (by decide) (by decide)).trans h15) (by rfl) (by rfl) (by rfl) (hsz s.mid) (by exact Nat.le_refl _) rfl (by decide) (λi j hi hj=>hsn s.mid hmd i j hi hj)) (.cons rfl (.rowW ((hold 13 (by decide) (by decide)).trans h13) (by rfl) (by rfl) (by rfl) (hsz s.opn) (by exact Nat.le_refl _) rfl (by decide) (λi j hi hj=>hsn s.opn hd i j hi hj)) (.cons rfl (dU (by simp only[hnx,go_sem,simprocAttr]<;>rfl) (show aZ s.lv 7 [] 7=[] from aY _ _ _)) (.cons rfl (aa (lv:=s.lv) ((hold 6 (by decide) (by decide)).trans (hs 6 (by decide))) (show aZ s.lv 7 [] 6=s.lv 6 from ae _ _ (by decide))) (.cons rfl (aa (lv:=s.lv) ((hold 5 (by decide) (by decide)).trans (hs 5 (by decide))) (show aZ s.lv 7 [] 5=s.lv 5 from ae _ _ (by decide))) (.cons rfl (aa (lv:=s.lv) ((hold 4 (by decide) (by decide)).trans (hs 4 (by decide))) (show aZ s.lv 7 [] 4=s.lv 4 from ae _ _ (by decide))) (.cons rfl (aa (lv:=s.lv) ((hold 3 (by decide) (by decide)).trans (hs 3 (by decide))) (show aZ s.lv 7 [] 3=s.lv 3 from ae _ _ (by decide))) (.cons rfl (aa (lv:=s.lv) ((hold 2 (by decide) (by decide)).trans (hs 2 (by decide))) (show aZ s.lv 7 [] 2=s.lv 2 from ae _ _ (by decide))) (.cons rfl (aa (lv:=s.lv) ((hold 1 (by decide) (by decide)).trans (hs 1 (by decide))) (show aZ s.lv 7 [] 1=s.lv 1 from ae _ _ (by decide))) (.cons rfl (aa (lv:=s.lv) ((hold 0 (by decide) (by decide)).trans (hs 0 (by decide))) (show aZ s.lv 7 [] 0=s.lv 0 from ae _ _ (by decide))) .nil)))))))))),by rfl,by rfl,by rfl⟩
theorem qd{n:Nat}{e:Tr AV}{H:AH}{ob:Nat->Option OB}{d k:Nat}{s:BS}{L:List (Nat×AV)}(hd8:d<8)(hmd:s.mid.length=d)(hd:s.opn.length=d)(hs:∀i,i<8->H.at i=some (mM s.lv i))(h13:H.at 13=some ((aH 3 1 d 0 (fe s.opn)).app d (.li [.n .i64 ((k:Nat):Int)])))(h15:H.at 15=some ((aH 3 1 d 0 (fe s.mid)).app d (.li [.n .i64 ((k:Nat):Int)])))(h17:H.at 17=some ((aH 39 1 d 0 (oD s.lv)).app d (.li [.sl0])))(hnx:H.next=18)(hob:H.ob=ob)
  (he:∀(ρ:List Nat) (H':AH),ρ.reverse[8]? =some 13->ρ.reverse[9]? =some 15->ρ.reverse[10]? =some 17->bk (λb2=>ρ.reverse[b2]?) [] H' e L):Wk n e H (aE L) (ba ob (iv (d+1) ⟨s.opn++[k],s.mid++[k],aZ s.lv d [],s.pm⟩)):=by
 subst hob
 obtain⟨ρ,g1,g2,g3,g4⟩:=uJ (k:=k) hd8 hmd hd hs h13 h15 h17 hnx
 exact(Wk.nilb 17 d 1 3 h17 (by rw[db _ _ _ (by omega) _ (by omega),if_neg (by omega)]) (by omega) (by decide) (by omega) (by rfl) (by omega)).trans (Wk.mkS ρ [] (he ρ _ g2 g3 g4) g1 (by simp))
abbrev sY(cs:List In)(r d k:Nat):List (Nat×AV):=[(3,.cv (.map (some r))),(4,.os 8 d),(5,.os 9 d),(6,.os 10 d),(15,.fs 5 cs.length (cC cs)),(0,.fs 5 cs.length (cC cs)),(16,.n .i64 cs.length),(17,.n .i64 k)]
abbrev zo(cs:List In)(r d k:Nat):Tr AV:=aE (sY cs r d k)
theorem nI(cs:List In){k:Nat}(hk:k<cs.length):aq (cs.map bq) k=(cs.getD k (0,0,0,0,0)).1:=by
 unfold aq
 rw[mc bq cs k (0,0,0,0,0) default hk]
 rfl
theorem A2{cd:List RI}{k:Nat}(hk:k<cd.length){o:List NB}(h:(aX (cd.drop k) k o).2=false):∃o',aD (aq cd k) o=some o'/\(aX (cd.drop (k+1)) (k+1) o').2=false:=by
 cases hs:aD (cd.getD k default).op o with
 |none=>rw[qr cd k hk o hs] at h;cases h
 |some o'=>rw[nJ cd k hk o o' hs] at h;exact⟨o',rfl,h⟩
theorem zn{cd:List RI}{k:Nat}{s:BS}(hk:k<cd.length):cI cd (cd.length-k) k s=cI cd (cd.length-(k+1)) (k+1) (eH cd k s):=by
 rw[show cd.length-k=(cd.length-(k+1))+1 by omega,cI]
theorem jX{l:List NB}{t:NB}:bG (l++[t])=t:=by simp[bG]
theorem mL.push{cd:List RI}{opn:List Nat}{nb:List NB}{k:Nat}{t:NB}(h:mL cd opn nb)(ht:t.within=true->aq cd k=29\/(bG nb).within=true):mL cd (opn++[k]) (nb++[t]):=by
 refine⟨by simp[h.len],λm hm hw=>?_⟩
 simp only[List.length_append,List.length_singleton] at hm
 by_cases e:m<=opn.length
 ·rw[List.take_append_of_le_length (by rw[h.len];exact e)] at hw
  obtain⟨i,h1,h2⟩:=h.lp m e hw
  exact⟨i,h1,by rw[qH (by omega)];exact h2⟩
 ·have:m=opn.length+1:=by omega
  subst this
  rw[List.take_of_length_le (by simp[h.len]),jX] at hw
  rcases ht hw with h29|hw
  ·exact⟨opn.length,by omega,by rw[show(opn++[k]).getD opn.length 0=k by simp[List.getD_eq_getElem?_getD]];exact h29⟩
  ·obtain⟨i,h1,h2⟩:=h.lp opn.length (Nat.le_refl _) (by rw[List.take_of_length_le (by rw[h.len];exact Nat.le_refl _)];exact hw)
   exact⟨i,by omega,by rw[qH (by omega)];exact h2⟩
theorem mL.pop{cd:List RI}{opn:List Nat}{l:List NB}{t:NB}(h:mL cd opn (l++[t])):mL cd (opn.take (opn.length-1)) l:=by
 have hl:=h.len
 simp only[List.length_append,List.length_singleton] at hl
 refine⟨by rw[List.length_take];omega,λm hm hw=>?_⟩
 rw[List.length_take] at hm
 obtain⟨i,h1,h2⟩:=h.lp m (by omega) (by rw[List.take_append_of_le_length (by omega)];exact hw)
 exact⟨i,h1,by rw[qG (by omega)];exact h2⟩
theorem mL.alter{cd:List RI}{opn:List Nat}{l:List NB}{t t':NB}(h:mL cd opn (l++[t]))(ht:t'.within=t.within):mL cd opn (l++[t']):=by
 have hl:=h.len
 simp only[List.length_append,List.length_singleton] at hl
 refine⟨by simp;omega,λm hm hw=>?_⟩
 by_cases e:m<=l.length
 ·rw[List.take_append_of_le_length e] at hw
  exact h.lp m hm (by rw[List.take_append_of_le_length e];exact hw)
 ·refine h.lp m hm ?_
  rw[List.take_of_length_le (by simp;omega),jX] at hw ⊢
  rw[<-ht];exact hw
theorem tu{α:Type}{l:List α}(h:l≠[]):∃a t,l=a++[t]:=⟨l.dropLast,l.getLast h,(List.dropLast_concat_getLast h).symm⟩
theorem qt{l:List Nat}{i v k:Nat}(h:∀x ∈ l,x<k)(hv:v<k+1):∀x ∈ l.set i v,x<k+1:=λx hx=>by
 rcases List.mem_or_eq_of_mem_set hx with hx|rfl
 ·have:=h x hx;omega
 ·exact hv
theorem wl.next{cd:List RI}{k:Nat}{s:BS}{nb nb':List NB}(h:wl cd k s nb)(hk:k<cd.length)(hs:aD (aq cd k) nb=some nb')(hn:(aX (cd.drop (k+1)) (k+1) nb').2=false):wl cd (k+1) (eH cd k s) nb':=by
 have hrun:cI cd (cd.length-(k+1)) (k+1) (eH cd k s)=cI cd cd.length 0 ⟨[],[],λ_=>[],λ_=>none⟩:=by rw[<-zn hk];exact h.run
 have h8:=jn hs h.l8
 have up:∀{l:List Nat},(∀x ∈ l,x<k)->∀x ∈ l,x<k+1:=λhl x hx=>by have:=hl x hx;omega
 have ups:∀{l:List Nat},(∀x ∈ l,x<k)->∀x ∈ l++[k],x<k+1:=λhl x hx=>by
  rcases List.mem_append.1 hx with hx|hx
  ·have:=hl x hx;omega
  ·simp at hx;omega
 have upl:∀j,(s.lv j).length<=k+1/\∀x ∈ s.lv j,x<k+1:=λj=>⟨by have:=(h.lvs j).1;omega,up (h.lvs j).2⟩
 by_cases h27:aq cd k=27\/aq cd k=29
 ·rw[jE h27] at hrun ⊢
  refine⟨hk,hrun,hn,?_,h8,by simp[h.mid],ups h.opn,ups h.mids,λj=>?_⟩
  ·rcases h27 with e|e
   ·rw[e] at hs
    simp only[aD,if_true] at hs
    split at hs
    ·cases hs;exact h.nr.push λhw=> .inr hw
    ·cases hs
   ·rw[e] at hs
    simp only[aD,if_true,show ¬(29:Int)=27 by decide,if_false] at hs
    split at hs
    ·cases hs;exact h.nr.push λhw=> .inl e
    ·cases hs
  ·show(aZ s.lv s.opn.length [] j).length<=k+1/\∀x ∈ aZ s.lv s.opn.length [] j,x<k+1
   by_cases e:j=s.opn.length
   ·subst e;rw[aY];exact⟨Nat.zero_le _,λx hx=>(by cases hx)⟩
   ·rw[ae _ _ e];exact upl j
 by_cases h28:aq cd k=28
 ·rw[pg h28] at hrun ⊢
  refine⟨hk,hrun,hn,?_,h8,by simp[h.mid],up h.opn,qt h.mids (by omega),upl⟩
  rw[h28] at hs
  simp only[aD,if_true,show ¬(28:Int)=27 by decide,show ¬(28:Int)=29 by decide,if_false] at hs
  split at hs
  ·rename_i hc
   cases hs
   obtain⟨l,t,rfl⟩:=tu hc.1
   rw[List.dropLast_concat,jX]
   exact h.nr.alter rfl
  ·cases hs
 by_cases h30:aq cd k=30
 ·rw[mB h30] at hrun ⊢
  rw[h30] at hs
  simp only[aD,if_true,show ¬(30:Int)=27 by decide,show ¬(30:Int)=29 by decide,show ¬(30:Int)=28 by decide,if_false] at hs
  split at hs
  ·cases hs
   refine⟨hk,hrun,hn,h.nr,h8,h.mid,up h.opn,up h.mids,λj=>?_⟩
   show(aZ s.lv (bj cd s.opn s.opn.length) (s.lv (bj cd s.opn s.opn.length)++[k]) j).length<=k+1/\∀x ∈ aZ s.lv (bj cd s.opn s.opn.length) (s.lv (bj cd s.opn s.opn.length)++[k]) j,x<k+1
   by_cases e:j=bj cd s.opn s.opn.length
   ·rw[<-e,aY]
    exact⟨by have:=(h.lvs j).1;simp;omega,ups (h.lvs j).2⟩
   ·rw[ae _ _ e];exact upl j
  ·cases hs
 by_cases h31:aq cd k=31
 ·rw[sW h31] at hrun ⊢
  rw[h31] at hs
  simp only[aD,if_true,show ¬(31:Int)=27 by decide,show ¬(31:Int)=29 by decide,show ¬(31:Int)=28 by decide,show ¬(31:Int)=30 by decide,if_false] at hs
  split at hs
  ·rename_i hc
   cases hs
   obtain⟨l,t,rfl⟩:=tu hc
   rw[List.dropLast_concat]
   refine⟨hk,hrun,by rw[List.dropLast_concat] at hn;exact hn,h.nr.pop,by rw[List.dropLast_concat] at h8;exact h8,?_,λx hx=>?_,λx hx=>?_,upl⟩
   ·simp only[List.length_take,h.mid]
   ·exact up h.opn x (List.mem_of_mem_take hx)
   ·exact up h.mids x (List.mem_of_mem_take hx)
  ·cases hs
 ·rw[mA (by unfold dN;omega)] at hrun ⊢
  unfold aD at hs
  rw[if_neg (by omega),if_neg (by omega),if_neg h28,if_neg h30,if_neg h31] at hs
  cases hs
  exact⟨hk,hrun,hn,h.nr,h8,h.mid,up h.opn,up h.mids,upl⟩
end Go.Proofs.Yteopfmnnhlhbmaa