/- A part of the proof of CostLimits. No condition. -/
import Derived.Test.YtdpkgnmmikebdaaGreatGi01
import Derived.Test.YtdpkgnmmikebdaaGreatGi03
set_option linter.unusedSimpArgs false
set_option linter.unusedVariables false
set_option linter.constructorNameAsVariable false
set_option maxRecDepth 100000
set_option maxHeartbeats 4000000
namespace Go.Proofs.YtdpkgnmmikebdaaGreat
open Go.RowKit
section
variable {x:AB}{H:AH}{mp:List (Nat×List (Int×AV))}{l:List AV}{cs:List Value}{B b i:Nat}{ob:Nat->Option OB}{w w':World}
abbrev Fz:=Nat->Option (Array Value)
def oq(a b:Array Value):Prop:=a.size<=b.size/\∀i,i<a.size->b[i]? =a[i]?
theorem oq.refl(a:Array Value):oq a a:=⟨bL _,λ_ _=>rfl⟩
theorem oq.trans{a b c:Array Value}(h:oq a b)(h':oq b c):oq a c:=⟨apj h.1 h'.1,λi hi=>(h'.2 i (ap1 hi h.1)).trans (h.2 i hi)⟩
theorem oq.getD{a b:Array Value}(h:oq a b)(hi:i<a.size):b.getD i undef=a.getD i undef:=by
 rw[apA,apA,h.2 i hi]
structure Sg where
 nm:Nat->Option (Nat×Option Nat)
 nl:Nat->Prop
 fz:Fz
instance:CoeFun Sg (λ_=>Nat->Option (Nat×Option Nat)):=⟨Sg.nm⟩
def Sg.bare(σ:Sg):Sg:=⟨λ_=>none,λ_=>False,σ.fz⟩
structure Sg.le(σ σ':Sg):Prop where
 nm:∀b x,σ b=some x->σ' b=some x
 nl:∀b,σ.nl b->σ'.nl b
 fz:∀c cs,σ.fz c=some cs->∃cs',σ'.fz c=some cs'/\oq cs cs'
theorem Sg.le_refl(σ:Sg):σ.le σ:=⟨λ_ _ h=>h,λ_ h=>h,λc cs h=>⟨cs,h,oq.refl cs⟩⟩
theorem Sg.le.trans{σ σ' σ'':Sg}(h:σ.le σ')(h':σ'.le σ''):σ.le σ'':=
 ⟨λb x hx=>h'.nm b x (h.nm b x hx),λb hb=>h'.nl b (h.nl b hb),λc cs hc=>by
  obtain⟨c1,h1,p1⟩:=h.fz c cs hc;obtain⟨c2,h2,p2⟩:=h'.fz c c1 h1;exact⟨c2,h2,p1.trans p2⟩⟩
theorem Sg.le.bare{σ σ':Sg}(h:σ.le σ'):σ.bare.le σ'.bare:=⟨λb x hx=>(by cases hx),λb hb=>False.elim hb,h.fz⟩
theorem Sg.bare_le(σ:Sg):σ.bare.le σ:=⟨λb x hx=>(by cases hx),λb hb=>False.elim hb,λc cs h=>⟨cs,h,oq.refl cs⟩⟩
inductive VR:Sg->AV->Value->Prop where
 |u {σ:Sg} (v:Value):VR σ .u v
 |b {σ:Sg} (x:Bool):VR σ (.b x) (.bool x)
 |n {σ:Sg} (k:IntKind) (x:Int):VR σ (.n k x) (.int k x)
 |s {σ:Sg} (x:ByteArray):VR σ (.s x) (.string x)
 |p0 {σ:Sg}:VR σ .p0 (.pointer none)
 |p {σ:Sg} {blk off c:Nat} {o:Option Nat} (h:σ.nm blk=some (c,o)):VR σ (.p blk off) (.pointer (some ⟨c,off,none⟩))
 |sl0 {σ:Sg} (a:Option Addr):VR σ .sl0 (.slice a 0 0)
 |sl {σ:Sg} {blk off len cap c:Nat} (h:σ.nm blk=some (c,none)):VR σ (.sl blk off len cap) (.slice (some ⟨c,off,none⟩) len cap)
 |slo {σ:Sg} {blk off len cap cap' c k:Nat} (h:σ.nm blk=some (c,some k)) (hc:cap<=cap') (h0:off=0->cap'=k):VR σ (.sl blk off len cap) (.slice (some ⟨c,off,none⟩) len cap')
 |f0 {σ:Sg}:VR σ .f0 .nilFunc
 |f {σ:Sg} {g:FuncId} {l1 l2:List AV} {c1 c2:Array Value} (n1:l1.length=c1.size) (h1:∀i v,l1[i]? =some v->VR σ v (c1.getD i undef)) (n2:l2.length=c2.size) (h2:∀i v,l2[i]? =some v->VR σ v (c2.getD i undef)):
   VR σ (.f g l1 l2) (.func (.func g) c1 c2)
 |agg {σ:Sg} {l:List AV} {cs:Array Value} (hl:l.length=cs.size) (h:∀i v,l[i]? =some v->VR σ v (cs.getD i undef)):VR σ (.agg l) (.agg cs)
 |cv {σ:Sg} (v:Value) (h:v.oneCell'=true):VR σ (.cv v) v
 |tup {σ:Sg} {l:List AV} {cs:Array Value} (hl:l.length=cs.size) (h:∀i v,l[i]? =some v->VR σ v (cs.getD i undef)):VR σ (.tup l) (.tuple cs)
 |fs0 {σ:Sg} (esz:Nat) (row:Nat->Nat->AV) (a:Option Addr) (cap:Nat):VR σ (.fs esz 0 row) (.slice a 0 cap)
 |fs {σ:Sg} {esz len:Nat} {row:Nat->Nat->AV} {c off:Nat} {cs:Array Value} (hz:σ.fz c=some cs) (hb:off+len*esz<=cs.size) (h1:∀i j,i<len->j<esz->(row i j).cell=true) (h:∀i j,i<len->j<esz->VR σ.bare (row i j) (cs.getD (off+i*esz+j) undef)) (cap:Nat) (hcap:len<=cap):
   VR σ (.fs esz len row) (.slice (some ⟨c,off,none⟩) len cap)
 |fp {σ:Sg} {esz:Nat} {row:Nat->AV} {c off:Nat} {cs:Array Value} (hz:σ.fz c=some cs) (hb:off+esz<=cs.size) (h1:∀j,j<esz->(row j).cell=true) (h:∀j,j<esz->VR σ.bare (row j) (cs.getD (off+j) undef)) (j:Nat):
   VR σ (.fp esz row j) (.pointer (some ⟨c,off+j,none⟩))
 |bx {σ:Sg} {n:Nat} {row:Nat->AV} {c:Nat} {cs:Array Value} (hz:σ.fz c=some cs) (hb:n<=cs.size) (h1:∀j,j<n->(row j).cell=true) (h:∀j,j<n->VR σ.bare (row j) (cs.getD j undef)):
   VR σ (.bx n row) (.pointer (some ⟨c,0,none⟩))
 |fw0 {σ:Sg} (esz:Nat) (row:Nat->Nat->AV) (a:Option Addr) (cap:Nat):VR σ (.fw esz 0 row) (.slice a 0 cap)
 |fw {σ:Sg} {esz len:Nat} {row:Nat->Nat->AV} {c off:Nat} {cs:Array Value} (hz:σ.fz c=some cs) (hb:off+len*esz<=cs.size) (h1:∀i j,i<len->j<esz->(row i j).cell=true) (h:∀i j,i<len->j<esz->VR σ.bare (row i j) (cs.getD (off+i*esz+j) undef)) (cap:Nat):
   VR σ (.fw esz len row) (.slice (some ⟨c,off,none⟩) len cap)
 |ow {σ:Sg} {v:Value} (h:v.oneCell'=true):VR σ .ow v
 |mh {σ:Sg} {blk c:Nat} (h:σ.nm blk=some (c,none)):VR σ (.mh blk) (.map (some c))
 |os0 {σ:Sg} {blk:Nat} (h:σ.nl blk) (a:Option Addr):VR σ (.os blk 0) (.slice a 0 0)
 |os {σ:Sg} {blk len c k:Nat} (h:σ.nm blk=some (c,some k)) (hl:len<=k):VR σ (.os blk len) (.slice (some ⟨c,0,none⟩) len k)
theorem mJ{len esz j:Nat}(hi:i<len)(hj:j<esz):i*esz+j<len*esz:=by
 have:=apD esz (aqc hi);rw[apM] at this;omega
theorem VR.mono{σ σ':Sg}(hs:σ.le σ'){a:AV}{v:Value}(h:VR σ a v):VR σ' a v:=by
 induction h generalizing σ' with
 |u v=>exact .u v
 |b x=>exact .b x
 |n k x=>exact .n k x
 |s x=>exact .s x
 |p0=>exact .p0
 |p h=>exact .p (hs.nm _ _ h)
 |sl0 a=>exact .sl0 a
 |sl h=>exact .sl (hs.nm _ _ h)
 |slo h hc h0=>exact .slo (hs.nm _ _ h) hc h0
 |f0=>exact .f0
 |f n1 _ n2 _ i1 i2=>exact .f n1 (λi v h=>i1 i v h hs) n2 (λi v h=>i2 i v h hs)
 |agg hl _ ih=>exact .agg hl (λi v h=>ih i v h hs)
 |tup hl _ ih=>exact .tup hl (λi v h=>ih i v h hs)
 |cv v h=>exact .cv v h
 |fs0 esz row a cap=>exact .fs0 esz row a cap
 |fs hz hb h1' _ cap hcap ih=>
  obtain⟨cs',h1,h2⟩:=hs.fz _ _ hz;refine .fs h1 (apj hb h2.1) h1' (λi j hi hj=>?_) cap hcap;have:=mJ hi hj;rw[h2.getD aa];exact ih i j hi hj hs.bare
 |fp hz hb h1' _ j ih=>
  obtain⟨cs',h1,h2⟩:=hs.fz _ _ hz;refine .fp h1 (apj hb h2.1) h1' (λi hi=>?_) j;rw[h2.getD aa];exact ih i hi hs.bare
 |bx hz hb h1' _ ih=>
  obtain⟨cs',h1,h2⟩:=hs.fz _ _ hz;refine .bx h1 (apj hb h2.1) h1' (λi hi=>?_);rw[h2.getD aa];exact ih i hi hs.bare
 |fw0 esz row a cap=>exact .fw0 esz row a cap
 |ow h=>exact .ow h
 |fw hz hb h1' _ cap ih=>
  obtain⟨cs',h1,h2⟩:=hs.fz _ _ hz;refine .fw h1 (apj hb h2.1) h1' (λi j hi hj=>?_) cap;have:=mJ hi hj;rw[h2.getD aa];exact ih i j hi hj hs.bare
 |mh h=>exact .mh (hs.nm _ _ h)
 |os0 h a=>exact .os0 (hs.nl _ h) a
 |os h hl=>exact .os (hs.nm _ _ h) hl
def gn(σ:Sg)(l:List AV)(cs:List Value):Prop:=l.length=cs.length/\∀i v,l[i]? =some v->VR σ v (cs.getD i undef)
theorem gn.nil{σ:Sg}:gn σ [] []:=⟨rfl,λi v h=>by simp at h⟩
theorem gn.cons{σ:Sg}{a:AV}{v:Value}(h:VR σ a v)(h':gn σ l cs):gn σ (a::l) (v::cs):=by
 refine⟨by simp[h'.1],λi x hx=>?_⟩
 cases i with
 |zero=>simp at hx;subst hx;simpa using h
 |succ i=>simp at hx;simpa using h'.2 i x hx
theorem gn.mono{σ σ':Sg}(hs:σ.le σ')(h:gn σ l cs):gn σ' l cs:=⟨h.1,λi v hv=>(h.2 i v hv).mono hs⟩
theorem gn.agg{σ:Sg}(h:gn σ l cs):VR σ (.agg l) (.agg cs.toArray):= .agg (by simp[h.1]) (λi v hv=>by simpa using h.2 i v hv)
theorem gn.tup{σ:Sg}(h:gn σ l cs):VR σ (.tup l) (.tuple cs.toArray):= .tup (by simp[h.1]) (λi v hv=>by simpa using h.2 i v hv)
structure BR(σ:Sg)(x:AB)(o:Option Nat)(cs:Array Value):Prop where
 sz:x.size<=cs.size
 ex:o=none->cs.size=x.size
 op:∀k,o=some k->k*x.esz<=cs.size/\k<=maxLen
 ob:x.opn=o.isSome
 cell:∀i,i<x.size->VR σ (x.get i) (cs.getD i undef)
theorem BR.mono{σ σ':Sg}(hs:σ.le σ'){o:Option Nat}{cs:Array Value}(h:BR σ x o cs):BR σ' x o cs:=
 {h with cell:=λi hi=>(h.cell i hi).mono hs}
def jD(o:Option Obj):Prop:=∀cs t fr,o≠some (.cells cs t fr)
def Sg.zero:Sg:=⟨λ_=>none,λ_=>False,λ_=>none⟩
structure yG(x:nG)(es:Array MapEntry)(clock:Nat):Prop where
 cnt:es.size=x.cnt
 ent:∀e ∈ es.toList,∃k v,e.key= .int .i64 k/\x.get k=some v/\v.flat=true/\VR .zero v e.val/\e.born<clock
 dom:∀k v,x.get k=some v->∃e ∈ es.toList,e.key= .int .i64 k
 one:es.toList.Pairwise λa b=>a.key≠b.key/\a.born<b.born
 stp:∀s k,x.stp=some (s,k)->∃e ∈ es.toList,(e.born:Int)=s/\e.key= .int .i64 k
structure De(y:Dn)(es:Array MapEntry)(clock since:Nat)(seen:Array Nat)(last:Nat):Prop where
 sn:∀e ∈ es.toList,∀k,e.key= .int .i64 k->(y.seen k=true↔e.born ∈ seen.toList)
 od:∀e ∈ es.toList,∀k,e.key= .int .i64 k->(y.old k=true↔e.born<since)
 in1:∀k,y.old k=true->∃e ∈ es.toList,e.key= .int .i64 k
 in2:∀k,y.seen k=true->∃e ∈ es.toList,e.key= .int .i64 k
 bnd:∀b ∈ seen.toList,b<clock
 sl:since<=last
 lst:last<=clock
 cu:∀k v,y.cur=some (k,v)->last=clock/\v.flat=true/\∃e ∈ es.toList,∃s0:Array Nat,seen=s0.push e.born/\e.key= .int .i64 k/\VR .zero v e.val
def MY(B:Nat)(w:World)(r:Nat):OB->Prop
 |.mp x=>(x.own=true->B<=r)/\∃es clock,w.heap[r]? =some (.map es clock)/\yG x es clock
 |.it y=>B<=r/\∃since seen last es clock,w.heap[r]? =some (.mapIter (some y.m) since seen last)/\w.heap[y.m]? =some (.map es clock)/\De y es clock since seen last/\∃x,yG x es clock
 |.fix o=>B<=r/\w.heap[r]? =some o/\jD (some o)
def OR(B:Nat)(ob:Nat->Option OB)(w:World):Prop:=∀r x,ob r=some x->MY B w r x
theorem OR.keep(h:OR B ob w)(hk:∀r,r<w.heap.size->jD w.heap[r]? ->w'.heap[r]? =w.heap[r]?):OR B ob w':=λr x hx=>by
 have h1:=h r x hx;have key:∀r (o:Obj),w.heap[r]? =some o->(∀cs t fr,o≠Obj.cells cs t fr)->w'.heap[r]? =some o:=λr o ho hn=>by
  rw[hk r (apo.1 ho).1 (by rw[ho];intro cs t fr e;cases e;exact hn _ _ _ rfl)]
  exact ho
 cases x with
 |mp x=>
  obtain⟨q,es,clock,h2,h3⟩:=h1;exact⟨q,es,clock,key _ _ h2 (by intro _ _ _ e;cases e),h3⟩
 |it y=>
  obtain⟨q,since,seen,last,es,clock,h2,h3,h4⟩:=h1;exact⟨q,since,seen,last,es,clock,key _ _ h2 (by intro _ _ _ e;cases e),key _ _ h3 (by intro _ _ _ e;cases e),h4⟩
 |fix o=>exact⟨h1.1,key _ _ h1.2.1 (λcs t fr e=>h1.2.2 cs t fr (by rw[e])),h1.2.2⟩
theorem OR.of_eq(h:OR B ob w)(hw:w'.heap=w.heap):OR B ob w':=h.keep λr _ _=>by rw[hw]
structure MD(σ:Sg)(d:List (Int×AV))(es:Array MapEntry)(clock:Nat):Prop where
 ent:∀e ∈ es.toList,e.born<clock/\∃k v,e.key= .int .i64 k/\nh d k=some v/\VR σ v e.val
 dom:∀k v,nh d k=some v->∃e ∈ es.toList,e.key= .int .i64 k
 one:es.toList.Pairwise λa b=>a.key≠b.key/\a.born<b.born
theorem MD.mono{σ σ':Sg}(hs:σ.le σ'){d:List (Int×AV)}{es:Array MapEntry}{clock:Nat}(h:MD σ d es clock):MD σ' d es clock:=
 ⟨λe he=>(h.ent e he).imp id λ⟨k,v,h1,h2,h3⟩=>⟨k,v,h1,h2,h3.mono hs⟩,h.dom,h.one⟩
def te(ob:Nat->Option OB)(c:Nat):Prop:=ob c=none/\∀r y,ob r=some (.it y)->y.m≠c
structure OM(B:Nat)(σ:Sg)(mp:List (Nat×List (Int×AV)))(ob:Nat->Option OB)(w:World):Prop where
 o:OR B ob w
 m:∀b d,qv mp b=some d->∃c es clock,σ.nm b=some (c,none)/\B<=c/\w.heap[c]? =some (.map es clock)/\te ob c/\MD σ d es clock
 i:∀b b' d d' c o o',qv mp b=some d->qv mp b'=some d'->σ.nm b=some (c,o)->σ.nm b'=some (c,o')->b=b'
theorem OM.keep{σ:Sg}(h:OM B σ mp ob w)(hk:∀r,r<w.heap.size->jD w.heap[r]? ->w'.heap[r]? =w.heap[r]?):OM B σ mp ob w':=
 ⟨h.o.keep hk,λb d hb=>by
  obtain⟨c,es,clock,h1,h2,h3,h4,h5⟩:=h.m b d hb;exact⟨c,es,clock,h1,h2,by rw[hk c (apo.1 h3).1 (by rw[h3];intro cs t fr e;cases e)];exact h3,h4,h5⟩,h.i⟩
theorem OM.of_eq{σ:Sg}(h:OM B σ mp ob w)(hw:w'.heap=w.heap):OM B σ mp ob w':=h.keep λr _ _=>by rw[hw]
theorem OM.mono{σ σ':Sg}(h:OM B σ mp ob w)(hs:σ.le σ'):OM B σ' mp ob w:=
 ⟨h.o,λb d hb=>by
  obtain⟨c,es,clock,h1,h2,h3,h4,h5⟩:=h.m b d hb;exact⟨c,es,clock,hs.nm _ _ h1,h2,h3,h4,h5.mono hs⟩,λb b' d d' c o o' h1 h2 h3 h4=>by
  obtain⟨c1,_,_,k1,_⟩:=h.m b d h1;obtain⟨c2,_,_,k2,_⟩:=h.m b' d' h2;have e1:=hs.nm _ _ k1;have e2:=hs.nm _ _ k2;rw[e1] at h3;cases h3;rw[e2] at h4;cases h4;exact h.i b b' d d' _ _ _ h1 h2 k1 k2⟩
theorem OM.none{σ:Sg}(h:OR B ob w):OM B σ [] ob w:=⟨h,λb d hb=>(by cases hb),λb b' d d' c o o' hb=>(by cases hb)⟩
structure HR(B:Nat)(σ:Sg)(H:AH)(w:World):Prop where
 new:∀b,H.next<=b->σ b=none
 newl:∀b,H.next<=b->¬σ.nl b
 old:∀b,H.next<=b->H.at b=none
 small:H.next<2^40
 hB:B<=w.heap.size
 nil:∀b x,H.at b=some x->σ b=none->x.size=0/\x.opn=true/\σ.nl b
 nilp:∀b,σ.nl b->σ b=none
 blk:∀b x c o,H.at b=some x->σ b=some (c,o)->∃cs,B<=c/\w.heap[c]? =some (.cells cs x.ty (0,0))/\BR σ x o cs
 szs:∀b x,H.at b=some x->x.size<2^40
 inj:∀b b' x x' c o o',H.at b=some x->H.at b'=some x'->σ b=some (c,o)->σ b'=some (c,o')->b=b'
 frz:∀c fs,σ.fz c=some fs->∃cs t fr,w.heap[c]? =some (.cells cs t fr)/\oq fs cs/\∀b x o,H.at b=some x->σ b=some (c,o)->fs.size<=x.fzn
 ob:OM B σ H.mp H.ob w
theorem HR.at{σ:Sg}(h:HR B σ H w)(hx:H.at b=some x)(hp:0<x.size\/¬σ b=none):
  ∃c o cs,σ b=some (c,o)/\B<=c/\w.heap[c]? =some (.cells cs x.ty (0,0))/\BR σ x o cs/\x.size<2^40:=by
 cases hs:σ b with
 |none=>
  rcases hp with hp|hp
  ·have:=(h.nil b x hx hs).1;omega
  ·exact absurd hs hp
 |some p=>
  obtain⟨c,o⟩:=p;obtain⟨cs,h1,h2,h3⟩:=h.blk b x c o hx hs;exact⟨c,o,cs,rfl,h1,h2,h3,h.szs b x hx⟩
structure Fr(B:Nat)(σ σ':Sg)(H H':AH)(w w':World):Prop where
 dom:∀b,b<H.next->σ' b=σ b
 ext:σ.le σ'
 nxt:H.next<=H'.next
 low:H'.low<=H.low
 bel:Below B w w'
 old:∀c,c<w.heap.size->w'.heap[c]? =w.heap[c]? \/(∃b o,b<H.next/\σ b=some (c,o)/\H'.low<=b)\/jD w.heap[c]?
 new:∀b c o,H.next<=b->σ' b=some (c,o)->c<w.heap.size->∃b0 o0,b0<H.next/\σ b0=some (c,o0)/\H'.low<=b0
theorem Fr.refl{σ:Sg}(h:HR B σ H w):Fr B σ σ H H w w:=
 ⟨λ_ _=>rfl,σ.le_refl,bL _,bL _,Below.refl _ _,λ_ _=> .inl rfl,λb c o hb hs=>by rw[h.new b hb] at hs;cases hs⟩
theorem Fr.trans{σ σ1 σ2:Sg}{H1 H2:AH}{w1 w2:World}(h:Fr B σ σ1 H H1 w w1)(h':Fr B σ1 σ2 H1 H2 w1 w2)(hr:HR B σ1 H1 w1):Fr B σ σ2 H H2 w w2:=by
 have back:∀b c o,b<H1.next->σ1 b=some (c,o)->c<w.heap.size->H2.low<=b->∃b0 o0,b0<H.next/\σ b0=some (c,o0)/\H2.low<=b0:=by
  intro b c o hb hs hc hl;by_cases hbn:b<H.next
  ·exact⟨b,o,hbn,by rw[<-h.dom b hbn];exact hs,hl⟩
  ·obtain⟨b0,o0,h1,h2,h3⟩:=h.new b c o aa hs hc;exact⟨b0,o0,h1,h2,apj h'.low h3⟩
 refine⟨λb hb=>(h'.dom b (ap1 hb h.nxt)).trans (h.dom b hb),h.ext.trans h'.ext,apj h.nxt h'.nxt,apj h'.low h.low,h.bel.trans h'.bel,λc hc=>?_,λb c o hb hs hc=>?_⟩
 ·rcases h.old c hc with e|⟨b,o,h1,h2,h3⟩|hn
  ·rcases h'.old c (ap1 hc h.bel.size) with e'|⟨b,o,h1,h2,h3⟩|hn
   ·exact .inl (e'.trans e)
   ·exact .inr (.inl (back b c o h1 h2 hc h3))
   ·exact .inr (.inr (e ▸ hn))
  ·exact .inr (.inl ⟨b,o,h1,h2,apj h'.low h3⟩)
  ·exact .inr (.inr hn)
 ·by_cases hb1:H1.next<=b
  ·obtain⟨b1,o1,h1,h2,h3⟩:=h'.new b c o hb1 hs (ap1 hc h.bel.size);exact back b1 c o1 h1 h2 hc h3
  ·rw[h'.dom b aa] at hs;obtain⟨b0,o0,h1,h2,h3⟩:=h.new b c o hb hs hc;exact⟨b0,o0,h1,h2,apj h'.low h3⟩
theorem AH.at_lt{σ:Sg}(h:HR B σ H w)(hx:H.at b=some x):b<H.next:=by
 by_cases hb:H.next<=b
 ·rw[h.old b hb] at hx;cases hx
 ·omega
theorem HR.load{σ:Sg}(h:HR B σ H w){v:AV}(hv:H.load b i=some v):
  ∃c o u,σ b=some (c,o)/\w.cell? ⟨c,i,none⟩=some u/\VR σ v u/\c<w.heap.size:=by
 unfold AH.load at hv;split at hv
 ·rename_i x hx;split at hv
  ·rename_i hi;cases hv;obtain⟨c,o,cs,h1,h2,h3,h4,_⟩:=h.at hx (.inl aa);have hc:=h4.cell i hi;have hlt:i<cs.size:=ap1 hi h4.sz;refine⟨c,o,cs.getD i undef,h1,?_,hc,(apo.1 h3).1⟩;simp[World.cell?,h3,Array.getD,hlt]
  ·cases hv
 ·cases hv
theorem AB.get_set(x:AB)(i j:Nat)(v:AV)(hi:i<2^40):(x.set i v).get j=if j=i then v else x.get j:=by
 unfold AB.set AB.get;simp only;rw[Tr.get_set 48 x.cells i v j aa];split<;>simp
theorem AH.at_put(H:AH)(b b':Nat)(x:AB)(l n:Nat)(q:Nat->Option OB)(m:List (Nat×List (Int×AV)))(hb:b<2^40):AH.at ⟨Tr.set 48 H.blks b x,n,l,q,m⟩ b'=if b'=b then(if x.live then some x else none) else H.at b':=by
 unfold AH.at;simp only;rw[Tr.get_set 48 H.blks b x b' aa];by_cases e:b'=b
 ·rw[if_pos e,if_pos e]
 ·rw[if_neg e,if_neg e]
theorem HR.store{σ:Sg}{H':AH}(h:HR B σ H w){v:AV}{u:Value}(hv:H.store b i v=some H')(hu:VR σ v u):
  ∃c o,σ b=some (c,o)/\B<=c/\c<w.heap.size/\w.frozen? ⟨c,i,none⟩=false/\(∃y,w.cell? ⟨c,i,none⟩=some y)/\HR B σ H' (w.setCell ⟨c,i,none⟩ u)/\Fr B σ σ H H' w (w.setCell ⟨c,i,none⟩ u):=by
 unfold AH.store at hv;split at hv
 ·rename_i x hx;split at hv
  ·rename_i hi;obtain⟨hi,hfz⟩:=hi;cases hv;obtain⟨c,o,cs,h1,h2,h3,h4,h5⟩:=h.at hx (.inl aa);have hbn:=AH.at_lt h hx;have hsm:=h.small;have hlt:i<cs.size:=ap1 hi h4.sz;have hclt:c<w.heap.size:=(apo.1 h3).1;have hlive:x.live=true:=by
    unfold AH.at at hx;split at hx
    ·split at hx
     ·rename_i hl;cases hx;exact hl
     ·cases hx
    ·cases hx
   have hset:∀k,(w.setCell ⟨c,i,none⟩ u).heap[k]? =if k=c then some (.cells (cs.setIfInBounds i u) x.ty (0,0)) else w.heap[k]? :=by
    intro k;simp only[World.setCell,apN];by_cases e:c=k
    ·subst e;rw[h3];simp
    ·rw[if_neg e,if_neg (Ne.symm e)]
   have look:∀{b0 x0},AH.at ⟨Tr.set 48 H.blks b (x.set i v),H.next,min H.low b,H.ob,H.mp⟩ b0=some x0->(b0=b/\x0=x.set i v)\/(b0≠b/\H.at b0=some x0):=by
    intro b0 x0 h0;rw[AH.at_put _ _ _ _ _ _ _ _ aa] at h0;by_cases e:b0=b
    ·rw[if_pos e,if_pos (show(x.set i v).live=true from hlive)] at h0;cases h0;exact .inl ⟨e,rfl⟩
    ·rw[if_neg e] at h0;exact .inr ⟨e,h0⟩
   have lk:∀{b0 x0},AH.at ⟨Tr.set 48 H.blks b (x.set i v),H.next,min H.low b,H.ob,H.mp⟩ b0=some x0->∃y,H.at b0=some y/\y.fzn=x0.fzn:=by
    intro b0 x0 h0;rcases look h0 with⟨rfl,rfl⟩|⟨_,e⟩
    ·exact⟨x,hx,rfl⟩
    ·exact⟨x0,e,rfl⟩
   refine⟨c,o,h1,h2,hclt,?_,⟨cs.getD i undef,by simp[World.cell?,h3,Array.getD,hlt]⟩,?_,?_⟩
   ·simp[World.frozen?,h3]
   ·refine⟨h.new,h.newl,λb' hb'=>?_,h.small,by simp[World.setCell];exact h.hB,λb' x' hx' hn=>?_,h.nilp,λb' x' c' o' hx' hs'=>?_,λb' x' hx'=>?_,λb1 b2 x1 x2 c1 o1 o2 k1 k2 k3 k4=>?_,λc' fs hf=>?_,h.ob.keep λr _ hr=>by rw[hset,if_neg (λe=>hr _ _ _ (e ▸ h3))]⟩
    ·rw[AH.at_put _ _ _ _ _ _ _ _ aa,if_neg (by have:H.next<=b':=hb';omega)];exact h.old b' hb'
    ·rcases look hx' with⟨rfl,rfl⟩|⟨_,e⟩
     ·rw[h1] at hn;cases hn
     ·exact h.nil b' x' e hn
    ·rcases look hx' with⟨rfl,rfl⟩|⟨e,hy⟩
     ·rw[h1] at hs';cases hs';refine⟨cs.setIfInBounds i u,h2,?_,⟨?_,?_,?_,h4.ob,?_⟩⟩
      ·rw[hset];rw[if_pos rfl];rfl
      ·simp;exact h4.sz
      ·intro e;simp;exact h4.ex e
      ·intro k hk;simp;exact h4.op k hk
      ·intro j hj;rw[AB.get_set _ _ _ _ (by have:j<x.size:=hj;omega)]
       have hj':j<cs.size:=ap1 hj h4.sz;by_cases e:j=i
       ·subst e;rw[if_pos rfl];simpa [Array.getD,hj'] using hu
       ·rw[if_neg e];have:=h4.cell j hj;simpa [Array.getD,hj',Array.getElem_setIfInBounds,Ne.symm e] using this
     ·obtain⟨cs',g2,g3,g4⟩:=h.blk b' x' c' o' hy hs';refine⟨cs',g2,?_,g4⟩;rw[hset,if_neg (λec=>e (h.inj b' b x' x c' o' o hy hx hs' (by rw[h1,ec])))]
      exact g3
    ·rcases look hx' with⟨rfl,rfl⟩|⟨_,e⟩
     ·exact h5
     ·exact h.szs b' x' e
    ·obtain⟨y1,e1,_⟩:=lk k1;obtain⟨y2,e2,_⟩:=lk k2;exact h.inj b1 b2 y1 y2 c1 o1 o2 e1 e2 k3 k4
    ·obtain⟨cs',t',fr',g1,g2,g3⟩:=h.frz c' fs hf;have third:∀b' x' o',AH.at ⟨Tr.set 48 H.blks b (x.set i v),H.next,min H.low b,H.ob,H.mp⟩ b'=some x'->σ b'=some (c',o')->fs.size<=x'.fzn:=λb' x' o' hx' hs'=>by
      obtain⟨y,e1,e2⟩:=lk hx';rw[<-e2];exact g3 b' y o' e1 hs'
     by_cases e:c'=c
     ·subst e;rw[h3] at g1;cases g1;refine⟨cs.setIfInBounds i u,x.ty,(0,0),by rw[hset,if_pos rfl],⟨by simp;exact g2.1,λj hj=>?_⟩,third⟩
      have hle:=g3 b x o hx h1;rw[aqd aa];exact g2.2 j hj
     ·exact⟨cs',t',fr',by rw[hset,if_neg e];exact g1,g2,third⟩
   ·refine⟨λ_ _=>rfl,σ.le_refl,bL _,Nat.min_le_left _ _,(Below.refl _ _).setCell h2 _,λk hk=>?_,λb' c' o' hb' hs' _=>by rw[h.new b' hb'] at hs';cases hs'⟩
    rw[hset];by_cases e:k=c
    ·subst e;exact .inr (.inl ⟨b,o,hbn,h1,Nat.min_le_right _ _⟩)
    ·rw[if_neg e];exact .inl rfl
  ·cases hv
 ·cases hv
end
end Go.Proofs.YtdpkgnmmikebdaaGreat