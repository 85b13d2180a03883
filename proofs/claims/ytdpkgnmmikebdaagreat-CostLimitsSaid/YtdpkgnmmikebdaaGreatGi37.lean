/- A part of the proof of CostLimits. No condition. -/
import Derived.Below
import Derived.Carry
import Derived.ChangeBook
import Derived.ChangeCalls
import Derived.ChangeOld
import Derived.ChangeStays
import Derived.Deep.Fields
import Derived.Deep.Slices
import Derived.Lib.SmallJoins
import Derived.OpenShut
import Derived.ProofKit
import Derived.ShutString
import Derived.WalkKit
import Derived.Test.YtdpkgnmmikebdaaGreatRows
import Derived.Test.YtdpkgnmmikebdaaGreatGi17
import Derived.Test.YtdpkgnmmikebdaaGreatGip
set_option linter.unusedSimpArgs false
set_option linter.unusedVariables false
set_option linter.constructorNameAsVariable false
set_option maxRecDepth 100000
set_option maxHeartbeats 4000000
namespace Go.Proofs.YtdpkgnmmikebdaaGreat
open Go.ChangeShapes Go.WideShapes Go.ChangeAt Go.RowKit Go.Deep Go.Joins
section
variable {cs:List Value}{n:Nat}{a:Option Addr}{P:Program}{H:Type}{w:World}
theorem BJ{enc:TypeId×Value->H}{f:Func}{s:ChangeSpec}{apart fresh handsOn again:Bool}{W W':World}{args:Array Value}{v:Value}{ds gs:List (DataW H)}{before pa pv:List MemPlace}
  (hW:DataW.Whole enc P f.params.toList s.vars apart W args.toList ds gs before)
  (hres:∀(b:Nat) (sp:Nat->Bool) (hd:Bool),DataW.TrodAll enc P W' b sp hd f.resultTypes.toList (v.resultList f.resultTypes.size) (s.fn H (ds++gs)).results [])
  (hargs:∀sp:Nat->Bool,(∀p ∈ before,sp p.block=true)->DataW.TrodAll enc P W' 0 sp true f.params.toList args.toList (s.fn H (ds++gs)).args pa)
  (hvars:∀sp:Nat->Bool,(∀p ∈ before,sp p.block=true)->DataW.TrodVars enc P W' sp s.vars (s.fn H (ds++gs)).vars pv)
  (hps:before=pa++pv) (hb:Below W.heap.size W W')
  (hok:∀(j:Nat) (t:TypeId) (r:Value),f.resultTypes[j]? =some t->(v.resultList f.resultTypes.size)[j]? =some r->Value.okWide P W' .any 0 t r):
  s.post enc P f apart fresh handsOn again W args v W':=by
 have hlt:=hW.lt;have hold:∀p ∈ before,(λb=>decide (b<W.heap.size)) p.block=true:=λp hp=>by simpa using hlt p hp
 refine⟨ds,gs,before,[],pa,pv,hW,hres _ _ _,hargs _ hold,hvars _ hold,hb.frame _,λ_=>⟨hok,_,_,([]++pa)++pv,⟨[]++pa,pv,trodAll_append (hargs _ (λ_ _=>rfl)) (hres _ _ _),hvars _ (λ_ _=>rfl),rfl,λb off hp=>?_,λha=>?_⟩,λp hp _=>by rw[hps];simpa using hp⟩⟩
 ·obtain⟨_,_,_,_,_,hz,_⟩:=hW;have hm:MemPlace.cell b off ∈ before:=by rw[hps];simpa using hp
  rw[hb.frozen (hlt _ hm)];exact hz b off hm
 ·obtain⟨_,_,_,_,_,_,hn⟩:=hW;have:=hn ha;rw[hps] at this;simpa using this
def uq(B:Nat)(w:World)(size:Nat)(a:Option Addr)(n:Nat)(f:Nat->Nat->Value):Prop:=
 ∀i,i<n->∃b off,a=some ⟨b,off,none⟩/\b<B/\∀j,j<size->w.cell? ⟨b,off+i*size+j,none⟩=some (f i j)
theorem uq.below{B:Nat}{w':World}{size:Nat}{f:Nat->Nat->Value}(h:uq B w size a n f)(hb:Below B w w'):uq B w' size a n f:=by
 intro i hi;obtain⟨b,off,ha,hlt,hc⟩:=h i hi;exact⟨b,off,ha,hlt,λj hj=>by rw[hb.cell (p:=⟨b,off+i*size+j,none⟩) hlt];exact hc j hj⟩
theorem uY{H:Type}{enc:TypeId×Value->H}{P:Program}(hl:laidOutB P=true){W W':World}(hb:Below W.heap.size W W'){sp:Nat->Bool}:
  ∀{ts:List TypeId} {vs:List Value} {ds:List (DataW H)} {ps:List MemPlace},(∀t ∈ ts,P.readableRec t=true/\t<P.types.size)->DataW.TrodAll enc P W 0 (λ_=>true) true ts vs ds ps->
   (∀p ∈ ps,sp p.block=true)->DataW.TrodAll enc P W' 0 sp true ts vs ds ps
 |[],vs,ds,ps,_,h,_=>by
  obtain⟨rfl,rfl,rfl⟩:=trodAll_nil h;exact trodAll_mk0
 |t::ts,vs,ds,ps,ht,h,hsp=>by
  have hlt:=h.lt;obtain⟨v,vs',d,ds',p,q,rfl,rfl,rfl,⟨n,h0⟩,r⟩:=trodAll_cons h;have hT:=ht t ae;have hp:∀x ∈ p,x.block<W.heap.size:=λx hx=>hlt x (by simp[hx])
  exact trodAll_cons_mk ⟨n,DataW.trod_stays (kids_book hl hT.1) (book_sized hT.1) (λh=>by cases h) ⟨hT.2,book_self t⟩ h0 (λx hx=>hb.same (hp x hx)) (λx hx=>hsp x (by simp[hx]))⟩
   (uY hl hb (λt' ht'=>ht t' (by simp[ht'])) r (λx hx=>hsp x (by simp[hx])))
theorem LP{enc:TypeId×Value->H}{C:Checked}{os:Os}{k:FuncId}{f:Func}{s:ChangeSpec}{tb:TypeId}(own:ownKnob C.prog.godebug=none)(started:os.Started)(noInit:C.prog.inits.idxOf? k=none)(hfn:C.prog.funcs[k]? =some f)
  (witness:∃(w:World) (tape:Tape) (i:Input),w.os=os/\(w.forCall tape i).Shaped C.prog/\i.vars=[]/\Input.okWide C.prog (w.forCall tape i) .any w.heap.size k i/\
   s.pre6 enc C.prog f [] false (w.forCall tape i).memory i.args/\({}:Assume).holds C.prog (lone (Frame.enter C.prog k i.args .normal) [] (w.forCall tape i)))
  (hl:laidOutB C.prog=true) (hr:∀t ∈ f.params.toList,C.prog.readableRec t=true/\t<C.prog.types.size) (hvars:s.vars=[]) (hspec:∀ds:List (DataW H),ds.length=f.params.toList.length->s.fn H ds={results:=[.lit (.bool true)],args:=ds})
  (hres:f.resultTypes= #[tb]) (htb:C.prog.underlying tb=some .bool)
  (walk:∀(W:World) (base:Nat) (args:Array Value) (ds:List (DataW H)) (p:List MemPlace),(∀(j:Nat) t v,f.params[j]? =some t->args[j]? =some v->Value.okWide C.prog W .any base t v)->
   DataW.TrodAll enc C.prog W 0 (λ_=>true) true f.params.toList args.toList ds p->Calls C.prog k args W λe w'=>e= .returned (.bool true)/\Below W.heap.size W w'):
  ReturnsInHanded {} C os k .any (s.pre6 enc C.prog f [] false) (s.post enc C.prog f false true false false):=by
 refine returnsInHanded_of_change (C:=C) own started noInit hfn witness ?_;intro W base args ds gs before hval hW hcnd _;have hW':=hW;obtain⟨p,q,hA,hV,rfl,hfz,hnd⟩:=hW;rw[hvars] at hV;obtain⟨rfl,rfl⟩:=trodVars_none hV;have hlen:=(trodAll_length hA).2;refine(walk W base args ds p hval hA).mono λe W' ⟨he,hg⟩=>?_;subst he;have hs:=hspec ds hlen;refine⟨_,rfl,BJ (pa:=p) (pv:=[]) hW' (λ_ _ _=>?_) (λsp hsp=>?_) (λsp _=>?_) ae hg ?_⟩
 ·rw[aqb,hs,hres];exact trodAll_cons_mk (shut_bool htb _) trodAll_mk0
 ·rw[aqb,hs];exact uY hl hg hr hA (λx hx=>hsp x (by simp[hx]))
 ·rw[aqb,hs,hvars];rfl
 ·exact ok_one hres rfl (okWide_bool_mk htb _)
theorem yC(b off n:Nat):Addr.add ⟨b,off,none⟩ n=⟨b,off+n,none⟩:=by
 unfold Addr.add;split
 ·simp_all
 ·rfl
theorem uE{enc:TypeId×Value->H}{base:Nat}{spare:Nat->Bool}{held:Bool}{t e:TypeId}{fs:Array Field}{fuel:Nat}{x:DataW H×List MemPlace}(ht:P.underlying t=some (.slice e))(he:P.underlying e=some (.struct fs))
  (hone:oneCellFields P fs=true) (hC:P.cellsOf e=fs.size) (hpos:0<fs.size) (h:DataW.trod enc P w base spare held fuel t cs=some x):
  ∃(a:Option Addr) (len cap n:Nat) (V:Nat->Nat->Value),cs=[.slice a len cap]/\len<=9223372036854775807/\uq w.heap.size w fs.size a len V/\
   ∀i,i<len->∀(j:Nat) (f:Field),fs[j]? =some f->∃y,DataW.trod enc P w base spare held n f.type [V i j]=some y:=by
 rcases open_slice ht h with⟨rfl,_⟩|⟨a,len,cap,m,n,D,Pl,rfl,hb,hl,hm,hmm,_,hi⟩
 ·exact⟨none,0,0,0,λ_ _=>(.bool false),rfl,aa,λi hi=>aa,λi hi=>aa⟩
 ·have hle:len<=m:=by rw[hmm];split<;>omega
  have key:∀i,i<len->∃cs':List Value,cs'.length=fs.size/\(∀j,j<fs.size->w.cell? (a.add (i*fs.size+j))=cs'[j]?)/\∃n',n=n'+1/\∀(j:Nat) (f:Field),fs[j]? =some f->∃y,DataW.trod enc P w base spare held n' f.type [cs'.getD j (.bool false)]=some y:=by
   intro i hil;obtain⟨cs',hc,ht'⟩:=hi i aa;rw[hC] at hc;obtain⟨ys,n',hn',hy,hlen,hyl,hf⟩:=DataW.trod_struct he ht';obtain⟨_,hcl,hat⟩:=World.cells?_some hc;refine⟨cs',hcl,λj hj=>?_,n',hn',λj f hj=>?_⟩
   ·rw[<-Go.Deep.add_add];exact hat j hj
   ·obtain⟨ho,hk⟩:=hone_of hone j f hj;have hjl:j<fs.size:=(apo.1 hj).1;have h1:=hf j f hj;rw[ho,hk] at h1;have hone':(cs'.drop j).take 1=[cs'.getD j (.bool false)]:=by
     rw[List.drop_eq_getElem_cons aa,apd,apk aa];rfl
    rw[hone'] at h1;exact⟨_,h1.trans (apk aa)⟩
  cases len with
  |zero=>exact⟨some a,0,cap,0,λ_ _=>(.bool false),rfl,aa,λi hi=>aa,λi hi=>aa⟩
  |succ len=>
   obtain⟨_,_,hc0,n',hn',_⟩:=key 0 aa;obtain⟨V,hV⟩:=choose_lt (α:=List Value) key;obtain⟨b,off,sp⟩:=a;have hcell:w.cell? (Addr.add ⟨b,off,sp⟩ (0*fs.size+0))=some ((V 0)[0]'(by rw[(hV 0 aa).1];exact hpos)):=by
    rw[(hV 0 aa).2.1 0 hpos];exact apk _
   have hsp:sp=none:=by
    unfold World.cell? Addr.add at hcell;split at hcell
    ·cases sp with
     |none=>rfl
     |some _=>simp at hcell
    ·cases hcell
   subst hsp;refine⟨some ⟨b,off,none⟩,len+1,cap,n',λi j=>(V i).getD j (.bool false),rfl,by unfold maxLen at hm;omega,λi hi=>⟨b,off,rfl,?_,λj hj=>?_⟩,λi hi j f hj=>?_⟩
   ·rw[yC] at hcell;exact World.block_lt_of_cell? w _ hcell
   ·have:=(hV i hi).2.1 j hj;rw[apk (by rw[(hV i hi).1];exact hj)] at this
    show w.cell? ⟨b,off+i*fs.size+j,none⟩=some ((V i).getD j (.bool false));rw[apd,apk (by rw[(hV i hi).1];exact hj),Option.getD_some,<-this,Nat.add_assoc,yC]
   ·obtain⟨n2,e2,h2⟩:=(hV i hi).2.2;have:n2=n':=aa;subst this;exact h2 j f hj
theorem uq.congr{B:Nat}{size:Nat}{f g:Nat->Nat->Value}(h:uq B w size a n f)(hfg:∀i,i<n->∀j,j<size->f i j=g i j):uq B w size a n g:=by
 intro i hi;obtain⟨b,off,h1,h2,h3⟩:=h i hi;exact⟨b,off,h1,h2,λj hj=>by rw[h3 j hj,hfg i hi j hj]⟩
def lg:Value->Int
 |.int _ n=>n
 |_=>0
def sL:Value->Bool
 |.bool b=>b
 |_=>false
theorem KX{n:Int}(h:(Lit.int .u32 n).wf=true):0<=n/\n<4294967296:=by
 have h2:IntKind.u32.min<=n/\n<=IntKind.u32.max:=by simpa [Lit.wf] using h
 have e1:IntKind.u32.min=0:=ag;have e2:IntKind.u32.max=4294967295:=ag;omega
theorem uz{enc:TypeId×Value->H}{base:Nat}{spare:Nat->Bool}{held:Bool}{t e:TypeId}{fuel:Nat}{x:DataW H×List MemPlace}(ht:P.underlying t=some (.slice e))(h:DataW.trod enc P w base spare held fuel t cs=some x)
  {a:Option Addr} {len cap:Nat} (hcs:cs=[.slice a len cap]):len<=cap:=by
 rcases open_slice ht h with⟨rfl,_⟩|⟨a',len',cap',m,n,D,Pl,rfl,hb,hl,_⟩
 ·cases hcs;exact bL _
 ·cases hcs;exact hl
def sf(w:World):Fz:=λc=>match w.heap[c]? with
 |some (.cells cs _ _)=>some cs
 |_=>none
theorem Mu(w:World):wv (sf w) w:=λc fs hf=>by
 unfold sf at hf;split at hf
 ·rename_i cs t fr h;cases hf;exact⟨_,_,_,h,oq.refl _⟩
 ·cases hf
theorem xi{cap esz:Nat}{V:Nat->Nat->Value}{row:Nat->Nat->AV}(h:uq w.heap.size w esz a n V)(h0:0<esz)(hcap:n<=cap)(hc:∀i j,i<n->j<esz->(row i j).cell=true)(hv:∀(σ:Sg) i j,i<n->j<esz->VR σ (row i j) (V i j)):
  VR (Sg.data (sf w)) (.fs esz n row) (.slice a n cap):=by
 cases n with
 |zero=>exact .fs0 _ _ _ _
 |succ n=>
  obtain⟨b,off,rfl,hb,hcell⟩:=h 0 aa;have hall:∀i j,i<n+1->j<esz->w.cell? ⟨b,off+i*esz+j,none⟩=some (V i j):=λi j hi hj=>by
   obtain⟨b',off',e,_,hcell'⟩:=h i hi;cases e;exact hcell' j hj
  cases hh:w.heap[b]? with
  |none=>
   have:=hall 0 0 aa h0;simp only[World.cell?,hh] at this;cases this
  |some o=>
   cases o with
   |cells cs t fr=>
    have hget:∀i j,i<n+1->j<esz->cs[off+i*esz+j]? =some (V i j):=λi j hi hj=>by
     have:=hall i j hi hj;simpa [World.cell?,hh] using this
    have hlast:=hget n (esz-1) aa aa;have hsz:=(apo.1 hlast).1;refine .fs (σ:=Sg.data (sf w)) (c:=b) (off:=off) (cs:=cs) ?_ ?_ hc (λi j hi hj=>?_) _ hcap
    ·show sf w b=some cs;unfold sf;rw[hh]
    ·rw[apM];omega
    ·rw[apA,hget i j hi hj];exact hv _ i j hi hj
   |_=>
    have:=hall 0 0 aa h0;simp only[World.cell?,hh] at this;cases this
theorem oe{α:Type}(d:α)(n i:Nat)(f:Nat->α)(h:i<n):((List.range n).map f).getD i d=f i:=by
 rw[apd,List.getElem?_map,List.getElem?_range h];rfl
theorem xQ{k:FuncId}{vs:Array Value}{args:List AV}(h:gw av k args [.v (.b true)])(hv:gn (Sg.data (sf w)) args vs.toList):Calls av k vs w λe w'=>e= .returned (.bool true)/\Below w.heap.size w w':=
 (h.2 (sf w) w vs (Mu w) hv).mono λe w' hq=>by
  cases e with
  |panicked c=>exact hq.elim
  |outgrown=>exact hq.elim
  |returned u=>
   obtain⟨x,Hc,σ',⟨l,rfl,hr⟩,hx,_,hbel,_⟩:=hq
   match l,hr with
   |[y],hr=>
    have:y= .b true:=hr.1.1;subst this;cases hx;exact⟨rfl,hbel⟩
theorem gn.hd{σ:Sg}{a:AV}{v:Value}{l:List AV}(h:gn σ (a::l) (v::cs)):VR σ a v:=h.2 0 a rfl
end
end Go.Proofs.YtdpkgnmmikebdaaGreat