/- A part of the proof of CostOrders: LwA. No condition. -/
import Derived.Below
import Derived.Carry
import Derived.ChangeBook
import Derived.ChangeCalls
import Derived.ChangeOld
import Derived.ChangeStays
import Derived.Deep.Fields
import Derived.Deep.Slices
import Derived.Lib.SmallJoins
import Derived.OpenShut
import Derived.ProofKit
import Derived.ShutString
import Derived.WalkKit
import Derived.Test.YthehakngpbjgjaaGreatRows
import Derived.Test.YthehakngpbjgjaaGreatGb17
set_option linter.unusedSimpArgs false
set_option linter.unusedVariables false
set_option linter.constructorNameAsVariable false
set_option maxRecDepth 100000
set_option maxHeartbeats 4000000
namespace Go.Proofs.YthehakngpbjgjaaGreat
open Go.ChangeShapes Go.WideShapes Go.ChangeAt Go.RowKit Go.Deep Go.Joins
theorem gW{H:Type}{enc:TypeId×Value->H}{P:Program}{f:Func}{s:ChangeSpec}{apart fresh handsOn again:Bool}{W W':World}{args:Array Value}{v:Value}{ds gs:List (DataW H)}{before pa pv:List MemPlace}
  (hW:DataW.Whole enc P f.params.toList s.vars apart W args.toList ds gs before)
  (hres:∀(b:Nat) (sp:Nat->Bool) (hd:Bool),DataW.TrodAll enc P W' b sp hd f.resultTypes.toList (v.resultList f.resultTypes.size) (s.fn H (ds++gs)).results [])
  (hargs:∀sp:Nat->Bool,(∀p ∈ before,sp p.block=true)->DataW.TrodAll enc P W' 0 sp true f.params.toList args.toList (s.fn H (ds++gs)).args pa)
  (hvars:∀sp:Nat->Bool,(∀p ∈ before,sp p.block=true)->DataW.TrodVars enc P W' sp s.vars (s.fn H (ds++gs)).vars pv)
  (hps:before=pa++pv) (hb:Below W.heap.size W W')
  (hok:∀(j:Nat) (t:TypeId) (r:Value),f.resultTypes[j]? =some t->(v.resultList f.resultTypes.size)[j]? =some r->Value.okWide P W' .any 0 t r):
  s.post enc P f apart fresh handsOn again W args v W':=by
 have hlt:=hW.lt
 have hold:∀p ∈ before,(λb=>decide (b<W.heap.size)) p.block=true:=λp hp=>by simpa using hlt p hp
 refine⟨ds,gs,before,[],pa,pv,hW,hres _ _ _,hargs _ hold,hvars _ hold,hb.frame _,λ_=>⟨hok,_,_,([]++pa)++pv,⟨[]++pa,pv,trodAll_append (hargs _ (λ_ _=>rfl)) (hres _ _ _),hvars _ (λ_ _=>rfl),rfl,λb off hp=>?_,λha=>?_⟩,λp hp _=>by rw[hps];simpa using hp⟩⟩
 ·obtain⟨_,_,_,_,_,hz,_⟩:=hW
  have hm:MemPlace.cell b off ∈ before:=by rw[hps];simpa using hp
  rw[hb.frozen (hlt _ hm)]
  exact hz b off hm
 ·obtain⟨_,_,_,_,_,_,hn⟩:=hW
  have:=hn ha
  rw[hps] at this
  simpa using this
theorem dQ{H:Type}{enc:TypeId×Value->H}{P:Program}(hl:laidOutB P=true){W W':World}(hb:Below W.heap.size W W'){sp:Nat->Bool}:
  ∀{ts:List TypeId} {vs:List Value} {ds:List (DataW H)} {ps:List MemPlace},(∀t ∈ ts,P.readableRec t=true/\t<P.types.size)->DataW.TrodAll enc P W 0 (λ_=>true) true ts vs ds ps->
   (∀p ∈ ps,sp p.block=true)->DataW.TrodAll enc P W' 0 sp true ts vs ds ps
 |[],vs,ds,ps,_,h,_=>by
  obtain⟨rfl,rfl,rfl⟩:=trodAll_nil h
  exact trodAll_mk0
 |t::ts,vs,ds,ps,ht,h,hsp=>by
  have hlt:=h.lt
  obtain⟨v,vs',d,ds',p,q,rfl,rfl,rfl,⟨n,h0⟩,r⟩:=trodAll_cons h
  have hT:=ht t (by simp)
  have hp:∀x ∈ p,x.block<W.heap.size:=λx hx=>hlt x (by simp[hx])
  exact trodAll_cons_mk ⟨n,DataW.trod_stays (kids_book hl hT.1) (book_sized hT.1) (λh=>by cases h) ⟨hT.2,book_self t⟩ h0 (λx hx=>hb.same (hp x hx)) (λx hx=>hsp x (by simp[hx]))⟩
   (dQ hl hb (λt' ht'=>ht t' (by simp[ht'])) r (λx hx=>hsp x (by simp[hx])))
theorem oq{H:Type}{enc:TypeId×Value->H}{C:Checked}{os:Os}{k:FuncId}{f:Func}{s:ChangeSpec}{tb:TypeId}(own:ownKnob C.prog.godebug=none)(started:os.Started)(noInit:C.prog.inits.idxOf? k=none)(hfn:C.prog.funcs[k]? =some f)
  (witness:∃(w:World) (tape:Tape) (i:Input),w.os=os/\(w.forCall tape i).Shaped C.prog/\i.vars=[]/\Input.okWide C.prog (w.forCall tape i) .any w.heap.size k i/\
   s.pre6 enc C.prog f [] false (w.forCall tape i).memory i.args/\({}:Assume).holds C.prog (lone (Frame.enter C.prog k i.args .normal) [] (w.forCall tape i)))
  (hl:laidOutB C.prog=true) (hr:∀t ∈ f.params.toList,C.prog.readableRec t=true/\t<C.prog.types.size) (hvars:s.vars=[]) (hspec:∀ds:List (DataW H),ds.length=f.params.toList.length->s.fn H ds={results:=[.lit (.bool true)],args:=ds})
  (hres:f.resultTypes= #[tb]) (htb:C.prog.underlying tb=some .bool)
  (walk:∀(W:World) (base:Nat) (args:Array Value) (ds:List (DataW H)) (p:List MemPlace),(∀(j:Nat) t v,f.params[j]? =some t->args[j]? =some v->Value.okWide C.prog W .any base t v)->
   DataW.TrodAll enc C.prog W 0 (λ_=>true) true f.params.toList args.toList ds p->Calls C.prog k args W λe w'=>e= .returned (.bool true)/\Below W.heap.size W w'):
  ReturnsInHanded {} C os k .any (s.pre6 enc C.prog f [] false) (s.post enc C.prog f false true false false):=by
 refine returnsInHanded_of_change (C:=C) own started noInit hfn witness ?_
 intro W base args ds gs before hval hW hcnd _
 have hW':=hW
 obtain⟨p,q,hA,hV,rfl,hfz,hnd⟩:=hW
 rw[hvars] at hV
 obtain⟨rfl,rfl⟩:=trodVars_none hV
 have hlen:=(trodAll_length hA).2
 refine(walk W base args ds p hval hA).mono λe W' ⟨he,hg⟩=>?_
 subst he
 have hs:=hspec ds hlen
 refine⟨_,rfl,gW (pa:=p) (pv:=[]) hW' (λ_ _ _=>?_) (λsp hsp=>?_) (λsp _=>?_) (by simp) hg ?_⟩
 ·rw[List.append_nil,hs,hres]
  exact trodAll_cons_mk (shut_bool htb _) trodAll_mk0
 ·rw[List.append_nil,hs]
  exact dQ hl hg hr hA (λx hx=>hsp x (by simp[hx]))
 ·rw[List.append_nil,hs,hvars]
  rfl
 ·exact ok_one hres rfl (okWide_bool_mk htb _)
theorem nP{n:Int}(h:(Lit.int .u32 n).wf=true):0<=n/\n<4294967296:=by
 have h2:IntKind.u32.min<=n/\n<=IntKind.u32.max:=by simpa [Lit.wf] using h
 have e1:IntKind.u32.min=0:=by decide
 have e2:IntKind.u32.max=4294967295:=by decide
 omega
def lh(w:World):Fz:=λc=>match w.heap[c]? with
 |some (.cells cs _ _)=>some cs
 |_=>none
theorem oV(w:World):Pb (lh w) w:=λc fs hf=>by
 unfold lh at hf
 split at hf
 ·rename_i cs t fr h
  cases hf
  exact⟨_,_,_,h,cH.refl _⟩
 ·cases hf
theorem eX{k:FuncId}{w:World}{vs:Array Value}{args:List AV}(h:ez Tryz.prog k args [.v (.b true)])(hv:ao (Sg.data (lh w)) args vs.toList):Calls Tryz.prog k vs w λe w'=>e= .returned (.bool true)/\Below w.heap.size w w':=
 (h.2 (lh w) w vs (oV w) hv).mono λe w' hq=>by
  cases e with
  |panicked c=>exact hq.elim
  |outgrown=>exact hq.elim
  |returned u=>
   obtain⟨x,Hc,σ',⟨l,rfl,hr⟩,hx,_,hbel,_⟩:=hq
   match l,hr with
   |[y],hr=>
    have:y= .b true:=hr.1.1
    subst this
    cases hx
    exact⟨rfl,hbel⟩
theorem ao.hd{σ:Sg}{a:AV}{v:Value}{l:List AV}{cs:List Value}(h:ao σ (a::l) (v::cs)):VR σ a v:=h.2 0 a rfl
end Go.Proofs.YthehakngpbjgjaaGreat