/- A part of the proof of CostGrows: EvMx EvJ EvK. No condition. -/
import Derived.Maps.RangeRun
import Derived.Test.YtdpkgnmmikebdaaGreatGf09
import Derived.Test.YtdpkgnmmikebdaaGreatGf10
import Derived.Test.YtdpkgnmmikebdaaGreatGf02
set_option linter.unusedSimpArgs false
set_option linter.unusedVariables false
set_option linter.constructorNameAsVariable false
set_option maxRecDepth 100000
set_option maxHeartbeats 4000000
namespace Go.Proofs.YtdpkgnmmikebdaaGreat
open Go.RowKit Go.MapKept
inductive MO where
 |mm
 |lk (z:AV) (ok:Bool) (x k:AX)
 |mu (m k v:AX)
 |me (z:AV) (m k:AX)
 |es (m s v:AX)
 |rg (x:AX)
 |nx (x:AX)
 |en (x:AX)
 |ln (x:AX)
 |mn (neg:Bool) (x:AX)
 |mx (x y:AX)
 |mi (x y:AX)
 |lz (z:AV) (ok:Bool) (x k:AX)
 |cp (esz:Nat) (x y:AX)
def kE(P:Program)(t:TypeId):Option TypeId:=match P.underlying t with
 |some (.map K E)=>match P.underlying K with
  |some (.int .i64)=>some E
  |_=>none
 |_=>none
theorem c9{P:Program}{t E:TypeId}(h:kE P t=some E):∃K,P.underlying t=some (.map K E)/\P.underlying K=some (.int .i64):=by
 unfold kE at h
 split at h
 ·rename_i K E' e1
  split at h
  ·rename_i e2;cases h;exact⟨K,e1,e2⟩
  ·cases h
 ·cases h
def nP(P:Program)(E:TypeId):Option AV:=(P.info? E).bind λi=>i.zero.bind λz=>(oG z).bind λa=>if a.flat0=true then some a else none
def xo(P:Program)(E:TypeId):Option AV:=(P.info? E).bind λi=>i.zero.bind λz=>match z with
 |.agg cs=>(cs.toList.mapM oG).map .agg
 |_=>none
def pn(P:Program)(o:Op):Option MO:=match o with
 |.makeMap _ none=>some .mm
 |.lookup t x k ok=>(kE P t).bind λE=>(ax x).bind λx=>(ax k).bind λk=>match nP P E with
  |some z=>some (.lk z ok x k)
  |none=>(xo P E).map λz=> .lz z ok x k
 |.mapUpdate t m k v=>(kE P t).bind λ_=>(ax m).bind λm=>(ax k).bind λk=>(ax v).map λv=> .mu m k v
 |.insert t m k v=>(kE P t).bind λ_=>(ax m).bind λm=>(ax k).bind λk=>(ax v).map λv=> .mu m k v
 |.mapEntry t m k=>(kE P t).bind λE=>(ax m).bind λm=>(ax k).bind λk=>(nP P E).map λz=> .me z m k
 |.entryStore _ m s v=>(ax m).bind λm=>(ax s).bind λs=>(ax v).map λv=> .es m s v
 |.range t x=>(kE P t).bind λ_=>(ax x).map .rg
 |.next x false=>(ax x).map .nx
 |.entry x=>(ax x).map .en
 |.call ⟨.builtin .len,⟨[x]⟩,⟨[t]⟩⟩=>(kE P t).bind λ_=>(ax x).map .ln
 |.call ⟨.builtin .max,⟨[x,y]⟩,_⟩=>(ax x).bind λx=>(ax y).map λy=> .mx x y
 |.call ⟨.builtin .copy,⟨[x,y]⟩,⟨[t,t']⟩⟩=>match P.underlying t,P.underlying t' with
  |some (.slice el),some (.slice _)=>(P.info? el).bind λi=>(ax x).bind λx=>(ax y).map λy=> .cp i.size x y
  |_,_=>none
 |.call ⟨.builtin .min,⟨[x,y]⟩,_⟩=>(ax x).bind λx=>(ax y).map λy=> .mi x y
 |.binOp .eql t x (.const (.map none)) _=>(kE P t).bind λ_=>(ax x).map (.mn false)
 |.binOp .neq t x (.const (.map none)) _=>(kE P t).bind λ_=>(ax x).map (.mn true)
 |_=>none
def OB.clr:OB->OB
 |.mp x=> .mp x
 |.it y=> .it {y with cur:=none}
 |.fix o=> .fix o
section
variable {P:Program} {B:Nat} {σ:Sg} {e:Tr AV} {a:Act} {H:AH} {w:World} {o:Oper} {Q:Exit->Act->World->Prop}
theorem OR.alloc{ob:Nat->Option OB}(h:OR B ob w)(o:Obj):OR B ob (w.alloc o):=h.keep λr hr _=>Below.heap_alloc _ _ _ hr
theorem OR.lt{ob:Nat->Option OB}(h:OR B ob w){r:Nat}{x:OB}(hx:ob r=some x):r<w.heap.size:=by
 have:=h r x hx
 cases x with
 |mp x=>obtain⟨_,es,c,h1,_⟩:=this;exact(Array.getElem?_eq_some_iff.1 h1).1
 |it y=>obtain⟨_,_,_,_,es,c,h1,_⟩:=this;exact(Array.getElem?_eq_some_iff.1 h1).1
 |fix o=>exact(Array.getElem?_eq_some_iff.1 this.2.1).1
theorem OR.free{ob:Nat->Option OB}(h:OR B ob w):ob w.heap.size=none:=by
 cases hx:ob w.heap.size with
 |none=>rfl
 |some x=>have:=h.lt hx;omega
theorem gx(k:Int):∀(l:List MapEntry) (j:Nat),(∀e ∈ l,∃n,e.key= .int .i64 n)->
  (Instr.findNow (.int .i64) (.int .i64 k) l j=some none/\∀e ∈ l,e.key≠ .int .i64 k)\/∃i e,Instr.findNow (.int .i64) (.int .i64 k) l j=some (some (j+i,e.val))/\l[i]? =some e/\e.key= .int .i64 k
 |[],_,_=> .inl ⟨rfl,λe he=>by cases he⟩
 |e::l,j,h=>by
  obtain⟨n,hn⟩:=h e (List.mem_cons_self ..)
  simp only[Instr.findNow,hn,Instr.sameNow,if_true]
  by_cases hkn:k=n
  ·subst hkn
   exact .inr ⟨0,e,by simp,rfl,hn⟩
  ·have hb:(k==n)=false:=by simpa using hkn
   rw[hb]
   rcases gx k l (j+1) (λx hx=>h x (List.mem_cons_of_mem _ hx)) with⟨h1,h2⟩|⟨i,x,h1,h2,h3⟩
   ·refine .inl ⟨h1,λx hx=>?_⟩
    rcases List.mem_cons.1 hx with rfl|hx
    ·rw[hn];intro e;cases e;exact hkn rfl
    ·exact h2 x hx
   ·exact .inr ⟨i+1,x,by rw[h1];simp;omega,by simpa using h2,h3⟩
section
variable {T K E:TypeId} (hT:P.underlying T=some (.map K E)) (hK:P.underlying K=some (.int .i64))
include hT hK
theorem jK{r:Nat}{es:Array MapEntry}{c:Nat}(hr:w.heap[r]? =some (.map es c))(hi:∀e ∈ es.toList,∃n,e.key= .int .i64 n)(k:Int)(ok:Bool){z:Value}(hz:(zeroValue E).run P w= .ok z w):
  ((Instr.lookup T (.map (some r)) (.int .i64 k) ok).run P w= .ok (if ok=true then .tuple #[z,.bool false] else z) w/\∀e ∈ es.toList,e.key≠ .int .i64 k)\/
  ∃e ∈ es.toList,e.key= .int .i64 k/\(Instr.lookup T (.map (some r)) (.int .i64 k) ok).run P w= .ok (if ok=true then .tuple #[e.val,.bool true] else e.val) w:=by
 have hc:MapKept.IsKey (.int .i64) (.int .i64 k):=by simp[MapKept.IsKey]
 rcases gx k es.toList 0 hi with⟨h1,h2⟩|⟨i,e,h1,h2,h3⟩
 ·refine .inl ⟨?_,h2⟩
  cases ok<;>simp[Instr.lookup,run_underlying hT,MapKept.run_getObj_map hr,MapKept.run_checkKey hK hc,MapKept.run_findKey hK h1,Result.andThen,hz]
 ·refine .inr ⟨e,List.mem_of_getElem? h2,h3,?_⟩
  cases ok<;>simp[Instr.lookup,run_underlying hT,MapKept.run_getObj_map hr,MapKept.run_checkKey hK hc,MapKept.run_findKey hK h1,Result.andThen]
theorem pb(k:Int)(ok:Bool){z:Value}(hz:(zeroValue E).run P w= .ok z w):
  (Instr.lookup T (.map none) (.int .i64 k) ok).run P w= .ok (if ok=true then .tuple #[z,.bool false] else z) w:=by
 have hc:MapKept.IsKey (.int .i64) (.int .i64 k):=by simp[MapKept.IsKey]
 have h1:Instr.findNow (.int .i64) (.int .i64 k) (#[]:Array MapEntry).toList 0=some none:=rfl
 cases ok<;>simp[Instr.lookup,run_underlying hT,MapKept.run_checkKey hK hc,MapKept.run_findKey hK h1,Result.andThen,hz]
end
def qO(k:Int)(u:Value)(c:Nat):MapEntry:={key:= .int .i64 k,val:=u,born:=c}
def kx(k:Int)(u:Value)(e:MapEntry):MapEntry:={e with key:= .int .i64 k,val:=u}
theorem iU{es:Array MapEntry}{i:Nat}{e0:MapEntry}{k:Int}{u:Value}(h0:es[i]? =some e0)(hk:e0.key= .int .i64 k):
  (es.modify i (kx k u)).toList.map (λe=>(e.key,e.born))=es.toList.map (λe=>(e.key,e.born)):=by
 apply List.ext_getElem?
 intro j
 simp only[List.getElem?_map,Array.getElem?_toList,Array.getElem?_modify]
 by_cases e:i=j
 ·subst e
  rw[if_pos rfl,h0]
  simp[kx,hk]
 ·rw[if_neg e]
theorem d8{es es':Array MapEntry}(hm:es'.toList.map (λe=>(e.key,e.born))=es.toList.map (λe=>(e.key,e.born))){e:MapEntry}(he:e ∈ es.toList):∃e' ∈ es'.toList,e'.key=e.key/\e'.born=e.born:=by
 have:(e.key,e.born) ∈ es'.toList.map (λe=>(e.key,e.born)):=by rw[hm];exact List.mem_map.2 ⟨e,he,rfl⟩
 obtain⟨e',h1,h2⟩:=List.mem_map.1 this
 exact⟨e',h1,(Prod.mk.inj h2).1,(Prod.mk.inj h2).2⟩
theorem yr{es:Array MapEntry}{i:Nat}{k:Int}{u:Value}{e':MapEntry}(h:e' ∈ (es.modify i (kx k u)).toList):(∃e0,es[i]? =some e0/\e'=kx k u e0)\/∃j,j≠i/\es[j]? =some e':=by
 obtain⟨j,hj⟩:=List.mem_iff_getElem?.1 h
 rw[Array.getElem?_toList,Array.getElem?_modify] at hj
 by_cases e:i=j
 ·subst e
  rw[if_pos rfl] at hj
  obtain⟨e0,h1,rfl⟩:=Option.map_eq_some_iff.1 hj
  exact .inl ⟨e0,h1,rfl⟩
 ·rw[if_neg e] at hj
  exact .inr ⟨j,λq=>e q.symm,hj⟩
theorem jP{es:Array MapEntry}(h:es.toList.Pairwise λa b=>a.key≠b.key/\a.born<b.born){a b:Nat}{x y:MapEntry}(ha:es[a]? =some x)(hb:es[b]? =some y)(hab:a≠b):x.key≠y.key/\x.born≠y.born:=by
 obtain⟨ha1,ha2⟩:=Array.getElem?_eq_some_iff.1 ha
 obtain⟨hb1,hb2⟩:=Array.getElem?_eq_some_iff.1 hb
 rw[List.pairwise_iff_getElem] at h
 rcases Nat.lt_or_gt_of_ne hab with h1|h1
 ·have:=h a b (by simpa using ha1) (by simpa using hb1) h1
  simp only[Array.getElem_toList,ha2,hb2] at this
  exact⟨this.1,by omega⟩
 ·have:=h b a (by simpa using hb1) (by simpa using ha1) h1
  simp only[Array.getElem_toList,ha2,hb2] at this
  exact⟨λe=>this.1 e.symm,by omega⟩
theorem cj{es:Array MapEntry}{c:Nat}{o:Option Obj}(h:o=some (.map es c)):cO o:=λcs t fr e=>by rw[h] at e;cases e
theorem sM{m:Option Nat}{s c:Nat}{q:Array Nat}{o:Option Obj}(h:o=some (.mapIter m s q c)):cO o:=λcs t fr e=>by rw[h] at e;cases e
theorem de{x:Operand}{x':AX}(hx:ax x=some x')(hE:ER σ e a){v:Value}(hv:x'.ev e=some (.cv v)):a.eval x=v:=by
 have:=aM hx hE hv
 cases this
 rfl
theorem cX{x:Operand}{x':AX}(hx:ax x=some x')(hE:ER σ e a){k:IntKind}{i:Int}(hv:x'.ev e=some (.n k i)):a.eval x= .int k i:=by
 have:=aM hx hE hv
 generalize a.eval x=u at this ⊢
 cases this
 rfl
theorem AV.flat_of0{v:AV}(h:v.flat0=true):v.flat=true:=by
 cases v with
 |agg l=>cases h
 |_=>exact h
theorem hY{E:TypeId}{z:AV}(h:nP P E=some z)(w:World):∃u,(zeroValue E).run P w= .ok u w/\z.flat=true/\∀σ:Sg,VR σ z u:=by
 unfold nP at h
 obtain⟨i,hi,h⟩:=Option.bind_eq_some_iff.1 h
 obtain⟨u,hu,h⟩:=Option.bind_eq_some_iff.1 h
 obtain⟨z',hz,h⟩:=Option.bind_eq_some_iff.1 h
 split at h
 ·rename_i hf
  cases h
  exact⟨u,by simp[zeroValue,typeInfo,Sem.run_bind,hi,hu],AV.flat_of0 hf,λσ=>pV hz σ⟩
 ·cases h
section
variable {T K E:TypeId} (hT:P.underlying T=some (.map K E)) (hK:P.underlying K=some (.int .i64))
include hT hK
theorem lM{r:Nat}{es:Array MapEntry}{c:Nat}(hr:w.heap[r]? =some (.map es c))(hi:∀e ∈ es.toList,∃n,e.key= .int .i64 n)(k:Int)(u:Value):
  ((Instr.mapUpdate T (.map (some r)) (.int .i64 k) u).run P w= .ok () {w with heap:=w.heap.setIfInBounds r (.map (es.push (qO k u c)) (c+1))}/\∀e ∈ es.toList,e.key≠ .int .i64 k)\/
  ∃i e,es[i]? =some e/\e.key= .int .i64 k/\(Instr.mapUpdate T (.map (some r)) (.int .i64 k) u).run P w= .ok () {w with heap:=w.heap.setIfInBounds r (.map (es.modify i (kx k u)) c)}:=by
 have hc:MapKept.IsKey (.int .i64) (.int .i64 k):=by simp[MapKept.IsKey]
 rcases gx k es.toList 0 hi with⟨h1,h2⟩|⟨i,e,h1,h2,h3⟩
 ·refine .inl ⟨?_,h2⟩
  simp[Instr.mapUpdate,run_underlying hT,MapKept.run_getObj_map hr,MapKept.run_checkKey hK hc,MapKept.run_findKey hK h1,MapKept.run_setObj_map _ hr,Result.andThen,qO]
 ·rw[Nat.zero_add] at h1
  rw[Array.getElem?_toList] at h2
  refine .inr ⟨i,e,h2,h3,?_⟩
  simp[Instr.mapUpdate,run_underlying hT,MapKept.run_getObj_map hr,MapKept.run_checkKey hK hc,MapKept.run_findKey hK h1,MapKept.run_setObj_map _ hr,Result.andThen,h2,h3,MapKept.run_keyThatStays hc]
  rfl
end
theorem lC.more{ob:Nat->Option OB}{c r:Nat}{x:OB}(h:lC ob c)(hc:c≠r)(hx:∀y,x= .it y->y.m≠c):lC (λr'=>if r'=r then some x else ob r') c:=by
 refine⟨by show(if c=r then _ else _)=none;rw[if_neg hc];exact h.1,λr' y hy=>?_⟩
 have hy:(if r'=r then some x else ob r')=some (.it y):=hy
 by_cases e:r'=r
 ·rw[if_pos e] at hy;cases hy;exact hx y rfl
 ·rw[if_neg e] at hy;exact h.2 r' y hy
theorem lC.turn{ob:Nat->Option OB}{c r:Nat}{x:ga}(h:lC ob c)(hc:c≠r):lC (λr'=>if r'=r then some (.mp x) else(ob r').map OB.clr) c:=by
 refine⟨by show(if c=r then _ else _)=none;rw[if_neg hc,h.1];rfl,λr' y hy=>?_⟩
 have hy:(if r'=r then some (OB.mp x) else(ob r').map OB.clr)=some (.it y):=hy
 by_cases e:r'=r
 ·rw[if_pos e] at hy;cases hy
 ·rw[if_neg e] at hy
  obtain⟨z,hz,hz2⟩:=Option.map_eq_some_iff.1 hy
  cases z with
  |it y0=>cases hz2;exact h.2 r' y0 hz
  |mp x0=>cases hz2
  |fix o=>cases hz2
theorem HR.turnM(h:HR B σ H w){r:Nat}{o:Obj}{ob:Nat->Option OB}{mp:List (Nat×List (Int×AV))}(hB:B<=r)(hr:cO w.heap[r]?)(hob:OM B σ mp ob {w with heap:=w.heap.setIfInBounds r o}):
  HR B σ {H with ob:=ob,mp:=mp} {w with heap:=w.heap.setIfInBounds r o}/\Fr B σ σ H {H with ob:=ob,mp:=mp} w {w with heap:=w.heap.setIfInBounds r o}:=by
 have same:∀c,c≠r->(w.heap.setIfInBounds r o)[c]? =w.heap[c]? :=λc hc=>by rw[Array.getElem?_setIfInBounds_ne (Ne.symm hc)]
 have cel:∀(c:Nat) (cs:Array Value) (t:TypeId) (fr:Nat×Nat),w.heap[c]? =some (Obj.cells cs t fr)->c≠r:=λc cs t fr hc e=>hr _ _ _ (e ▸ hc)
 refine⟨⟨h.new,h.newl,h.old,h.small,by simp;exact h.hB,h.nil,h.nilp,λb x c oc hx hs=>?_,h.szs,h.inj,λc fs hf=>?_,hob⟩,⟨λ_ _=>rfl,σ.le_refl,Nat.le_refl _,Nat.le_refl _,⟨rfl,rfl,rfl,by simp,λc hc=>same c (by omega)⟩,λc hc=>?_,λb c oc hb hs=>by rw[h.new b hb] at hs;cases hs⟩⟩
 ·obtain⟨cs,e1,e2,e3⟩:=h.blk b x c oc hx hs
  exact⟨cs,e1,(same c (cel _ _ _ _ e2)).trans e2,e3⟩
 ·obtain⟨cs,t,fr,e1,e2,e3⟩:=h.frz c fs hf
  exact⟨cs,t,fr,(same c (cel _ _ _ _ e1)).trans e1,e2,e3⟩
 ·by_cases e:c=r
  ·exact .inr (.inr (e ▸ hr))
  ·exact .inl (same c e)
theorem HR.turn(h:HR B σ H w){r:Nat}{o:Obj}{ob:Nat->Option OB}(hB:B<=r)(hr:cO w.heap[r]?)(hob:OR B ob {w with heap:=w.heap.setIfInBounds r o})(hro:H.ob r≠none)(hsub:∀c,lC H.ob c->c≠r->lC ob c):
  HR B σ {H with ob:=ob} {w with heap:=w.heap.setIfInBounds r o}/\Fr B σ σ H {H with ob:=ob} w {w with heap:=w.heap.setIfInBounds r o}:=
 h.turnM hB hr ⟨hob,λb d hb=>by
  obtain⟨c,es,clock,k1,k2,k3,k4,k5⟩:=h.ob.m b d hb
  have hcr:c≠r:=λe=>hro (e ▸ k4.1)
  exact⟨c,es,clock,k1,k2,(Array.getElem?_setIfInBounds_ne (Ne.symm hcr)).trans k3,hsub c k4 hcr,k5⟩,h.ob.i⟩
/-! ### entries by key-/
theorem dT(k:Int)(v:AV)(q:Int):∀d:List (Int×AV),fS (sF d k v) q=if q=k then some v else fS d q
 |[]=>by
  show(if k=q then some v else none)=_
  by_cases e:q=k
  ·rw[if_pos e,if_pos e.symm]
  ·rw[if_neg e,if_neg (λe'=>e e'.symm)];rfl
 |(k',v')::d=>by
  have ih:=dT k v q d
  unfold sF
  by_cases e1:k'=k
  ·rw[if_pos e1]
   subst e1
   show(if k'=q then some v else fS d q)=_
   by_cases e:q=k'
   ·rw[if_pos e,if_pos e.symm]
   ·rw[if_neg e,if_neg (λe'=>e e'.symm)]
    show _=if k'=q then some v' else fS d q
    rw[if_neg (λe'=>e e'.symm)]
  ·rw[if_neg e1]
   show(if k'=q then some v' else fS (sF d k v) q)=if q=k then some v else(if k'=q then some v' else fS d q)
   by_cases e:k'=q
   ·rw[if_pos e,if_pos e,if_neg (λe'=>e1 (e.trans e'))]
   ·rw[if_neg e,if_neg e,ih]
theorem fQ(b:Nat)(d:List (Int×AV))(b':Nat):∀l:List (Nat×List (Int×AV)),bA (fk l b d) b'=if b'=b then some d else bA l b'
 |[]=>by
  show(if b=b' then some d else none)=_
  by_cases e:b'=b
  ·rw[if_pos e,if_pos e.symm]
  ·rw[if_neg e,if_neg (λe'=>e e'.symm)];rfl
 |(b1,d1)::l=>by
  have ih:=fQ b d b' l
  unfold fk
  by_cases e1:b1=b
  ·rw[if_pos e1]
   subst e1
   show(if b1=b' then some d else bA l b')=if b'=b1 then some d else(if b1=b' then some d1 else bA l b')
   by_cases e:b1=b'
   ·rw[if_pos e,if_pos e.symm]
   ·rw[if_neg e,if_neg (λe'=>e e'.symm),if_neg e]
  ·rw[if_neg e1]
   show(if b1=b' then some d1 else bA (fk l b d) b')=if b'=b then some d else(if b1=b' then some d1 else bA l b')
   by_cases e:b1=b'
   ·rw[if_pos e,if_pos e,if_neg (λe'=>e1 (e.trans e'))]
   ·rw[if_neg e,if_neg e,ih]
theorem MD.int{d:List (Int×AV)}{es:Array MapEntry}{c:Nat}(h:MD σ d es c):∀e ∈ es.toList,∃n,e.key= .int .i64 n:=λe he=>by
 obtain⟨_,k,v,h1,_⟩:=h.ent e he
 exact⟨k,h1⟩
theorem MD.miss{d:List (Int×AV)}{es:Array MapEntry}{c:Nat}(h:MD σ d es c){k:Int}(hk:∀e ∈ es.toList,e.key≠ .int .i64 k):fS d k=none:=by
 cases hx:fS d k with
 |none=>rfl
 |some v=>
  obtain⟨e,h1,h2⟩:=h.dom k v hx
  exact absurd h2 (hk e h1)
theorem MD.hit{d:List (Int×AV)}{es:Array MapEntry}{c:Nat}(h:MD σ d es c){e:MapEntry}(he:e ∈ es.toList){k:Int}(hk:e.key= .int .i64 k):∃v,fS d k=some v/\VR σ v e.val:=by
 obtain⟨_,k',v,h1,h2,h3⟩:=h.ent e he
 rw[hk] at h1
 cases h1
 exact⟨v,h2,h3⟩
theorem MD.push{d:List (Int×AV)}{es:Array MapEntry}{c:Nat}(h:MD σ d es c){k:Int}(hk:∀e ∈ es.toList,e.key≠ .int .i64 k){v:AV}{u:Value}(hu:VR σ v u):MD σ (sF d k v) (es.push (qO k u c)) (c+1):=by
 refine⟨λe he=>?_,λq y hq=>?_,?_⟩
 ·rw[Array.toList_push] at he
  rcases List.mem_append.1 he with he|he
  ·obtain⟨h0,q,y,h1,h2,h3⟩:=h.ent e he
   refine⟨by omega,q,y,h1,?_,h3⟩
   rw[dT,if_neg (λe'=>hk e he (by rw[h1,e']))];exact h2
  ·rw[List.mem_singleton.1 he]
   exact⟨Nat.lt_succ_self c,k,v,rfl,by rw[dT,if_pos rfl],hu⟩
 ·rw[dT] at hq
  rw[Array.toList_push]
  by_cases e:q=k
  ·subst e
   exact⟨_,List.mem_append_right _ (List.mem_singleton.2 rfl),rfl⟩
  ·rw[if_neg e] at hq
   obtain⟨e0,h1,h2⟩:=h.dom q y hq
   exact⟨e0,List.mem_append_left _ h1,h2⟩
 ·rw[Array.toList_push,List.pairwise_append]
  refine⟨h.one,List.pairwise_singleton _ _,λa ha b hb=>?_⟩
  rw[List.mem_singleton.1 hb]
  exact⟨hk a ha,(h.ent a ha).1⟩
theorem MD.modify{d:List (Int×AV)}{es:Array MapEntry}{c:Nat}(h:MD σ d es c){k:Int}{i:Nat}{e0:MapEntry}(h0:es[i]? =some e0)(hk:e0.key= .int .i64 k){v:AV}{u:Value}(hu:VR σ v u):MD σ (sF d k v) (es.modify i (kx k u)) c:=by
 have hm:=iU (u:=u) h0 hk
 have he0:e0 ∈ es.toList:=List.mem_of_getElem? (by rw[Array.getElem?_toList];exact h0)
 refine⟨λe he=>?_,λq y hq=>?_,?_⟩
 ·rcases yr he with⟨e1,q1,rfl⟩|⟨j,hj,q1⟩
  ·rw[h0] at q1
   cases q1
   exact⟨(h.ent e0 he0).1,k,v,rfl,by rw[dT,if_pos rfl],hu⟩
  ·have he':e ∈ es.toList:=List.mem_of_getElem? (by rw[Array.getElem?_toList];exact q1)
   obtain⟨hb,q,y,h1,h2,h3⟩:=h.ent e he'
   refine⟨hb,q,y,h1,?_,h3⟩
   rw[dT,if_neg (λe'=>(jP h.one q1 h0 hj).1 (by rw[h1,hk,e']))];exact h2
 ·rw[dT] at hq
  by_cases e:q=k
  ·subst e
   obtain⟨e',a1,a2,_⟩:=d8 hm he0
   exact⟨e',a1,by rw[a2,hk]⟩
  ·rw[if_neg e] at hq
   obtain⟨e1,h1,h2⟩:=h.dom q y hq
   obtain⟨e',a1,a2,_⟩:=d8 hm h1
   exact⟨e',a1,by rw[a2,h2]⟩
 ·have:=(List.pairwise_map (f:=λe:MapEntry=>(e.key,e.born)) (R:=λa b=>a.1≠b.1/\a.2<b.2) (l:=es.toList)).2 h.one
  rw[<-hm] at this
  exact List.pairwise_map.1 this
theorem HR.mkMap(h:HR B σ H w)(hnx:H.next+1<2^40):
  HR B (σ.ext H.next (w.heap.size,none)) {H with next:=H.next+1,mp:=fk H.mp H.next []} (w.alloc (.map #[] 0))/\Fr B σ (σ.ext H.next (w.heap.size,none)) H {H with next:=H.next+1,mp:=fk H.mp H.next []} w (w.alloc (.map #[] 0)):=by
 have hnew:σ H.next=none:=h.new _ (Nat.le_refl _)
 have hle:σ.le (σ.ext H.next (w.heap.size,none)):=Sg.le_ext hnew
 have old:∀c,c<w.heap.size->(w.alloc (.map #[] 0)).heap[c]? =w.heap[c]? :=λc hc=>Below.heap_alloc _ _ _ hc
 have hself:(w.alloc (.map #[] 0)).heap[w.heap.size]? =some (.map #[] 0):=heap_alloc_new w _
 have hne:∀{b x},H.at b=some x->b≠H.next:=λhx=>Nat.ne_of_lt (AH.at_lt h hx)
 have hmn:∀{b d},bA H.mp b=some d->b≠H.next:=λ{b d} hb e=>by
  obtain⟨c,_,_,k1,_⟩:=h.ob.m b d hb
  rw[e,hnew] at k1;cases k1
 refine⟨⟨λb hb=>?_,λb hb=>h.newl b (Nat.le_of_succ_le hb),λb hb=>h.old b (Nat.le_of_succ_le hb),hnx,by simp;have:=h.hB;omega,λb x hx hs=>?_,λb hb=>?_,λb x c oc hx hs=>?_,h.szs,λb b' x x' c o o' k1 k2 k3 k4=>?_,λc fs hf=>?_,?_⟩,λb hb=>Sg.ext_ne _ _ (Nat.ne_of_lt hb),hle,Nat.le_succ _,Nat.le_refl _,(Below.refl _ _).alloc h.hB _,λc hc=> .inl (old c hc),λb c oc hb hs hc=>?_⟩
 ·have hb:H.next+1<=b:=hb
  rw[Sg.ext_ne _ _ (by omega)];exact h.new b (by omega)
 ·rw[Sg.ext_ne _ _ (hne hx)] at hs;exact h.nil b x hx hs
 ·have hb:σ.nl b:=hb
  have:b≠H.next:=λe=>h.newl b (by omega) hb
  rw[Sg.ext_ne _ _ this];exact h.nilp b hb
 ·rw[Sg.ext_ne _ _ (hne hx)] at hs
  obtain⟨cs,e1,e2,e3⟩:=h.blk b x c oc hx hs
  exact⟨cs,e1,(old c (Array.getElem?_eq_some_iff.1 e2).1).trans e2,e3.mono hle⟩
 ·rw[Sg.ext_ne _ _ (hne k1)] at k3
  rw[Sg.ext_ne _ _ (hne k2)] at k4
  exact h.inj b b' x x' c o o' k1 k2 k3 k4
 ·obtain⟨cs,t,fr,e1,e2,e3⟩:=h.frz c fs hf
  refine⟨cs,t,fr,(old c (Array.getElem?_eq_some_iff.1 e1).1).trans e1,e2,λb x o hx hs=>?_⟩
  rw[Sg.ext_ne _ _ (hne hx)] at hs
  exact e3 b x o hx hs
 ·have hk:=(h.ob.keep λr hr _=>old r hr).mono hle
  have hsz:∀{b d c o},bA H.mp b=some d->(σ.ext H.next (w.heap.size,none)).nm b=some (c,o)->c<w.heap.size:=λ{b d c o} hb hs=>by
   obtain⟨c',es,clock,k1,k2,k3,_⟩:=h.ob.m b d hb
   have e2:(σ.ext H.next (w.heap.size,none)).nm b=some (c',none):=hle.nm _ _ k1
   rw[e2] at hs
   cases hs
   exact(Array.getElem?_eq_some_iff.1 k3).1
  refine⟨hk.o,λb d hb=>?_,λb b' d d' c o o' k1 k2 k3 k4=>?_⟩
  ·have hb:bA (fk H.mp H.next []) b=some d:=hb
   rw[fQ] at hb
   by_cases e:b=H.next
   ·rw[if_pos e] at hb
    cases hb
    subst e
    exact⟨w.heap.size,#[],0,Sg.ext_self _ _ _,h.hB,hself,⟨h.ob.o.free,λr y hy em=>by
     obtain⟨_,_,_,_,_,_,_,q,_⟩:=h.ob.o r _ hy
     have:=(Array.getElem?_eq_some_iff.1 q).1
     omega⟩,⟨λe he=>(by simp at he),λk v hk=>(by cases hk),by simp⟩⟩
   ·rw[if_neg e] at hb
    exact hk.m b d hb
  ·have k1:bA (fk H.mp H.next []) b=some d:=k1
   have k2:bA (fk H.mp H.next []) b'=some d':=k2
   rw[fQ] at k1 k2
   by_cases e:b=H.next
   ·by_cases e':b'=H.next
    ·rw[e,e']
    ·rw[if_neg e'] at k2
     have:=hsz k2 k4
     rw[e,Sg.ext_self] at k3
     cases k3
     omega
   ·rw[if_neg e] at k1
    by_cases e':b'=H.next
    ·have:=hsz k1 k3
     rw[e',Sg.ext_self] at k4
     cases k4
     omega
    ·rw[if_neg e'] at k2
     exact hk.i b b' d d' c o o' k1 k2 k3 k4
 ·have hb:H.next<=b:=hb
  by_cases e:b=H.next
  ·rw[e,Sg.ext_self] at hs
   cases hs
   exact absurd hc (Nat.lt_irrefl _)
  ·rw[Sg.ext_ne _ _ e,h.new b hb] at hs;cases hs
theorem HR.putMap(h:HR B σ H w){b c:Nat}{d d':List (Int×AV)}{es es':Array MapEntry}{k k':Nat}(hb:bA H.mp b=some d)(hs:σ.nm b=some (c,none))(hBc:B<=c)(hw:w.heap[c]? =some (.map es k))(ho:lC H.ob c)(hm:MD σ d' es' k'):
  HR B σ {H with mp:=fk H.mp b d'} {w with heap:=w.heap.setIfInBounds c (.map es' k')}/\Fr B σ σ H {H with mp:=fk H.mp b d'} w {w with heap:=w.heap.setIfInBounds c (.map es' k')}:=by
 have hlt:=(Array.getElem?_eq_some_iff.1 hw).1
 have same:∀r,r≠c->(w.heap.setIfInBounds c (.map es' k'))[r]? =w.heap[r]? :=λr hr=>Array.getElem?_setIfInBounds_ne (Ne.symm hr)
 refine h.turnM (ob:=H.ob) hBc (cj hw) ⟨λr x hx=>?_,λb' y hb'=>?_,λb1 b2 d1 d2 c1 o1 o2 k1 k2 k3 k4=>?_⟩
 ·have h1:=h.ob.o r x hx
  have hrc:r≠c:=λe=>by rw[e,ho.1] at hx;cases hx
  cases x with
  |mp x=>
   obtain⟨q,es1,c1,h2,h3⟩:=h1
   exact⟨q,es1,c1,(same r hrc).trans h2,h3⟩
  |it y=>
   obtain⟨q,since,seen,last,es1,c1,h2,h3,h4,h5⟩:=h1
   exact⟨q,since,seen,last,es1,c1,(same r hrc).trans h2,(same _ (ho.2 r y hx)).trans h3,h4,h5⟩
  |fix o=>exact⟨h1.1,(same r hrc).trans h1.2.1,h1.2.2⟩
 ·rw[fQ] at hb'
  by_cases e:b'=b
  ·rw[if_pos e] at hb'
   cases hb'
   subst e
   exact⟨c,es',k',hs,hBc,Array.getElem?_setIfInBounds_self_of_lt hlt,ho,hm⟩
  ·rw[if_neg e] at hb'
   obtain⟨c',es1,k1,p1,p2,p3,p4,p5⟩:=h.ob.m b' y hb'
   have hcc:c'≠c:=λe'=>e (h.ob.i b' b y d c _ _ hb' hb (e' ▸ p1) hs)
   exact⟨c',es1,k1,p1,p2,(same c' hcc).trans p3,p4,p5⟩
 ·have key:∀{x y},bA (fk H.mp b d') x=some y->∃z,bA H.mp x=some z:=λ{x y} hx=>by
   rw[fQ] at hx
   by_cases e:x=b
   ·exact⟨d,e ▸ hb⟩
   ·rw[if_neg e] at hx;exact⟨y,hx⟩
  obtain⟨z1,q1⟩:=key k1
  obtain⟨z2,q2⟩:=key k2
  exact h.ob.i b1 b2 z1 z2 c1 o1 o2 q1 q2 k3 k4
end
/-! ### running-/
def Kv(ok:Bool)(v:AV)(b:Bool):AV:=if ok=true then .tup [v,.b b] else v
def Wm(H:AH)(z:AV)(ok:Bool)(b:Nat)(i:Int):Option (AV×AH):=match bA H.mp b with
 |some d=>match fS d i with
  |some v=>some (Kv ok v true,H)
  |none=>some (Kv ok z false,H)
 |none=>none
def o6:AV->Option (Nat×Nat×Nat)
 |.sl b o n _=>some (b,o,n)
 |.os b n=>some (b,0,n)
 |_=>none
def wL(H:AH)(esz:Nat):Option (Nat×Nat×Nat)->Option (Nat×Nat×Nat)->Option (AV×AH)
 |some (b,o,n),some (b2,o2,n2)=>if Nat.min n2 n=0 then some (.n .i64 0,H) else if 0<esz then match H.loadN b2 o2 (Nat.min n2 n*esz) with
  |some l=>if l.all AV.one=true then(H.storeN b o l).map (.n .i64 (Nat.min n2 n:Nat),·) else none
  |none=>none
  else none
 |_,_=>none
def MO.run(e:Tr AV)(H:AH):MO->Option (AV×AH)
 |.mm=>if H.next+1<2^40 then some (.mh H.next,{H with next:=H.next+1,mp:=fk H.mp H.next []}) else none
 |.lk z ok x k=>match x.ev e,k.ev e with
  |some (.mh b),some (.n .i64 i)=>Wm H z ok b i
  |_,_=>none
 |.lz z ok x k=>match x.ev e,k.ev e with
  |some (.mh b),some (.n .i64 i)=>Wm H z ok b i
  |_,_=>none
 |.mu m k v=>match m.ev e,k.ev e,v.ev e with
  |some (.mh b),some (.n .i64 i),some v=>match bA H.mp b with
   |some d=>some (.u,{H with mp:=fk H.mp b (sF d i v)})
   |none=>none
  |_,_,_=>none
 |.mx x y=>match x.ev e,y.ev e with
  |some (.n k i),some (.n k' j)=>if k=k' then some (.n k (if i<j then j else i),H) else none
  |_,_=>none
 |.mi x y=>match x.ev e,y.ev e with
  |some (.n k i),some (.n k' j)=>if k=k' then some (.n k (if j<i then j else i),H) else none
  |_,_=>none
 |.cp esz x y=>wL H esz ((x.ev e).bind o6) ((y.ev e).bind o6)
 |_=>none
theorem qR{σ:Sg}:∀{l:List Value} {r:List AV},l.mapM oG=some r->aX σ r l
 |[],r,h=>by simp at h;subst h;exact .nil
 |v::l,r,h=>by
  simp only[List.mapM_cons,Option.bind_eq_bind,Option.bind_eq_some_iff,Option.pure_def,Option.some.injEq] at h
  obtain⟨a,h1,rs,h2,rfl⟩:=h
  exact .cons (pV h1 σ) (qR h2)
section
variable {P:Program} {B:Nat} {σ:Sg} {e:Tr AV} {a:Act} {H H':AH} {w:World} {o:Oper} {v:AV} {Q:Exit->Act->World->Prop}
theorem nY{E:TypeId}{z:AV}(h:xo P E=some z)(w:World):∃u,(zeroValue E).run P w= .ok u w/\∀σ:Sg,VR σ z u:=by
 unfold xo at h
 obtain⟨i,hi,h⟩:=Option.bind_eq_some_iff.1 h
 obtain⟨u,hu,h⟩:=Option.bind_eq_some_iff.1 h
 split at h
 ·rename_i cs
  obtain⟨l,hl,rfl⟩:=Option.map_eq_some_iff.1 h
  exact⟨.agg cs,by simp[zeroValue,typeInfo,Sem.run_bind,hi,hu],λσ=>by simpa using(qR (σ:=σ) hl).agg⟩
 ·cases h
theorem uC{x:Operand}{x':AX}(hx:ax x=some x')(hE:ER σ e a){b:Nat}(hv:x'.ev e=some (.mh b)):∃c,σ.nm b=some (c,none)/\a.eval x= .map (some c):=by
 have:=aM hx hE hv
 generalize a.eval x=u at this ⊢
 cases this with
 |mh h=>exact⟨_,h,rfl⟩
theorem yO{T K E:TypeId}(hT:P.underlying T=some (.map K E))(hK:P.underlying K=some (.int .i64)){x k:Operand}{x' k':AX}{ok:Bool}(ho:o.op= .lookup T x k ok)(hx:ax x=some x')(hk:ax k=some k')(hE:ER σ e a)(h:HR B σ H w)
  {z:AV} {zu:Value} (hz1:(zeroValue E).run P w= .ok zu w) (hz2:∀σ:Sg,VR σ z zu) {b:Nat} {i:Int} (h1:x'.ev e=some (.mh b)) (h2:k'.ev e=some (.n .i64 i)) (hr:Wm H z ok b i=some (v,H')) {next:Act->World->Prop}
  (hn:∀u w' σ',VR σ' v u->HR B σ' H' w'->Fr B σ σ' H H' w w'->next (a.put o.dst u) w'):o.wp P a w next Q:=by
 have ret:∀(v:AV) (u:Value) (b:Bool),VR σ v u->VR σ (Kv ok v b) (if ok=true then .tuple #[u,.bool b] else u):=λv u b hu=>by
  unfold Kv
  cases ok
  ·exact hu
  ·exact((aX.nil.cons (.b b)).cons hu).tup
 obtain⟨c,hs,e1⟩:=uC hx hE h1
 have e2:=cX hk hE h2
 unfold Wm at hr
 split at hr
 rotate_left
 ·cases hr
 rename_i d hd
 obtain⟨c',es,clock,k1,k2,k3,k4,k5⟩:=h.ob.m b d hd
 rw[hs] at k1
 cases k1
 unfold Oper.wp execOp
 rw[ho]
 rcases jK hT hK k3 k5.int i ok hz1 with⟨q1,q2⟩|⟨e0,q1,q2,q3⟩
 ·simp only[e1,e2,q1,Sem.run_bind,Result.andThen_ok,Sem.run_pure,Oper.upon]
  rw[k5.miss q2] at hr
  cases hr
  exact hn _ _ _ (ret _ _ _ (hz2 σ)) h (Fr.refl h)
 ·simp only[e1,e2,q3,Sem.run_bind,Result.andThen_ok,Sem.run_pure,Oper.upon]
  obtain⟨v,p1,p2⟩:=k5.hit q1 q2
  rw[p1] at hr
  cases hr
  exact hn _ _ _ (ret _ _ _ p2) h (Fr.refl h)
theorem xD{v:AV}{u:Value}{b off n:Nat}(h:VR σ v u)(hv:o6 v=some (b,off,n)):∃ad cap,u= .slice ad n cap/\(n=0\/∃c oc,ad=some ⟨c,off,none⟩/\σ.nm b=some (c,oc)):=by
 cases h with
 |sl hh=>cases hv;exact⟨_,_,rfl,.inr ⟨_,_,rfl,hh⟩⟩
 |slo hh hc h0=>cases hv;exact⟨_,_,rfl,.inr ⟨_,_,rfl,hh⟩⟩
 |os0 hh a=>cases hv;exact⟨_,_,rfl,.inl rfl⟩
 |os hh hl=>cases hv;exact⟨_,_,rfl,.inr ⟨_,_,rfl,hh⟩⟩
 |_=>cases hv
theorem z7{t t' el:TypeId}{i:TypeInfo}{x y:Operand}{x' y':AX}(ho:o.op= .call ⟨.builtin .copy,⟨[x,y]⟩,⟨[t,t']⟩⟩)(ht:P.underlying t=some (.slice el))(hi:P.info? el=some i)(hx:ax x=some x')(hy:ax y=some y')(hE:ER σ e a)(h:HR B σ H w)
  (hr:wL H i.size ((x'.ev e).bind o6) ((y'.ev e).bind o6)=some (v,H')) {next:Act->World->Prop} (hn:∀u w',VR σ v u->HR B σ H' w'->Fr B σ σ H H' w w'->next (a.put o.dst u) w'):o.wp P a w next Q:=by
 unfold wL at hr
 split at hr
 rotate_left
 ·cases hr
 rename_i b off n b2 off2 n2 h1 h2
 obtain⟨dv,h1,h1'⟩:=Option.bind_eq_some_iff.1 h1
 obtain⟨sv,h2,h2'⟩:=Option.bind_eq_some_iff.1 h2
 obtain⟨ad,cap,e1,q1⟩:=xD (aM hx hE h1) h1'
 obtain⟨ad2,cap2,e2,q2⟩:=xD (aM hy hE h2) h2'
 have hsz:∀w:World,(sizeOf el).run P w= .ok i.size w:=λw=>by simp[sizeOf,typeInfo,Sem.run_bind,hi]
 have fin:∀(w':World) (m:Nat),(Builtin.copy_ #[t,t'] o.type #[Value.slice ad n cap,Value.slice ad2 n2 cap2]).run P w= .ok (.int .i64 m) w'->v= .n .i64 m->HR B σ H' w'->Fr B σ σ H H' w w'->o.wp P a w next Q:=by
  intro w' m hb hv hH hF
  subst hv
  unfold Oper.wp execOp
  rw[ho]
  simp only[resolve,invoke,builtin,Sem.run_bind,Sem.run_pure,Result.andThen_ok,List.map_toArray,List.map_cons,List.map_nil,e1,e2,hb,Oper.upon]
  exact hn _ _ (.n _ _) hH hF
 split at hr
 ·rename_i h0
  cases hr
  refine fin w 0 ?_ rfl h (Fr.refl h)
  cases ad<;>cases ad2<;>simp[Builtin.copy_,run_underlying ht,Builtin.lenOf,hsz,h0,Builtin.firstCells,loadCells,loadCellsFrom,storeCells,goInt,Result.andThen]
 rename_i h0
 split at hr
 rotate_left
 ·cases hr
 rename_i hez
 split at hr
 rotate_left
 ·cases hr
 rename_i l hl
 split at hr
 rotate_left
 ·cases hr
 rename_i hone
 obtain⟨H1,hs,he⟩:=Option.map_eq_some_iff.1 hr
 cases he
 have hm0:0<Nat.min n2 n*i.size:=Nat.mul_pos (Nat.pos_of_ne_zero h0) hez
 have hn1:n≠0:=λe=>h0 (by rw[e];exact Nat.min_zero _)
 have hn2:n2≠0:=λe=>h0 (by rw[e];exact Nat.zero_min _)
 obtain⟨c,oc,rfl,hc⟩:=q1.resolve_left hn1
 obtain⟨c2,oc2,rfl,hc2⟩:=q2.resolve_left hn2
 obtain⟨c3,o3,cs,k1,k2,k3,k4,k5⟩:=h.loadN _ _ _ hl hm0
 have k1:σ.nm b2=some (c3,o3):=k1
 rw[hc2] at k1
 cases k1
 have hcl:cs.length=Nat.min n2 n*i.size:=k3.1.symm.trans k4
 have hload:(loadCells ⟨c2,off2,none⟩ (Nat.min n2 n*i.size)).run P w= .ok cs.toArray w:=by
  rw[<-hcl]
  refine run_loadCells_list w _ cs (λj u hj=>?_)
  have hjl:j<cs.length:=by
   rcases Nat.lt_or_ge j cs.length with h'|h'
   ·exact h'
   ·rw[List.getElem?_eq_none h'] at hj;cases hj
  rw[Addr.add_mid,k5 j (by omega)];exact hj
 obtain⟨c4,oc4,p1,p2,p3,p4⟩:=HR.storeN _ h hs k3 (by omega)
 have p1:σ.nm b=some (c4,oc4):=p1
 rw[hc] at p1
 cases p1
 have hst:=run_storeCells_cells (P:=P) c off cs 0 w (λj hj=>by rw[Nat.add_zero];exact(p2 j hj).1) (λj hj=>by rw[Nat.add_zero];exact(p2 j hj).2) (k3.one hone)
 rw[Nat.add_zero] at hst
 refine fin (w.setCells c off cs) (Nat.min n2 n) ?_ rfl p3 p4
 simp[Builtin.copy_,run_underlying ht,Builtin.lenOf,hsz,Builtin.firstCells,hload,hst,goInt,Result.andThen]
theorem vD{m:MO}(hm:pn P o.op=some m)(hE:ER σ e a)(h:HR B σ H w)(hr:m.run e H=some (v,H')){next:Act->World->Prop}
  (hn:∀u w' σ',VR σ' v u->HR B σ' H' w'->Fr B σ σ' H H' w w'->next (a.put o.dst u) w'):o.wp P a w next Q:=by
 unfold pn at hm
 split at hm
 ·rename_i t ho
  cases hm
  simp only[MO.run] at hr
  split at hr
  rotate_left
  ·cases hr
  rename_i hnx
  cases hr
  obtain⟨h1,h2⟩:=h.mkMap hnx
  unfold Oper.wp execOp
  rw[ho]
  simp only[Option.map_none,run_makeMap,Sem.run_bind,Result.andThen_ok,Sem.run_pure,Oper.upon]
  exact hn _ _ _ (.mh (Sg.ext_self _ _ _)) h1 h2
 ·rename_i t x k ok ho
  obtain⟨E,hE',hm⟩:=Option.bind_eq_some_iff.1 hm
  obtain⟨x',hx,hm⟩:=Option.bind_eq_some_iff.1 hm
  obtain⟨k',hk,hm⟩:=Option.bind_eq_some_iff.1 hm
  obtain⟨K,hT,hK⟩:=c9 hE'
  split at hm
  ·rename_i z hz
   cases hm
   obtain⟨zu,hz1,hz2,hz3⟩:=hY hz w
   simp only[MO.run] at hr
   split at hr
   rotate_left
   ·cases hr
   rename_i b i h1 h2
   exact yO hT hK ho hx hk hE h hz1 hz3 h1 h2 hr hn
  ·obtain⟨z,hz,rfl⟩:=Option.map_eq_some_iff.1 hm
   obtain⟨zu,hz1,hz3⟩:=nY hz w
   simp only[MO.run] at hr
   split at hr
   rotate_left
   ·cases hr
   rename_i b i h1 h2
   exact yO hT hK ho hx hk hE h hz1 hz3 h1 h2 hr hn
 ·rename_i t x k v0 ho
  obtain⟨E,hE',hm⟩:=Option.bind_eq_some_iff.1 hm
  obtain⟨x',hx,hm⟩:=Option.bind_eq_some_iff.1 hm
  obtain⟨k',hk,hm⟩:=Option.bind_eq_some_iff.1 hm
  obtain⟨v',hv,rfl⟩:=Option.map_eq_some_iff.1 hm
  obtain⟨K,hT,hK⟩:=c9 hE'
  simp only[MO.run] at hr
  split at hr
  rotate_left
  ·cases hr
  rename_i b i vv h1 h2 h3
  split at hr
  rotate_left
  ·cases hr
  rename_i d hd
  cases hr
  obtain⟨c,hs,e1⟩:=uC hx hE h1
  have e2:=cX hk hE h2
  have e3:=aM hv hE h3
  obtain⟨c',es,clock,k1,k2,k3,k4,k5⟩:=h.ob.m b d hd
  rw[hs] at k1
  cases k1
  unfold Oper.wp execOp
  rw[ho]
  rcases lM hT hK k3 k5.int i (a.eval v0) with⟨q1,q2⟩|⟨j,e0,q1,q2,q3⟩
  ·obtain⟨p1,p2⟩:=h.putMap hd hs k2 k3 k4 (k5.push q2 e3)
   simp only[e1,e2,q1,Sem.run_bind,Result.andThen_ok,Sem.run_pure,Oper.upon]
   exact hn _ _ _ (.u _) p1 p2
  ·obtain⟨p1,p2⟩:=h.putMap hd hs k2 k3 k4 (k5.modify q1 q2 e3)
   simp only[e1,e2,q3,Sem.run_bind,Result.andThen_ok,Sem.run_pure,Oper.upon]
   exact hn _ _ _ (.u _) p1 p2
 ·rename_i t x k v0 ho
  obtain⟨E,hE',hm⟩:=Option.bind_eq_some_iff.1 hm
  obtain⟨x',hx,hm⟩:=Option.bind_eq_some_iff.1 hm
  obtain⟨k',hk,hm⟩:=Option.bind_eq_some_iff.1 hm
  obtain⟨v',hv,rfl⟩:=Option.map_eq_some_iff.1 hm
  obtain⟨K,hT,hK⟩:=c9 hE'
  simp only[MO.run] at hr
  split at hr
  rotate_left
  ·cases hr
  rename_i b i vv h1 h2 h3
  split at hr
  rotate_left
  ·cases hr
  rename_i d hd
  cases hr
  obtain⟨c,hs,e1⟩:=uC hx hE h1
  have e2:=cX hk hE h2
  have e3:=aM hv hE h3
  obtain⟨c',es,clock,k1,k2,k3,k4,k5⟩:=h.ob.m b d hd
  rw[hs] at k1
  cases k1
  unfold Oper.wp execOp
  rw[ho]
  rcases lM hT hK k3 k5.int i (a.eval v0) with⟨q1,q2⟩|⟨j,e0,q1,q2,q3⟩
  ·obtain⟨p1,p2⟩:=h.putMap hd hs k2 k3 k4 (k5.push q2 e3)
   simp only[e1,e2,q1,Sem.run_bind,Result.andThen_ok,Sem.run_pure,Oper.upon]
   exact hn _ _ _ (.u _) p1 p2
  ·obtain⟨p1,p2⟩:=h.putMap hd hs k2 k3 k4 (k5.modify q1 q2 e3)
   simp only[e1,e2,q3,Sem.run_bind,Result.andThen_ok,Sem.run_pure,Oper.upon]
   exact hn _ _ _ (.u _) p1 p2
 rotate_right
 all_goals try (first
  |(split at hm
    ·rename_i x y t t' ho _ _ el el' e1 e2
     obtain⟨i,hi,hm⟩:=Option.bind_eq_some_iff.1 hm
     obtain⟨x',hx,hm⟩:=Option.bind_eq_some_iff.1 hm
     obtain⟨y',hy,rfl⟩:=Option.map_eq_some_iff.1 hm
     exact z7 ho e1 hi hx hy hE h hr (λu w'=>hn u w' σ)
    ·cases hm
    done)
  |(obtain⟨_,_,hm⟩:=Option.bind_eq_some_iff.1 hm;obtain⟨_,_,hm⟩:=Option.bind_eq_some_iff.1 hm;obtain⟨_,_,hm⟩:=Option.bind_eq_some_iff.1 hm;obtain⟨_,_,rfl⟩:=Option.map_eq_some_iff.1 hm;cases hr;done)
  |(obtain⟨_,_,hm⟩:=Option.bind_eq_some_iff.1 hm;obtain⟨_,_,hm⟩:=Option.bind_eq_some_iff.1 hm;obtain⟨_,_,rfl⟩:=Option.map_eq_some_iff.1 hm;cases hr;done)
  |(obtain⟨_,_,hm⟩:=Option.bind_eq_some_iff.1 hm;obtain⟨_,_,rfl⟩:=Option.map_eq_some_iff.1 hm;cases hr;done)
  |(obtain⟨_,_,rfl⟩:=Option.map_eq_some_iff.1 hm;cases hr;done)
  |(cases hm;done))
 all_goals
  rename_i x y ats ho
  obtain⟨x',hx,hm⟩:=Option.bind_eq_some_iff.1 hm
  obtain⟨y',hy,rfl⟩:=Option.map_eq_some_iff.1 hm
  simp only[MO.run] at hr
  split at hr
  rotate_left
  ·cases hr
  rename_i k i k2 j h1 h2
  split at hr
  rotate_left
  ·cases hr
  rename_i hkk
  subst hkk
  cases hr
  have e1:=cX hx hE h1
  have e2:=cX hy hE h2
  first
   |have hb:(Builtin.max_ ats o.type #[Value.int k i,Value.int k j]).run P w= .ok (.int k (if i<j then j else i)) w:=by
     simp[Builtin.max_,Builtin.max2,List.foldlM]
    unfold Oper.wp execOp
    rw[ho]
    simp only[resolve,invoke,builtin,Sem.run_bind,Sem.run_pure,Result.andThen_ok,List.map_toArray,List.map_cons,List.map_nil,e1,e2,hb,Oper.upon]
    exact hn _ _ _ (.n k _) h (Fr.refl h)
   |have hb:(Builtin.min_ ats o.type #[Value.int k i,Value.int k j]).run P w= .ok (.int k (if j<i then j else i)) w:=by
     simp[Builtin.min_,Builtin.min2,List.foldlM]
    unfold Oper.wp execOp
    rw[ho]
    simp only[resolve,invoke,builtin,Sem.run_bind,Sem.run_pure,Result.andThen_ok,List.map_toArray,List.map_cons,List.map_nil,e1,e2,hb,Oper.upon]
    exact hn _ _ _ (.n k _) h (Fr.refl h)
end
end Go.Proofs.YtdpkgnmmikebdaaGreat
namespace Go.Proofs.YtdpkgnmmikebdaaGreat
open Go.RowKit
inductive AK where
 |ap (x:AP)
 |cl (f:AX) (args:List AX)
 |sn (neg:Bool) (x:AX)
 |mo (x:MO)
structure AO where
 dst:Option Nat
 gd:Option (Nat×Bool)
 k:AK
abbrev dE:=FuncId->List AV->AH->Option (AV×AH)
def AK.run(call:dE)(e:Tr AV)(H:AH):AK->Option (AV×AH)
 |.ap x=>x.run e H
 |.cl f args=>match f.ev e,sf e args with
  |some (.f g first cap),some vs=>call g (first++vs++cap) H
  |_,_=>none
 |.sn neg x=>match x.ev e with
  |some (.sl _ _ _ _)=>some (.b neg,H)
  |some (.os _ (_+1))=>some (.b neg,H)
  |some (.fs _ (_+1) _)=>some (.b neg,H)
  |_=>none
 |.mo x=>x.run e H
def bn(e:Tr AV):Option (Nat×Bool)->Option Bool
 |none=>some true
 |some (d,w)=>match e.get d with
  |some (.b b)=>some (b==w)
  |some (.tup _)=>some false
  |_=>none
def aK(e:Tr AV)(d:Option Nat)(v:AV):Tr AV:=match d with
 |some d=>Tr.set 48 e d v
 |none=>e
def WG(n:Nat):Option Nat->Bool
 |none=>true
 |some d=>decide (d<n)
def Co(ops:Array Oper):Option (Nat×Bool)->Option (Option (Nat×Bool))
 |none=>some none
 |some (j,w)=>match(ops[j]?).bind (·.dst) with
  |some d=>some (some (d,w))
  |none=>none
def sB(P:Program)(op:BinOp)(t:TypeId)(y:Operand):Option Bool:=match P.underlying t,y,op with
 |some (.slice _),.const (.slice none 0 0),.eql=>some false
 |some (.slice _),.const (.slice none 0 0),.neq=>some true
 |_,_,_=>none
def kn(P:Program)(o:Op):Option AK:=match o with
 |.binOp op t x y t'=>match sB P op t y with
  |some neg=>(ax x).map (.sn neg ·)
  |none=>(iJ P (.binOp op t x y t')).map .ap
 |.call c=>match c.callee with
  |.value f=>(ax f).bind λf=>(c.args.toList.mapM ax).map λl=> .cl f l
  |_=>(iJ P (.call c)).map .ap
 |o=>(iJ P o).map .ap
def fY(P:Program)(o:Op):Option AK:=match pn P o with
 |some m=>some (.mo m)
 |none=>kn P o
def gS(P:Program)(n:Nat)(ops:Array Oper)(o:Oper):Option AO:=
 if WG n o.dst=true then(Co ops o.guard).bind λg=>(fY P o.op).map λk=>⟨o.dst,g,k⟩ else none
def dK(P:Program)(n:Nat)(ops:Array Oper):List Oper->Option (List AO)
 |[]=>some []
 |o::l=>(gS P n ops o).bind λx=>(dK P n ops l).map λr=>x::r
def gl(call:dE):List AO->Tr AV->AH->Option (Tr AV×AH)
 |[],e,H=>some (e,H)
 |o::l,e,H=>match bn e o.gd with
  |some true=>match o.k.run call e H with
   |some (v,H')=>gl call l (aK e o.dst v) H'
   |none=>none
  |some false=>gl call l (aK e o.dst (.tup [])) H
  |none=>none
structure EN(n:Nat)(σ:Sg)(e:Tr AV)(a:Act):Prop where
 er:ER σ e a
 sz:a.tmps.size=n
 sm:n<2^40
theorem EN.mono{n:Nat}{σ σ':Sg}{e:Tr AV}{a:Act}(hs:σ.le σ')(h:EN n σ e a):EN n σ' e a:=⟨h.er.mono hs,h.sz,h.sm⟩
def r7(B:Nat)(σ:Sg)(H H':AH)(w:World)(v:AV):Ending->World->Prop
 |.returned u,w'=>∃σ',VR σ' v u/\HR B σ' H' w'/\Fr B σ σ' H H' w w'
 |_,_=>False
structure dD(P:Program)(B:Nat)(call:dE):Prop where
 fn:∀{g:FuncId} {args:List AV} {H H':AH} {v:AV},call g args H=some (v,H')->∃fn,P.funcs[g]? =some fn/\(fn.name== "runtime.NumGoroutine")=false/\fn.body.isNone=false
 run:∀{g:FuncId} {args:List AV} {H H':AH} {v:AV},call g args H=some (v,H')->∀(σ:Sg) (w:World) (args':Array Value),HR B σ H w->aX σ args args'.toList->Calls P g args' w (r7 B σ H H' w v)
section
variable {P:Program} {B n:Nat} {σ:Sg} {e e':Tr AV} {a:Act} {H H':AH} {w:World} {o:Oper} {v:AV} {ops:Array Oper} {call:dE} {Q:Exit->Act->World->Prop}
theorem EN.put(h:EN n σ e a){u:Value}(hv:VR σ v u){d:Option Nat}(hd:WG n d=true):EN n σ (aK e d v) (a.put d u):=by
 cases d with
 |none=>exact h
 |some d=>
  have hd':d<n:=of_decide_eq_true hd
  have hs:=h.sm
  refine⟨⟨h.er.df,λt x hx=>?_⟩,by simp[Act.put,h.sz],h.sm⟩
  simp only[aK] at hx
  rw[Tr.get_set 48 e d v t (by omega)] at hx
  simp only[Act.put]
  by_cases e1:t=d
  ·subst e1
   rw[if_pos rfl] at hx
   cases hx
   have hlt:t<a.tmps.size:=by rw[h.sz];exact hd'
   simp[Array.getD,hlt]
   exact hv
  ·rw[if_neg e1] at hx
   have:=h.er.get t x hx
   rw[Array.getD_eq_getD_getElem?] at this ⊢
   rw[Array.getElem?_setIfInBounds_ne (Ne.symm e1)]
   exact this
theorem bB(h:ER σ e a){g:Option (Nat×Bool)}(hg:Co ops o.guard=some g){b:Bool}(hw:bn e g=some b):Region.wanted o (yielded ops a.tmps)=b:=by
 unfold Region.wanted
 cases hgd:o.guard with
 |none=>
  rw[hgd] at hg
  simp only[Co,Option.some.injEq] at hg
  subst hg
  simpa [bn] using hw
 |some p=>
  obtain⟨j,wn⟩:=p
  rw[hgd] at hg
  simp only[Co] at hg
  split at hg
  rotate_left
  ·cases hg
  rename_i d hd
  cases hg
  simp only[bn] at hw
  have hy:∀u:Value,a.tmps.getD d undef=u->u≠undef\/True->yielded ops a.tmps j=match u with| .bool b=>some b|_=>none:=by
   intro u hu _
   unfold yielded
   rw[hd]
   simp only[Option.bind_some]
   rw[Array.getD_eq_getD_getElem?] at hu
   cases hq:a.tmps[d]? with
   |none=>rw[hq] at hu;subst hu;rfl
   |some x=>rw[hq] at hu;simp only[Option.getD_some] at hu;subst hu;cases x<;>rfl
  split at hw
  ·rename_i b' hb
   cases hw
   have h1:=h.get d _ hb
   generalize hu:a.tmps.getD d undef=u at h1
   cases h1
   show(yielded ops a.tmps j==some wn)=_
   rw[hy _ hu (.inr trivial)]
   cases b'<;>cases wn<;>rfl
  ·rename_i l hb
   cases hw
   have h1:=h.get d _ hb
   generalize hu:a.tmps.getD d undef=u at h1
   cases h1
   show(yielded ops a.tmps j==some wn)=_
   rw[hy _ hu (.inr trivial)]
   cases wn<;>rfl
  ·cases hw
theorem mg{op:BinOp}{t:TypeId}{y:Operand}{neg:Bool}(h:sB P op t y=some neg)(a:Act)(w:World)(ad:Option Addr)(n c:Nat):
  (binOp op t (.slice ad n c) (a.eval y)).run P w= .ok (.bool (ad.isNone== !neg)) w:=by
 unfold sB at h
 split at h
 ·rename_i el h1
  cases h
  show(binOp .eql t (.slice ad n c) (.slice none 0 0)).run P w=_
  rw[run_eql_slice_nil w t _ ad n c h1]
  cases ad<;>rfl
 ·rename_i el h1
  cases h
  show(binOp .neq t (.slice ad n c) (.slice none 0 0)).run P w=_
  rw[run_neq_slice_nil w t _ ad n c h1]
  cases ad<;>rfl
 ·cases h
theorem Bt{op:BinOp}{t:TypeId}{y:Operand}{neg:Bool}(h:sB P op t y=some neg):(op= .eql\/op= .neq)/\a.eval y= .slice none 0 0:=by
 unfold sB at h
 split at h
 ·exact⟨.inl rfl,rfl⟩
 ·exact⟨.inr rfl,rfl⟩
 ·cases h
theorem uL(hC:dD P B call){k:AK}(hc:fY P o.op=some k)(hE:ER σ e a)(h:HR B σ H w)(hr:k.run call e H=some (v,H')){next:Act->World->Prop}
  (hn:∀u w' σ',VR σ' v u->HR B σ' H' w'->Fr B σ σ' H H' w w'->next (a.put o.dst u) w'):o.wp P a w next Q:=by
 have fin:∀ap,iJ P o.op=some ap->k= .ap ap->o.wp P a w next Q:=by
  rintro ap hap rfl
  obtain⟨r,w',σ',hrun,hnr,h1,h2,_⟩:=Dn hap hE h hr
  unfold Oper.wp
  rw[hrun]
  rcases hnr with⟨u,rfl,hu⟩|⟨rfl,rfl⟩
  ·exact hn u w' σ' hu h1 h2
  ·exact hn undef w' σ' (.u _) h1 h2
 unfold fY at hc
 split at hc
 ·rename_i m hm
  cases hc
  exact vD hm hE h hr hn
 unfold kn at hc
 split at hc
 ·rename_i op t x y t' ho
  split at hc
  ·rename_i neg hsn
   obtain⟨x',hx,rfl⟩:=Option.map_eq_some_iff.1 hc
   obtain⟨g1,g2⟩:=Bt hsn
   have hg:∀(ad:Option Addr) (n c:Nat),(eqGuard op t x y (.slice ad n c) (a.eval y)).run P w= .ok () w:=λad n c=>by
    unfold eqGuard
    rcases g1 with rfl|rfl<;>rw[g2]<;>rfl
   have go:∀(ad:Addr) (n c:Nat),a.eval x= .slice (some ad) n c->v= .b neg->H'=H->o.wp P a w next Q:=by
    intro ad n c hev hv hH
    subst hv hH
    unfold Oper.wp execOp
    rw[ho]
    simp only[hev,Sem.run_bind,hg,mg hsn a w (some ad) n c,Result.andThen_ok,Sem.run_pure,Oper.upon]
    refine hn _ _ σ ?_ h (Fr.refl h)
    cases neg<;>exact .b _
   simp only[AK.run] at hr
   split at hr
   ·rename_i hv
    have h1:=aM hx hE hv
    cases hr
    generalize hu:a.eval x=u at h1
    cases h1 with
    |sl hh=>exact go _ _ _ hu rfl rfl
    |slo hh hc h0=>exact go _ _ _ hu rfl rfl
   ·rename_i hv
    have h1:=aM hx hE hv
    cases hr
    generalize hu:a.eval x=u at h1
    cases h1 with
    |os hh hl=>exact go _ _ _ hu rfl rfl
   ·rename_i hv
    have h1:=aM hx hE hv
    cases hr
    generalize hu:a.eval x=u at h1
    cases h1 with
    |fs hz hb h1 h2 cap hcap=>exact go _ _ _ hu rfl rfl
   ·cases hr
  ·obtain⟨ap,hap,rfl⟩:=Option.map_eq_some_iff.1 hc
   exact fin ap (by rw[ho];exact hap) rfl
 ·rename_i c ho
  split at hc
  ·rename_i f hf
   obtain⟨f',hf',hc⟩:=Option.bind_eq_some_iff.1 hc
   obtain⟨l',hl,rfl⟩:=Option.map_eq_some_iff.1 hc
   simp only[AK.run] at hr
   split at hr
   rotate_left
   ·cases hr
   rename_i g first cap vs hfe hvs
   obtain⟨c1,c2,hev,g1,g2⟩:=ta hf' hE hfe
   obtain⟨fn,k1,k2,k3⟩:=hC.fn hr
   have hargs:aX σ (first++vs++cap) (c1++c.args.map a.eval++c2).toList:=by
    have:=(g1.app (ed hl hE hvs)).app g2
    simpa using this
   have hcl:=hC.run hr σ w _ h hargs
   unfold Oper.wp execOp
   rw[ho]
   simp only[Sem.run_bind,resolve,hf,hev,Deferred.ofValue,Sem.run_pure,Result.andThen_ok,invoke,eP k1 k2 k3,Oper.upon]
   refine Calls.mono hcl (λen w' hp=>?_)
   cases en with
   |returned u=>obtain⟨σ',q1,q2,q3⟩:=hp;exact hn u w' σ' q1 q2 q3
   |panicked c=>exact hp.elim
   |outgrown=>exact hp.elim
  ·obtain⟨ap,hap,rfl⟩:=Option.map_eq_some_iff.1 hc
   exact fin ap (by rw[ho];exact hap) rfl
 ·obtain⟨ap,hap,rfl⟩:=Option.map_eq_some_iff.1 hc
  exact fin ap hap rfl
theorem jO(hC:dD P B call)(tl:List Oper):∀(l:List Oper) (l':List AO) {σ:Sg} {e:Tr AV} {H:AH} {a:Act} {w:World},dK P n ops l=some l'->gl call l' e H=some (e',H')->EN n σ e a->HR B σ H w->
  (∀a' w' σ',EN n σ' e' a'->HR B σ' H' w'->Fr B σ σ' H H' w w'->wpList P ops Q tl a' w')->wpList P ops Q (l++tl) a w
 |[],l',σ,e,H,a,w,hl,hr,hE,h,hQ=>by
  simp only[dK,Option.some.injEq] at hl
  subst hl
  simp only[gl,Option.some.injEq,Prod.mk.injEq] at hr
  obtain⟨rfl,rfl⟩:=hr
  exact hQ a w σ hE h (Fr.refl h)
 |o::l,l',σ,e,H,a,w,hl,hr,hE,h,hQ=>by
  simp only[dK] at hl
  obtain⟨x,hx,hl⟩:=Option.bind_eq_some_iff.1 hl
  obtain⟨r,hl2,rfl⟩:=Option.map_eq_some_iff.1 hl
  unfold gS at hx
  split at hx
  rotate_left
  ·cases hx
  rename_i hd
  obtain⟨g,hg,hx⟩:=Option.bind_eq_some_iff.1 hx
  obtain⟨k,hk,rfl⟩:=Option.map_eq_some_iff.1 hx
  simp only[gl] at hr
  rw[List.cons_append]
  unfold wpList
  split at hr
  ·rename_i hw
   rw[bB hE.er hg hw,if_pos rfl]
   split at hr
   rotate_left
   ·cases hr
   rename_i v H1 hrun
   refine .inl (uL hC hk hE.er h hrun λu w1 σ1 q1 q2 q3=>?_)
   exact jO hC tl l r hl2 hr ((hE.mono q3.ext).put q1 hd) q2 (λa' w' σ' p1 p2 p3=>hQ a' w' σ' p1 p2 (q3.trans p3 q2))
  ·rename_i hw
   rw[bB hE.er hg hw,if_neg (by simp)]
   exact jO hC tl l r hl2 hr (hE.put (u:=undef) (.tup rfl (λi v h=>by simp at h)) hd) h hQ
  ·cases hr
theorem I8(hC:dD P B call)(l:List Oper)(l':List AO){σ:Sg}{e:Tr AV}{H:AH}{a:Act}{w:World}(hl:dK P n ops l=some l')(hr:gl call l' e H=some (e',H'))(hE:EN n σ e a)(h:HR B σ H w)
  (hQ:∀a' w' σ',EN n σ' e' a'->HR B σ' H' w'->Fr B σ σ' H H' w w'->Q .normal a' w'):wpList P ops Q l a w:=by
 have:=jO (Q:=Q) hC [] l l' hl hr hE h hQ
 rwa [List.append_nil] at this
/-! ### a deferred call-/
def CG(P:Program)(n:Nat)(ops:Array Oper)(l:List Oper):Option (List AO×AX×List AX):=match l.reverse with
 |o::l=>match o.op with
  |.defer c=>match c.callee with
   |.value f=>if o.guard=none/\o.dst=none then(ax f).bind λf=>(c.args.toList.mapM ax).bind λas=>(dK P n ops l.reverse).map λx=>(x,f,as) else none
   |_=>none
  |_=>none
 |[]=>none
def zg(e:Tr AV)(f:AX)(as:List AX):Bool:=match f.ev e,sf e as with
 |some (.f g first cap),some vs=>pL g==some (first++vs++cap).length
 |_,_=>false
theorem EN.defer(h:EN n σ e a){d:Deferred}(hd:nv d):EN n σ e {a with defers:=d::a.defers}:=
 ⟨⟨λd' hd'=>by rcases List.mem_cons.1 hd' with rfl|hd';exact hd;exact h.er.df d' hd',h.er.get⟩,h.sz,h.sm⟩
theorem WH(hC:dD P B call){l:List Oper}{l':List AO}{f:AX}{as:List AX}{σ:Sg}{e:Tr AV}{H:AH}{a:Act}{w:World}(hl:CG P n ops l=some (l',f,as))(hr:gl call l' e H=some (e',H'))(hi:zg e' f as=true)(hE:EN n σ e a)(h:HR B σ H w)
  (hQ:∀a' w' σ',EN n σ' e' a'->HR B σ' H' w'->Fr B σ σ' H H' w w'->Q .normal a' w'):wpList P ops Q l a w:=by
 unfold CG at hl
 split at hl
 rotate_left
 ·cases hl
 rename_i o l0 hrev
 split at hl
 rotate_left
 ·cases hl
 rename_i c ho
 split at hl
 rotate_left
 ·cases hl
 rename_i fo hf
 split at hl
 rotate_left
 ·cases hl
 rename_i hgd
 obtain⟨f',hf',hl⟩:=Option.bind_eq_some_iff.1 hl
 obtain⟨as',has,hl⟩:=Option.bind_eq_some_iff.1 hl
 obtain⟨x,hx,hl⟩:=Option.map_eq_some_iff.1 hl
 cases hl
 have hll:l=l0.reverse++[o]:=by
  have:=congrArg List.reverse hrev
  rwa [List.reverse_reverse,List.reverse_cons] at this
 rw[hll]
 refine jO hC [o] _ _ hx hr hE h (λa1 w1 σ1 q1 q2 q3=>?_)
 unfold zg at hi
 split at hi
 rotate_left
 ·cases hi
 rename_i g first cap vs hfe hvs
 obtain⟨c1,c2,hev,g1,g2⟩:=ta hf' q1.er hfe
 have hargs:=(g1.app (ed has q1.er hvs)).app g2
 have hw:Region.wanted o (yielded ops a1.tmps)=true:=by unfold Region.wanted;rw[hgd.1]
 unfold wpList
 rw[hw,if_pos rfl]
 refine .inl ?_
 unfold Oper.wp execOp
 rw[ho]
 simp only[Sem.run_bind,resolve,hf,hev,Deferred.ofValue,Sem.run_pure,Result.andThen_ok,Oper.upon,hgd.2]
 have hid:nv {target:= .fn (.func g) c2,args:=c1++c.args.map a1.eval}:=by
  refine⟨g,c2,rfl,?_⟩
  have h1:=beq_iff_eq.1 hi
  rw[h1,hargs.1]
  simp
 show wpList P ops Q [] _ _
 exact hQ _ _ _ (q1.defer hid) q2 q3
end
end Go.Proofs.YtdpkgnmmikebdaaGreat
namespace Go.Proofs.YtdpkgnmmikebdaaGreat
open Go.RowKit
def bu:Nat×Nat->Nat×Nat
 |(3,j)=>(0,j)
 |(4,j)=>(1,j)
 |p=>p
def cJ(P:Program)(n:Nat)(ops:Array Oper)(fl:List Nat):List (Nat×Nat)->Option (List (Nat×AO))
 |[]=>some []
 |(k,j)::l=>match ops[j]? with
  |some o=>(gS P n ops o).bind λx=>if k<=3/\(k=3->o8 .any ops fl j=true/\l.all (·.1 != 1)=true) then(cJ P n ops fl l).map λr=>(k,x)::r else none
  |none=>none
def eu(P:Program)(n:Nat)(ops:Array Oper)(fl:List Nat):List (Nat×Nat)->Option (List (Nat×AO))
 |[]=>some []
 |(k,j)::l=>match ops[j]? with
  |some o=>(gS P n ops o).bind λx=>if k<=4/\(k=3->o8 .any ops fl j=true) then(eu P n ops fl l).map λr=>(k,x)::r else none
  |none=>none
theorem oo{P:Program}{n:Nat}{ops:Array Oper}{fl:List Nat}:∀{l:List (Nat×Nat)} {r:List (Nat×AO)},cJ P n ops fl l=some r->eu P n ops fl l=some r
 |[],r,h=>h
 |(k,j)::l,r,h=>by
  simp only[cJ] at h
  simp only[eu]
  split at h
  ·rename_i o ho
   obtain⟨x,hx,h⟩:=Option.bind_eq_some_iff.1 h
   split at h
   ·rename_i hc
    obtain⟨r',h1,rfl⟩:=Option.map_eq_some_iff.1 h
    rw[hx,Option.bind_some,if_pos ⟨by omega,λq=>(hc.2 q).1⟩,oo h1]
    rfl
   ·cases h
  ·cases h
inductive AT where
 |fin
 |none
 |alt (o:AO) (r more:AT)
def nN(P:Program)(n:Nat)(ops:Array Oper):PT->Option AT
 |.fin=>some .fin
 |.none=>some .none
 |.alt j r more=>match ops[j]? with
  |some o=>(gS P n ops o).bind λx=>(nN P n ops r).bind λr'=>(nN P n ops more).map λm'=> .alt x r' m'
  |none=>none
def gm(call:dE)(H0:AH):List (Nat×AO)->Tr AV->AH->Option (Tr AV×AH)
 |[],e,H=>some (e,H)
 |(k,o)::l,e,H=>match bn e o.gd with
  |some true=>
   if k=1 then match o.k with
    |.ap (.ld n row x)=>match x.ev e with
     |some (.p b off)=>if(H0.at b).isSome=true then match(AP.ld n row x).run e H with
       |some (v,H')=>gm call H0 l (aK e o.dst v) H'
       |none=>none
      else none
     |_=>none
    |_=>none
   else if k=2 then match o.k with
    |.ap x=>if x.kind=2 then match x.run e H with
      |some (v,H')=>gm call H0 l (aK e o.dst v) H'
      |none=>none
     else none
    |_=>none
   else match o.k.run call e H with
    |some (v,H')=>if k=3\/H0.next<=H'.low then gm call H0 l (aK e o.dst v) H' else none
    |none=>none
  |some false=>if k=0->H0.next<=H.low then gm call H0 l (aK e o.dst (.tup [])) H else none
  |none=>none
/-! writes to blocks (W) that no early load reads-/
def stW(W:List Nat)(e:Tr AV):AK->Bool
 |.ap (.st _ x _)=>match x.ev e with
  |some (.p b _)=>W.contains b
  |_=>false
 |_=>false
def Ky:List (Int×AV)->List (Int×AV)->Bool
 |[],[]=>true
 |(k,.n a i)::l,(k',.n a' i')::l'=>decide (k=k')&&decide (a=a')&&decide (i=i')&&Ky l l'
 |_,_=>false
def nD:List (Int×AV)->Bool
 |[]=>true
 |(_,.n _ _)::l=>nD l
 |_=>false
def mpEq(mp:List (Nat×List (Int×AV))):List (Nat×List (Int×AV))->Bool
 |[]=>true
 |(b,d)::l=>(!nD d||match bA mp b with
  |some d'=>Ky d d'
  |none=>false)&&mpEq mp l
theorem zP:∀{d d':List (Int×AV)},Ky d d'=true->d=d'
 |[],[],_=>rfl
 |[],_::_,h=>by simp[Ky] at h
 |(k,v)::l,[],h=>by cases v<;>simp[Ky] at h
 |(k,v)::l,(k',v')::l',h=>by
  cases v<;>cases v'<;>simp only[Ky,Bool.and_eq_true,decide_eq_true_eq,Bool.false_eq_true] at h
  obtain⟨⟨⟨rfl,rfl⟩,rfl⟩,h4⟩:=h
  rw[zP h4]
theorem mz{mp:List (Nat×List (Int×AV))}:∀{l:List (Nat×List (Int×AV))},mpEq mp l=true->∀{b:Nat} {d:List (Int×AV)},bA l b=some d->nD d=true->bA mp b=some d
 |[],_,b,d,hb,_=>by cases hb
 |(b',d')::l,h,b,d,hb,hn=>by
  simp only[mpEq,Bool.and_eq_true] at h
  simp only[bA] at hb
  split at hb
  ·rename_i e
   cases hb
   subst e
   have h1:=h.1
   rw[hn,Bool.not_true,Bool.false_or] at h1
   split at h1
   ·rename_i d2 hd2
    rw[hd2,zP h1]
   ·cases h1
  ·exact mz h.2 hb hn
def cZ(call:dE)(L:Bool)(W:List Nat)(H0:AH):Bool->List (Nat×AO)->Tr AV->AH->Option (Tr AV×AH)
 |_,[],e,H=>some (e,H)
 |s,(k,o)::l,e,H=>match bn e o.gd with
  |some true=>
   if k=1 then match o.k with
    |.ap (.ld n row x)=>match x.ev e with
     |some (.p b off)=>if(H0.at b).isSome=true/\W.contains b=false/\s=true then match(AP.ld n row x).run e H with
       |some (v,H')=>cZ call L W H0 s l (aK e o.dst v) H'
       |none=>none
      else none
     |_=>none
    |_=>none
   else if k=2 then match o.k with
    |.ap x=>if x.kind=2 then match x.run e H with
      |some (v,H')=>cZ call L W H0 s l (aK e o.dst v) H'
      |none=>none
     else none
    |_=>none
   else if k=4 then match o.k with
    |.mo (.lk z ok x y)=>match x.ev e,y.ev e,(MO.lk z ok x y).run e H with
     |some (.mh b),some (.n .i64 i),some (.n q j,H')=>if ok=false/\(bA H0.mp b).any nD=true/\s=true/\L=true then cZ call L W H0 s l (aK e o.dst (.n q j)) H' else none
     |_,_,_=>none
    |_=>none
   else if stW W e o.k=true then match o.k.run call e H with
    |some (v,H')=>if k=3\/(s=true/\(!L||mpEq H'.mp H0.mp)=true) then cZ call L W H0 (s&&(!L||mpEq H'.mp H0.mp)) l (aK e o.dst v) H' else none
    |none=>none
   else match o.k.run call e {H with low:=2^40} with
    |some (v,H1)=>if k=3\/(H0.next<=H1.low/\s=true/\(!L||mpEq H1.mp H0.mp)=true) then cZ call L W H0 (s&&decide (H0.next<=H1.low)&&(!L||mpEq H1.mp H0.mp)) l (aK e o.dst v) {H1 with low:=min H.low H1.low} else none
    |none=>none
  |some false=>if k=0->s=true then cZ call L W H0 s l (aK e o.dst (.tup [])) H else none
  |none=>none
def z9(call:dE):List (Nat×AO)->Tr AV->AH->List Nat
 |[],_,_=>[]
 |(k,o)::l,e,H=>match bn e o.gd with
  |some true=>match o.k.run call e H with
   |some (v,H')=>(match o.k with
    |.ap (.st _ x _)=>(match x.ev e with
     |some (.p b _)=>[b]
     |_=>[])
    |_=>[])++z9 call l (aK e o.dst v) H'
   |none=>[]
  |some false=>z9 call l (aK e o.dst (.tup [])) H
  |none=>[]
def aaa:AK->Bool
 |.ap (.st _ _ _)=>true
 |_=>false
def WW(call:dE)(l:List (Nat×AO))(e:Tr AV)(H:AH):List Nat:=match l.any (λx=>aaa x.2.k) with
 |true=>z9 call l e H
 |false=>[]
def rZ(w w':World):Prop:=∀(c:Nat) (cs:Array Value) (t:TypeId) (fr:Nat×Nat),w.heap[c]? =some (Obj.cells cs t fr)->w'.heap[c]? =w.heap[c]?
theorem rZ.refl(w:World):rZ w w:=λ_ _ _ _ _=>rfl
theorem rZ.cell{w w':World}(h:rZ w w'){c:Nat}{cs:Array Value}{t:TypeId}{fr:Nat×Nat}(hc:w.heap[c]? =some (.cells cs t fr))(i:Nat):w'.cell? ⟨c,i,none⟩=w.cell? ⟨c,i,none⟩:=by
 simp only[World.cell?,h c cs t fr hc]
theorem Fr.grew{B:Nat}{σ σ':Sg}{H H':AH}{w w':World}(h:Fr B σ σ' H H' w w')(hl:H.next<=H'.low):rZ w w':=λk cs t fr hk=>by
 rcases h.old k (Array.getElem?_eq_some_iff.1 hk).1 with e|⟨b,o,h1,_,h3⟩|hn
 ·exact e
 ·omega
 ·exact absurd hk (hn _ _ _)
section
variable {P:Program} {B n:Nat} {σ0:Sg} {e':Tr AV} {H0 H':AH} {w0:World} {ops:Array Oper} {fl:List Nat} {call:dE} {Q:Exit->Act->World->Prop}
theorem fu{o:Oper}{x:AP}(h:fY P o.op=some (.ap x)):iJ P o.op=some x:=by
 unfold fY at h
 split at h
 ·cases h
 unfold kn at h
 split at h
 ·rename_i op t x y t' ho
  split at h
  ·obtain⟨x',hx,h⟩:=Option.map_eq_some_iff.1 h
   cases h
  ·obtain⟨ap,hap,h⟩:=Option.map_eq_some_iff.1 h
   cases h
   rw[ho];exact hap
 ·rename_i c ho
  split at h
  ·obtain⟨f',hf',h⟩:=Option.bind_eq_some_iff.1 h
   obtain⟨l',hl,h⟩:=Option.map_eq_some_iff.1 h
   cases h
  ·obtain⟨ap,hap,h⟩:=Option.map_eq_some_iff.1 h
   cases h
   rw[ho];exact hap
 ·obtain⟨ap,hap,h⟩:=Option.map_eq_some_iff.1 h
  cases h
  exact hap
theorem bE{o:Oper}{a:Act}{w:World}{R:Exit->Act->World->Prop}(hw:Region.wanted o (yielded ops a.tmps)=true)(h:o.wp P a w (R .normal) R):wpList P ops R [o] a w:=by
 unfold wpList
 rw[if_pos hw]
 exact .inl h
theorem kD(hC:dD P B call)(h0:HR B σ0 H0 w0)(hp:∀c a w,¬Q (.panic c) a w):∀(pl:List (Nat×Nat)) (l':List (Nat×AO)) {σ:Sg} {e:Tr AV} {H:AH} {a:Act} {w:World},cJ P n ops fl pl=some l'->gm call H0 l' e H=some (e',H')->EN n σ e a->HR B σ H w->
  Fr B σ0 σ H0 H w0 w->(rZ w0 w\/pl.all (·.1 != 1)=true)->
  (∀a' w' σ',EN n σ' e' a'->HR B σ' H' w'->Fr B σ0 σ' H0 H' w0 w'->Q .normal a' w')->ao P .any ops Q (rZ w0) fl (au ops (pl.map bu)) a w
 |[],l',σ,e,H,a,w,hl,hr,hE,h,hF,hG,hQ=>by
  simp only[cJ,Option.some.injEq] at hl
  subst hl
  simp only[gm,Option.some.injEq,Prod.mk.injEq] at hr
  obtain⟨rfl,rfl⟩:=hr
  show ao P .any ops Q (rZ w0) fl [] a w
  exact db (hQ a w σ hE h hF)
 |(k,j)::pl,l',σ,e,H,a,w,hl,hr,hE,h,hF,hG,hQ=>by
  simp only[cJ] at hl
  split at hl
  rotate_left
  ·cases hl
  rename_i o ho
  obtain⟨x,hx,hl⟩:=Option.bind_eq_some_iff.1 hl
  split at hl
  rotate_left
  ·cases hl
  rename_i hk3
  obtain⟨hk3,hsee⟩:=hk3
  obtain⟨r,hl2,rfl⟩:=Option.map_eq_some_iff.1 hl
  unfold gS at hx
  split at hx
  rotate_left
  ·cases hx
  rename_i hd
  obtain⟨g,hg,hx⟩:=Option.bind_eq_some_iff.1 hx
  obtain⟨ak,hk,rfl⟩:=Option.map_eq_some_iff.1 hx
  have hgp:au ops (((k,j)::pl).map bu)=((bu (k,j)).1,j,o)::au ops (pl.map bu):=by
   have:bu (k,j)=((bu (k,j)).1,j):=by unfold bu;split<;>first|rfl|(rename_i heq;cases heq;rfl)
   rw[List.map_cons,this]
   simp[au,ho]
  rw[hgp]
  have hG':rZ w0 w\/pl.all (·.1 != 1)=true:=hG.imp id (λq=>by simp only[List.all_cons,Bool.and_eq_true] at q;exact q.2)
  simp only[gm] at hr
  split at hr
  ·rename_i hw
   have hwant:=bB hE.er hg hw
   split at hr
   ·
    rename_i hk1
    subst hk1
    split at hr
    rotate_left
    ·cases hr
    rename_i nn row xx
    split at hr
    rotate_left
    ·cases hr
    rename_i b off hev
    split at hr
    rotate_left
    ·cases hr
    rename_i hat
    split at hr
    rotate_left
    ·cases hr
    rename_i v H1 hrun
    obtain⟨q1,_,_,_,c,u,q2,q34,q5,q6⟩:=kR (fu hk) rfl hE.er h hrun
    subst q1
    cases q2
    obtain⟨oc,q4⟩:∃oc,σ b=some (c,oc):=by
     rcases q34 with⟨b',off',oc,q3,q4⟩|⟨_,_,_,_,q3,_⟩
     ·rw[hev] at q3
      cases q3
      exact⟨oc,q4⟩
     ·rw[hev] at q3
      cases q3
    have hgw:rZ w0 w:=by
     rcases hG with q|q
     ·exact q
     ·simp at q
    obtain⟨xb,hxb⟩:=Option.isSome_iff_exists.1 hat
    obtain⟨c0,o0,cs0,p1,p2,p3,p4,_⟩:=h0.at hxb (.inr (by rw[<-hF.dom b (AH.at_lt h0 hxb),q4];simp))
    have hc0:σ b=σ0 b:=hF.dom b (AH.at_lt h0 hxb)
    rw[hc0,p1] at q4
    cases q4
    have hclt:c<w0.heap.size:=(Array.getElem?_eq_some_iff.1 p3).1
    show ao P .any ops Q (rZ w0) fl ((1,j,o)::au ops (pl.map bu)) a w
    unfold ao
    rw[if_pos hwant]
    refine⟨u,λw' hw'=>q6 w' (λi=>(rZ.cell hw' p3 i).trans (rZ.cell hgw p3 i).symm),?_⟩
    exact kD hC h0 hp pl r hl2 hr (hE.put q5 hd) h hF hG' hQ
   ·split at hr
    ·
     rename_i hk1 hk2
     subst hk2
     split at hr
     rotate_left
     ·cases hr
     rename_i xx
     split at hr
     rotate_left
     ·cases hr
     rename_i hkind
     split at hr
     rotate_left
     ·cases hr
     rename_i v H1 hrun
     obtain⟨q1,u,q2,q3⟩:=jz (fu hk) hkind hE.er h hrun
     subst q1
     show ao P .any ops Q (rZ w0) fl ((2,j,o)::au ops (pl.map bu)) a w
     unfold ao
     rw[if_pos hwant]
     exact⟨u,q3,kD hC h0 hp pl r hl2 hr (hE.put q2 hd) h hF hG' hQ⟩
    ·rename_i hk1 hk2
     split at hr
     rotate_left
     ·cases hr
     rename_i v H1 hrun
     split at hr
     rotate_left
     ·cases hr
     rename_i hlow
     have hu0:(bu (k,j)).1=0:=by
      have:k=0\/k=3:=by omega
      rcases this with rfl|rfl<;>rfl
     rw[hu0]
     by_cases hk0:k=3
     ·subst hk0
      obtain⟨s1,s2⟩:=hsee rfl
      refine cG s1 (bE hwant ?_)
      refine uL hC hk hE.er h hrun λu w1 σ1 q1 q2 q3=>?_
      exact kD hC h0 hp pl r hl2 hr ((hE.mono q3.ext).put q1 hd) q2 (hF.trans q3 h) (.inr s2) hQ
     ·have hlow':H0.next<=H1.low:=hlow.resolve_left hk0
      refine d9 (bE hwant ?_)
      refine uL hC hk hE.er h hrun λu w1 σ1 q1 q2 q3=>?_
      have hF1:=hF.trans q3 h
      have hg1:=hF1.grew hlow'
      exact⟨hg1,kD hC h0 hp pl r hl2 hr ((hE.mono q3.ext).put q1 hd) q2 hF1 (.inl hg1) hQ⟩
  ·rename_i hw
   split at hr
   rotate_left
   ·cases hr
   rename_i hlow
   have hwant:=bB hE.er hg hw
   have hput:=hE.put (u:=undef) (v:= .tup []) (.tup rfl (λi v h=>by simp at h)) hd
   have next:=kD hC h0 hp pl r hl2 hr hput h hF hG' hQ
   have:(bu (k,j)).1=0\/(bu (k,j)).1=1\/(bu (k,j)).1=2:=by
    have:k=0\/k=1\/k=2\/k=3:=by omega
    rcases this with rfl|rfl|rfl|rfl<;>simp[bu]
   rcases this with q|q|q<;>rw[q]
   ·have hskip:∀R:Exit->Act->World->Prop,R .normal (a.put o.dst undef) w->wpList P ops R [o] a w:=λR hR=>by
     unfold wpList
     rw[hwant,if_neg (by simp)]
     exact hR
    unfold ao
    split
    ·exact hskip _ next
    ·rename_i hs
     refine hskip _ ⟨?_,next⟩
     have:k=0\/k=1\/k=2\/k=3:=by omega
     rcases this with rfl|rfl|rfl|rfl
     ·exact hF.grew (hlow rfl)
     ·simp[bu] at q
     ·simp[bu] at q
     ·exact absurd (hsee rfl).1 hs
   ·unfold ao
    rw[hwant,if_neg (by simp)]
    exact next
   ·unfold ao
    rw[hwant,if_neg (by simp)]
    exact next
  ·cases hr
theorem HR.relow{B:Nat}{σ:Sg}{H:AH}{w:World}(h:HR B σ H w)(l:Nat):HR B σ {H with low:=l} w:=
 ⟨h.new,h.newl,h.old,h.small,h.hB,h.nil,h.nilp,h.blk,h.szs,h.inj,h.frz,h.ob.of_eq rfl⟩
theorem nG(hC:dD P B call){id:Nat}{pu:List Nat}{pl:List (Nat×Nat)}{l':List (Nat×AO)}(hm:P.follows .mixedOrders=true)(hB:pq .any ops fl pu (pl.map bu)=true)(hl:cJ P n ops fl pl=some l')
  {σ:Sg} {e:Tr AV} {H:AH} {a:Act} {w:World} {big:Nat} (hr:gm call {H with low:=big} l' e {H with low:=big}=some (e',H')) (hE:EN n σ e a) (h:HR B σ H w) (hp:∀c a w,¬Q (.panic c) a w)
  (hQ:∀a' w' σ',EN n σ' e' a'->HR B σ' {H' with low:=min H.low H'.low} w'->Fr B σ σ' H {H' with low:=min H.low H'.low} w w'->Q .normal a' w'):(Code.region id ops true).wp P Q a w:=by
 have hops:ops=ops.toList.toArray:=by simp
 rw[hops]
 rw[hops] at hB
 have hd:HR B σ {H with low:=big} w.drew:=⟨h.new,h.newl,h.old,h.small,h.hB,h.nil,h.nilp,h.blk,h.szs,h.inj,h.frz,h.ob.of_eq rfl⟩
 refine cT (rZ w.drew) fl pu (pl.map bu) hm hB (λc a d v w hq=>(hp _ _ _ hq).elim) (rZ.refl _) ?_
 rw[<-hops]
 refine kD hC hd hp pl l' hl hr hE hd (Fr.refl hd) (.inl (rZ.refl _)) (λa' w' σ' q1 q2 q3=>?_)
 refine hQ a' w' σ' q1 (q2.relow _) ⟨q3.dom,q3.ext,q3.nxt,Nat.min_le_left _ _,(Below.refl _ _).drew.trans q3.bel,λc hc=>?_,λb c o h1 h2 h3=>by
  obtain⟨b0,o0,g1,g2,g3⟩:=q3.new b c o h1 h2 h3
  exact⟨b0,o0,g1,g2,Nat.le_trans (Nat.min_le_right _ _) g3⟩⟩
 rcases q3.old c hc with e|⟨b,o,h1,h2,h3⟩|hn
 ·exact .inl e
 ·exact .inr (.inl ⟨b,o,h1,h2,Nat.le_trans (Nat.min_le_right _ _) h3⟩)
 ·exact .inr (.inr hn)
end
def C2(W:List Nat)(σ0:Sg)(w w':World):Prop:=∀(c:Nat) (cs:Array Value) (t:TypeId) (fr:Nat×Nat),w.heap[c]? =some (Obj.cells cs t fr)->(∀b o,W.contains b=true->σ0 b≠some (c,o))->w'.heap[c]? =w.heap[c]?
theorem C2.refl(W:List Nat)(σ0:Sg)(w:World):C2 W σ0 w w:=λ_ _ _ _ _ _=>rfl
def Kq(H0:AH)(w0:World)(σ:Sg):Prop:=∀b c o,H0.next<=b->σ b=some (c,o)->w0.heap.size<=c
def Ks(H0:AH)(σ0:Sg)(w':World):Prop:=∀b d,bA H0.mp b=some d->nD d=true->∃c es clock σ',σ0.nm b=some (c,none)/\w'.heap[c]? =some (.map es clock)/\MD σ' d es clock
def SW(L:Bool)(W:List Nat)(H0:AH)(σ0:Sg)(w0 w':World):Prop:=C2 W σ0 w0 w'/\(L=true->Ks H0 σ0 w')
theorem Ks.of{B:Nat}{σ0 σ:Sg}{H0 H:AH}{w0 w:World}(h0:HR B σ0 H0 w0)(h:HR B σ H w)(hs:σ0.le σ)(hmp:∀b d,bA H0.mp b=some d->nD d=true->bA H.mp b=some d):Ks H0 σ0 w:=λb d hb hn=>by
 obtain⟨c0,_,_,k1,_⟩:=h0.ob.m b d hb
 obtain⟨c,es,clock,m1,_,m3,_,m5⟩:=h.ob.m b d (hmp b d hb hn)
 have:=hs.nm _ _ k1
 rw[m1] at this
 cases this
 exact⟨_,es,clock,σ,k1,m3,m5⟩
theorem Fr.relow{B:Nat}{σ σ':Sg}{H H':AH}{w w':World}{l:Nat}(h:Fr B σ σ' {H with low:=l} H' w w'):Fr B σ σ' H {H' with low:=min H.low H'.low} w w':=
 ⟨h.dom,h.ext,h.nxt,Nat.min_le_left _ _,h.bel,λc hc=>by
  rcases h.old c hc with e|⟨b,o,h1,h2,h3⟩|hn
  ·exact .inl e
  ·exact .inr (.inl ⟨b,o,h1,h2,Nat.le_trans (Nat.min_le_right _ _) h3⟩)
  ·exact .inr (.inr hn),λb c o h1 h2 h3=>by
  obtain⟨b0,o0,g1,g2,g3⟩:=h.new b c o h1 h2 h3
  exact⟨b0,o0,g1,g2,Nat.le_trans (Nat.min_le_right _ _) g3⟩⟩
section
variable {P:Program} {B n:Nat} {σ0:Sg} {e':Tr AV} {H0 H':AH} {w0:World} {ops:Array Oper} {fl:List Nat} {call:dE} {Q:Exit->Act->World->Prop} {L:Bool} {W:List Nat}
theorem yP{o:Oper}{z:AV}{x' k':AX}(hc:fY P o.op=some (.mo (.lk z false x' k'))){σ:Sg}{e:Tr AV}{H H1:AH}{a:Act}{w:World}(hE:ER σ e a)(h:HR B σ H w){b:Nat}{i:Int}{q:IntKind}{j:Int}
  (h1:x'.ev e=some (.mh b)) (h2:k'.ev e=some (.n .i64 i)) (hr:(MO.lk z false x' k').run e H=some (.n q j,H1)):
  H1=H/\∃c d,σ.nm b=some (c,none)/\bA H.mp b=some d/\∀(w':World) (es:Array MapEntry) (clock:Nat) (σ':Sg),w'.heap[c]? =some (.map es clock)->MD σ' d es clock->(execOp a.eval o).run P w'= .ok (.value (.int q j)) w':=by
 have hm:pn P o.op=some (.lk z false x' k'):=by
  unfold fY at hc
  split at hc
  ·rename_i m hm;cases hc;exact hm
  ·unfold kn at hc
   exfalso
   split at hc
   ·split at hc
    ·obtain⟨_,_,hc⟩:=Option.map_eq_some_iff.1 hc;cases hc
    ·obtain⟨_,_,hc⟩:=Option.map_eq_some_iff.1 hc;cases hc
   ·split at hc
    ·obtain⟨_,_,hc⟩:=Option.bind_eq_some_iff.1 hc
     obtain⟨_,_,hc⟩:=Option.map_eq_some_iff.1 hc;cases hc
    ·obtain⟨_,_,hc⟩:=Option.map_eq_some_iff.1 hc;cases hc
   ·obtain⟨_,_,hc⟩:=Option.map_eq_some_iff.1 hc;cases hc
 obtain⟨T,x,k,E,ho,hE',hx,hk,hz⟩:∃T x k E,o.op= .lookup T x k false/\kE P T=some E/\ax x=some x'/\ax k=some k'/\nP P E=some z:=by
  generalize o.op=op at hm
  unfold pn at hm
  split at hm
  case h_2 t x k ok=>
   obtain⟨E,hE',hm⟩:=Option.bind_eq_some_iff.1 hm
   obtain⟨x1,hx,hm⟩:=Option.bind_eq_some_iff.1 hm
   obtain⟨k1,hk,hm⟩:=Option.bind_eq_some_iff.1 hm
   split at hm
   ·rename_i z1 hz
    cases hm
    exact⟨t,x,k,E,rfl,hE',hx,hk,hz⟩
   ·obtain⟨_,_,hm⟩:=Option.map_eq_some_iff.1 hm
    cases hm
  all_goals
   exfalso
   repeat' split at hm
   all_goals first
    |(cases hm;done)
    |(simp only[Option.bind_eq_some_iff,Option.map_eq_some_iff,reduceCtorEq,and_false,exists_false] at hm;done)
 obtain⟨K,hT,hK⟩:=c9 hE'
 simp only[MO.run,h1,h2,Wm] at hr
 obtain⟨c,hs,e1⟩:=uC hx hE h1
 have e2:=cX hk hE h2
 split at hr
 rotate_left
 ·cases hr
 rename_i d hd
 have hH:H1=H:=by
  split at hr<;>(cases hr;rfl)
 refine⟨hH,c,d,?_,hd,λw' es clock σ' hw' hmd=>?_⟩
 ·obtain⟨c',es,clock,k1,k2,k3,k4,k5⟩:=h.ob.m b d hd
  rw[hs] at k1
  cases k1
  exact hs
 obtain⟨zu,hz1,hz2,hz3⟩:=hY hz w'
 unfold execOp
 rw[ho]
 rcases jK hT hK hw' hmd.int i false hz1 with⟨q1,q2⟩|⟨e0,q1,q2,q3⟩
 ·rw[hmd.miss q2] at hr
  simp only[Kv,Bool.false_eq_true,if_false,Option.some.injEq,Prod.mk.injEq] at hr
  have hzz:=hz3 σ
  rw[hr.1] at hzz
  cases hzz
  simp only[e1,e2,q1,Sem.run_bind,Result.andThen_ok,Sem.run_pure,Bool.false_eq_true,if_false]
 ·obtain⟨v,p1,p2⟩:=hmd.hit q1 q2
  rw[p1] at hr
  simp only[Kv,Bool.false_eq_true,if_false,Option.some.injEq,Prod.mk.injEq] at hr
  rw[hr.1] at p2
  have hval:e0.val= .int q j:=by
   generalize e0.val=u at p2
   cases p2;rfl
  simp only[e1,e2,q3,Sem.run_bind,Result.andThen_ok,Sem.run_pure,hval,Bool.false_eq_true,if_false]
theorem fm(hC:dD P B call)(h0:HR B σ0 H0 w0)(hW:W.all (λb=>(H0.at b).isSome)=true)(hp:∀c a w,¬Q (.panic c) a w):∀(pl:List (Nat×Nat)) (l':List (Nat×AO)) {s:Bool} {σ:Sg} {e:Tr AV} {H:AH} {a:Act} {w:World},eu P n ops fl pl=some l'->cZ call L W H0 s l' e H=some (e',H')->EN n σ e a->HR B σ H w->
  Fr B σ0 σ H0 H w0 w->(s=true->C2 W σ0 w0 w/\Kq H0 w0 σ/\(L=true->∀b d,bA H0.mp b=some d->nD d=true->bA H.mp b=some d))->
  (∀a' w' σ',EN n σ' e' a'->HR B σ' H' w'->Fr B σ0 σ' H0 H' w0 w'->Q .normal a' w')->ao P .any ops Q (SW L W H0 σ0 w0) fl (au ops (pl.map bu)) a w
 |[],l',s,σ,e,H,a,w,hl,hr,hE,h,hF,hG,hQ=>by
  simp only[eu,Option.some.injEq] at hl
  subst hl
  simp only[cZ,Option.some.injEq,Prod.mk.injEq] at hr
  obtain⟨rfl,rfl⟩:=hr
  show ao P .any ops Q (SW L W H0 σ0 w0) fl [] a w
  exact db (hQ a w σ hE h hF)
 |(k,j)::pl,l',s,σ,e,H,a,w,hl,hr,hE,h,hF,hG,hQ=>by
  simp only[eu] at hl
  split at hl
  rotate_left
  ·cases hl
  rename_i o ho
  obtain⟨x,hx,hl⟩:=Option.bind_eq_some_iff.1 hl
  split at hl
  rotate_left
  ·cases hl
  rename_i hk3
  obtain⟨hk3,hsee⟩:=hk3
  obtain⟨r,hl2,rfl⟩:=Option.map_eq_some_iff.1 hl
  unfold gS at hx
  split at hx
  rotate_left
  ·cases hx
  rename_i hd
  obtain⟨g,hg,hx⟩:=Option.bind_eq_some_iff.1 hx
  obtain⟨ak,hk,rfl⟩:=Option.map_eq_some_iff.1 hx
  have hgp:au ops (((k,j)::pl).map bu)=((bu (k,j)).1,j,o)::au ops (pl.map bu):=by
   have:bu (k,j)=((bu (k,j)).1,j):=by unfold bu;split<;>first|rfl|(rename_i heq;cases heq;rfl)
   rw[List.map_cons,this]
   simp[au,ho]
  rw[hgp]
  simp only[cZ] at hr
  split at hr
  ·rename_i hw
   have hwant:=bB hE.er hg hw
   split at hr
   ·
    rename_i hk1
    subst hk1
    split at hr
    rotate_left
    ·cases hr
    rename_i nn row xx
    split at hr
    rotate_left
    ·cases hr
    rename_i b off hev
    split at hr
    rotate_left
    ·cases hr
    rename_i hat
    obtain⟨hat,hbW,hs⟩:=hat
    split at hr
    rotate_left
    ·cases hr
    rename_i v H1 hrun
    obtain⟨q1,_,_,_,c,u,q2,q34,q5,q6⟩:=kR (fu hk) rfl hE.er h hrun
    subst q1
    cases q2
    obtain⟨oc,q4⟩:∃oc,σ b=some (c,oc):=by
     rcases q34 with⟨b',off',oc,q3,q4⟩|⟨_,_,_,_,q3,_⟩
     ·rw[hev] at q3
      cases q3
      exact⟨oc,q4⟩
     ·rw[hev] at q3
      cases q3
    have hgw:=(hG hs).1
    obtain⟨xb,hxb⟩:=Option.isSome_iff_exists.1 hat
    have hc0:σ b=σ0 b:=hF.dom b (AH.at_lt h0 hxb)
    rw[hc0] at q4
    obtain⟨cs0,p2,p3,p4⟩:=h0.blk b xb c oc hxb q4
    have hout:∀b' o',W.contains b'=true->σ0 b'≠some (c,o'):=λb' o' h1 h2=>by
     obtain⟨xb',hxb'⟩:=Option.isSome_iff_exists.1 (List.all_eq_true.1 hW b' (List.contains_iff_mem.1 h1))
     have:=h0.inj b b' xb xb' c oc o' hxb hxb' q4 h2
     subst this
     rw[hbW] at h1
     cases h1
    have hcell:∀{w':World},C2 W σ0 w0 w'->∀i,w'.cell? ⟨c,i,none⟩=w0.cell? ⟨c,i,none⟩:=λhw' i=>by
     have:=hw' c _ _ _ p3 hout
     simp only[World.cell?,this]
    show ao P .any ops Q (SW L W H0 σ0 w0) fl ((1,j,o)::au ops (pl.map bu)) a w
    unfold ao
    rw[if_pos hwant]
    refine⟨u,λw' hw'=>q6 w' (λi=>(hcell hw'.1 i).trans (hcell hgw i).symm),?_⟩
    exact fm hC h0 hW hp pl r hl2 hr (hE.put q5 hd) h hF hG hQ
   ·split at hr
    ·
     rename_i hk1 hk2
     subst hk2
     split at hr
     rotate_left
     ·cases hr
     rename_i xx
     split at hr
     rotate_left
     ·cases hr
     rename_i hkind
     split at hr
     rotate_left
     ·cases hr
     rename_i v H1 hrun
     obtain⟨q1,u,q2,q3⟩:=jz (fu hk) hkind hE.er h hrun
     subst q1
     show ao P .any ops Q (SW L W H0 σ0 w0) fl ((2,j,o)::au ops (pl.map bu)) a w
     unfold ao
     rw[if_pos hwant]
     exact⟨u,q3,fm hC h0 hW hp pl r hl2 hr (hE.put q2 hd) h hF hG hQ⟩
    ·rename_i hk1 hk2
     split at hr
     ·
      rename_i hk4
      subst hk4
      split at hr
      rotate_left
      ·cases hr
      rename_i z ok xx kk
      split at hr
      rotate_left
      ·cases hr
      rename_i b i q j' H1 h1 h2 hrun
      split at hr
      rotate_left
      ·cases hr
      rename_i hcond
      obtain⟨rfl,hsome,hs,hL⟩:=hcond
      obtain⟨hH,c,d,g1,g2,g3⟩:=yP hk hE.er h h1 h2 hrun
      subst hH
      obtain⟨d0,hd0,hn0⟩:∃d0,bA H0.mp b=some d0/\nD d0=true:=by
       cases hq:bA H0.mp b with
       |none=>rw[hq] at hsome;cases hsome
       |some d0=>rw[hq] at hsome;exact⟨d0,rfl,hsome⟩
      have hdd:=(hG hs).2.2 hL b d0 hd0 hn0
      rw[g2] at hdd
      cases hdd
      have hrun':∀w',SW L W H0 σ0 w0 w'->(execOp a.eval o).run P w'= .ok (.value (.int q j')) w':=λw' hw'=>by
       obtain⟨c',es,clock,σ',k1,k2,k3⟩:=hw'.2 hL b d hd0 hn0
       have:=hF.ext.nm _ _ k1
       rw[g1] at this
       cases this
       exact g3 w' es clock σ' k2 k3
      show ao P .any ops Q (SW L W H0 σ0 w0) fl ((1,j,o)::au ops (pl.map bu)) a w
      unfold ao
      rw[if_pos hwant]
      exact⟨_,hrun',fm hC h0 hW hp pl r hl2 hr (hE.put (.n q j') hd) h hF hG hQ⟩
     rename_i hk4
     have hu0:(bu (k,j)).1=0:=by
      have:k=0\/k=3:=by omega
      rcases this with rfl|rfl<;>rfl
     rw[hu0]
     split at hr
     ·
      rename_i hst
      split at hr
      rotate_left
      ·cases hr
      rename_i v H1 hrun
      split at hr
      rotate_left
      ·cases hr
      rename_i hks
      unfold stW at hst
      split at hst
      rotate_left
      ·cases hst
      rename_i nn xx yy
      split at hst
      rotate_left
      ·cases hst
      rename_i b off hev
      obtain⟨c,oc,u,w1,g1,g2,g3,g4,g5,g6⟩:=Au (fu hk) hE.er h hrun hev
      have hin:∀R:Exit->Act->World->Prop,R .normal (a.put o.dst u) w1->wpList P ops R [o] a w:=λR hR=>by
       refine bE hwant ?_
       unfold Oper.wp
       rcases g2 with⟨g2,rfl⟩
       rw[g2]
       exact hR
      have hG1:(s&&(!L||mpEq H1.mp H0.mp))=true->C2 W σ0 w0 w1/\Kq H0 w0 σ/\(L=true->∀b d,bA H0.mp b=some d->nD d=true->bA H1.mp b=some d):=λhs=>by
       rw[Bool.and_eq_true] at hs
       obtain⟨k1,k2,_⟩:=hG hs.1
       refine⟨λc' cs t fr hc' hno=>?_,k2,λhL b d hb hn=>by
        have h2:=hs.2
        rw[hL] at h2
        exact mz h2 hb hn⟩
       rw[<-k1 c' cs t fr hc' hno]
       refine g6 c' λe=>?_
       subst e
       obtain⟨xb,hxb⟩:=Option.isSome_iff_exists.1 (List.all_eq_true.1 hW b (List.contains_iff_mem.1 hst))
       have:σ b=σ0 b:=hF.dom b (AH.at_lt h0 hxb)
       rw[this] at g1
       exact hno b oc hst g1
      have next:=fm hC h0 hW hp pl r hl2 hr (hE.put g3 hd) g4 (hF.trans g5 h) hG1 hQ
      unfold ao
      split
      ·exact hin _ next
      ·rename_i hsee'
       refine hin _ ⟨?_,next⟩
       rcases hks with rfl|hs
       ·exact absurd (hsee rfl) hsee'
       ·have g:=hG1 (by rw[hs.1,hs.2];rfl)
        exact⟨g.1,λhL=>Ks.of h0 g4 (hF.ext.trans g5.ext) (g.2.2 hL)⟩
     ·split at hr
      rotate_left
      ·cases hr
      rename_i v H1 hrun
      split at hr
      rotate_left
      ·cases hr
      rename_i hlow
      have hstep:∀(R:Exit->Act->World->Prop),(∀c a w,R (.panic c) a w->False)->(∀u w1 σ1,VR σ1 v u->HR B σ1 {H1 with low:=min H.low H1.low} w1->Fr B σ σ1 {H with low:=2^40} H1 w w1->R .normal (a.put o.dst u) w1)->wpList P ops R [o] a w:=λR _ hR=>
       bE hwant (uL hC hk hE.er (h.relow _) hrun λu w1 σ1 q1 q2 q3=>hR u w1 σ1 q1 (q2.relow _) q3)
      have hG1:∀{σ1:Sg} {w1:World},Fr B σ σ1 {H with low:=2^40} H1 w w1->(s&&decide (H0.next<=H1.low)&&(!L||mpEq H1.mp H0.mp))=true->C2 W σ0 w0 w1/\Kq H0 w0 σ1/\(L=true->∀b d,bA H0.mp b=some d->nD d=true->bA {H1 with low:=min H.low H1.low}.mp b=some d):=λ{σ1 w1} q3 hs0=>by
       rw[Bool.and_eq_true] at hs0
       obtain⟨hs,hs2⟩:=hs0
       simp only[Bool.and_eq_true,decide_eq_true_eq] at hs
       obtain⟨k1,k2,_⟩:=hG hs.1
       refine⟨λc cs t fr hc hno=>?_,λb c o' hb hσ=>?_,λhL b d hb hn=>by
        rw[hL] at hs2
        exact mz hs2 hb hn⟩
       ·have hclt:=(Array.getElem?_eq_some_iff.1 hc).1
        have e1:=k1 c cs t fr hc hno
        rw[<-e1]
        rcases q3.old c (Nat.lt_of_lt_of_le hclt hF.bel.size) with e|⟨b,o',h1,h2,h3⟩|hn
        ·exact e
        ·have:=k2 b c o' (Nat.le_trans hs.2 h3) h2
         omega
        ·rw[e1] at hn
         exact absurd hc (hn _ _ _)
       ·by_cases hbn:b<H.next
        ·rw[q3.dom b hbn] at hσ
         exact k2 b c o' hb hσ
        ·by_cases hcw:c<w.heap.size
         ·obtain⟨b0,o0,m1,m2,m3⟩:=q3.new b c o' (Nat.le_of_not_lt hbn) hσ hcw
          exact k2 b0 c o0 (Nat.le_trans hs.2 m3) m2
         ·exact Nat.le_trans hF.bel.size (Nat.le_of_not_lt hcw)
      unfold ao
      split
      ·refine hstep _ (λc a w hq=>?_) (λu w1 σ1 q1 q2 q3=>fm hC h0 hW hp pl r hl2 hr ((hE.mono q3.ext).put q1 hd) q2 (hF.trans q3.relow h) (hG1 q3) hQ)
       exact hp _ _ _ hq
      ·rename_i hsee'
       refine hstep _ (λc a w hq=>?_) (λu w1 σ1 q1 q2 q3=>⟨?_,fm hC h0 hW hp pl r hl2 hr ((hE.mono q3.ext).put q1 hd) q2 (hF.trans q3.relow h) (hG1 q3) hQ⟩)
       ·exact hp _ _ _ hq
       ·rcases hlow with rfl|hlow
        ·exact absurd (hsee rfl) hsee'
        ·have g:=hG1 q3 (by rw[hlow.2.1,hlow.2.2];simpa using hlow.1)
         exact⟨g.1,λhL=>Ks.of h0 q2 (hF.ext.trans q3.ext) (g.2.2 hL)⟩
  ·rename_i hw
   split at hr
   rotate_left
   ·cases hr
   rename_i hlow
   have hwant:=bB hE.er hg hw
   have hput:=hE.put (u:=undef) (v:= .tup []) (.tup rfl (λi v h=>by simp at h)) hd
   have next:=fm hC h0 hW hp pl r hl2 hr hput h hF hG hQ
   have:(bu (k,j)).1=0\/(bu (k,j)).1=1\/(bu (k,j)).1=2:=by
    have:k=0\/k=1\/k=2\/k=3\/k=4:=by omega
    rcases this with rfl|rfl|rfl|rfl|rfl<;>simp[bu]
   rcases this with q|q|q<;>rw[q]
   ·have hskip:∀R:Exit->Act->World->Prop,R .normal (a.put o.dst undef) w->wpList P ops R [o] a w:=λR hR=>by
     unfold wpList
     rw[hwant,if_neg (by simp)]
     exact hR
    unfold ao
    split
    ·exact hskip _ next
    ·rename_i hs
     refine hskip _ ⟨?_,next⟩
     have:k=0\/k=1\/k=2\/k=3\/k=4:=by omega
     rcases this with rfl|rfl|rfl|rfl|rfl
     ·have g:=hG (hlow rfl)
      exact⟨g.1,λhL=>Ks.of h0 h hF.ext (g.2.2 hL)⟩
     ·simp[bu] at q
     ·simp[bu] at q
     ·exact absurd (hsee rfl) hs
     ·simp[bu] at q
   ·unfold ao
    rw[hwant,if_neg (by simp)]
    exact next
   ·unfold ao
    rw[hwant,if_neg (by simp)]
    exact next
  ·cases hr
theorem ij(hC:dD P B call){id:Nat}{pu:List Nat}{pl:List (Nat×Nat)}{l':List (Nat×AO)}(hm:P.follows .mixedOrders=true)(hB:pq .any ops fl pu (pl.map bu)=true)(hl:eu P n ops fl pl=some l')
  {σ:Sg} {e:Tr AV} {H:AH} {a:Act} {w:World} (hW:W.all (λb=>(H.at b).isSome)=true) (hr:cZ call L W H true l' e H=some (e',H')) (hE:EN n σ e a) (h:HR B σ H w) (hp:∀c a w,¬Q (.panic c) a w)
  (hQ:∀a' w' σ',EN n σ' e' a'->HR B σ' H' w'->Fr B σ σ' H H' w w'->Q .normal a' w'):(Code.region id ops true).wp P Q a w:=by
 have hops:ops=ops.toList.toArray:=by simp
 rw[hops]
 rw[hops] at hB
 have hd:HR B σ H w.drew:=⟨h.new,h.newl,h.old,h.small,h.hB,h.nil,h.nilp,h.blk,h.szs,h.inj,h.frz,h.ob.of_eq rfl⟩
 refine cT (SW L W H σ w.drew) fl pu (pl.map bu) hm hB (λc a d v w hq=>(hp _ _ _ hq).elim) ⟨C2.refl _ _ _,λ_=>Ks.of hd hd (Sg.le_refl _) (λ_ _ h _=>h)⟩ ?_
 rw[<-hops]
 refine fm hC hd hW hp pl l' hl hr hE hd (Fr.refl hd) (λ_=>⟨C2.refl _ _ _,λb c o hb hσ=>?_,λ_ _ _ h _=>h⟩) (λa' w' σ' q1 q2 q3=>?_)
 ·rw[h.new b hb] at hσ;cases hσ
 ·exact hQ a' w' σ' q1 q2 ⟨q3.dom,q3.ext,q3.nxt,q3.low,(Below.refl _ _).drew.trans q3.bel,q3.old,q3.new⟩
end
end Go.Proofs.YtdpkgnmmikebdaaGreat