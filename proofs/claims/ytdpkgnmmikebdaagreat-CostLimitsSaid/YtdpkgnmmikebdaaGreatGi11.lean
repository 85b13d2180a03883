/- A part of the proof of CostLimits. No condition. -/
import Derived.Maps.RangeRun
import Derived.Test.YtdpkgnmmikebdaaGreatGi09
import Derived.Test.YtdpkgnmmikebdaaGreatGi10
import Derived.Test.YtdpkgnmmikebdaaGreatGi02
set_option linter.unusedSimpArgs false
set_option linter.unusedVariables false
set_option linter.constructorNameAsVariable false
set_option maxRecDepth 100000
set_option maxHeartbeats 4000000
namespace Go.Proofs.YtdpkgnmmikebdaaGreat
open Go.RowKit Go.MapKept
section
variable {x':AX}{es:Array MapEntry}{k:Int}{d:List (Int×AV)}{c i r:Nat}{ob:Nat->Option OB}{x:Operand}{t:TypeId}{u:Value}
inductive MO where
 |mm
 |lk (z:AV) (ok:Bool) (x k:AX)
 |mu (m k v:AX)
 |me (z:AV) (m k:AX)
 |es (m s v:AX)
 |rg (x:AX)
 |nx (x:AX)
 |en (x:AX)
 |ln (x:AX)
 |mn (neg:Bool) (x:AX)
 |mx (x y:AX)
 |mi (x y:AX)
 |lz (z:AV) (ok:Bool) (x k:AX)
 |cp (esz:Nat) (x y:AX)
 |cu (esz:Nat) (x hi mx:AX)
def r7(P:Program)(t:TypeId):Option TypeId:=match P.underlying t with
 |some (.map K E)=>match P.underlying K with
  |some (.int .i64)=>some E
  |_=>none
 |_=>none
theorem my{P:Program}{E:TypeId}(h:r7 P t=some E):∃K,P.underlying t=some (.map K E)/\P.underlying K=some (.int .i64):=by
 unfold r7 at h;split at h
 ·rename_i K E' e1;split at h
  ·rename_i e2;cases h;exact⟨K,e1,e2⟩
  ·cases h
 ·cases h
def wA(P:Program)(E:TypeId):Option AV:=(P.info? E).bind λi=>i.zero.bind λz=>(uT z).bind λa=>if a.flat0=true then some a else none
def Dq(P:Program)(E:TypeId):Option AV:=(P.info? E).bind λi=>i.zero.bind λz=>match z with
 |.agg cs=>(cs.toList.mapM uT).map .agg
 |_=>none
def zv(P:Program)(o:Op):Option MO:=match o with
 |.makeMap _ none=>some .mm
 |.lookup t x k ok=>(r7 P t).bind λE=>(fF x).bind λx=>(fF k).bind λk=>match wA P E with
  |some z=>some (.lk z ok x k)
  |none=>(Dq P E).map λz=> .lz z ok x k
 |.mapUpdate t m k v=>(r7 P t).bind λ_=>(fF m).bind λm=>(fF k).bind λk=>(fF v).map λv=> .mu m k v
 |.insert t m k v=>(r7 P t).bind λ_=>(fF m).bind λm=>(fF k).bind λk=>(fF v).map λv=> .mu m k v
 |.mapEntry t m k=>(r7 P t).bind λE=>(fF m).bind λm=>(fF k).bind λk=>(wA P E).map λz=> .me z m k
 |.entryStore _ m s v=>(fF m).bind λm=>(fF s).bind λs=>(fF v).map λv=> .es m s v
 |.range t x=>(r7 P t).bind λ_=>(fF x).map .rg
 |.next x false=>(fF x).map .nx
 |.entry x=>(fF x).map .en
 |.call ⟨.builtin .len,⟨[x]⟩,⟨[t]⟩⟩=>(r7 P t).bind λ_=>(fF x).map .ln
 |.call ⟨.builtin .max,⟨[x,y]⟩,_⟩=>(fF x).bind λx=>(fF y).map λy=> .mx x y
 |.call ⟨.builtin .copy,⟨[x,y]⟩,⟨[t,t']⟩⟩=>match P.underlying t,P.underlying t' with
  |some (.slice el),some (.slice _)=>(P.info? el).bind λi=>(fF x).bind λx=>(fF y).map λy=> .cp i.size x y
  |_,_=>none
 |.call ⟨.builtin .min,⟨[x,y]⟩,_⟩=>(fF x).bind λx=>(fF y).map λy=> .mi x y
 |.binOp .eql t x (.const (.map none)) _=>(r7 P t).bind λ_=>(fF x).map (.mn false)
 |.binOp .neq t x (.const (.map none)) _=>(r7 P t).bind λ_=>(fF x).map (.mn true)
 |.slice t x none (some hi) (some mx)=>match P.underlying t with
  |some (.slice el)=>(P.info? el).bind λi=>(fF x).bind λx=>(fF hi).bind λhi=>(fF mx).map λmx=> .cu i.size x hi mx
  |_=>none
 |_=>none
def MO.isCu:MO->Bool
 |.cu _ _ _ _=>true
 |_=>false
def OB.clr:OB->OB
 |.mp x=> .mp x
 |.it y=> .it {y with cur:=none}
 |.fix o=> .fix o
section
variable {P:Program} {B:Nat} {σ:Sg} {e:Tr AV} {a:Act} {H:AH} {w:World} {o:Oper} {Q:Exit->Act->World->Prop}
theorem OR.alloc(h:OR B ob w)(o:Obj):OR B ob (w.alloc o):=h.keep λr hr _=>Below.heap_alloc _ _ _ hr
theorem OR.lt(h:OR B ob w){x:OB}(hx:ob r=some x):r<w.heap.size:=by
 have:=h r x hx;cases x with
 |mp x=>obtain⟨_,es,c,h1,_⟩:=this;exact(apo.1 h1).1
 |it y=>obtain⟨_,_,_,_,es,c,h1,_⟩:=this;exact(apo.1 h1).1
 |fix o=>exact(apo.1 this.2.1).1
theorem OR.free(h:OR B ob w):ob w.heap.size=none:=by
 cases hx:ob w.heap.size with
 |none=>rfl
 |some x=>have:=h.lt hx;omega
theorem nU(k:Int):∀(l:List MapEntry) (j:Nat),(∀e ∈ l,∃n,e.key= .int .i64 n)->
  (Instr.findNow (.int .i64) (.int .i64 k) l j=some none/\∀e ∈ l,e.key≠ .int .i64 k)\/∃i e,Instr.findNow (.int .i64) (.int .i64 k) l j=some (some (j+i,e.val))/\l[i]? =some e/\e.key= .int .i64 k
 |[],_,_=> .inl ⟨rfl,λe he=>by cases he⟩
 |e::l,j,h=>by
  obtain⟨n,hn⟩:=h e (aps ..);simp only[Instr.findNow,hn,Instr.sameNow,if_true];by_cases hkn:k=n
  ·subst hkn;exact .inr ⟨0,e,ae,rfl,hn⟩
  ·have hb:(k==n)=false:=by simpa using hkn
   rw[hb];rcases nU k l (j+1) (λx hx=>h x (apx _ hx)) with⟨h1,h2⟩|⟨i,x,h1,h2,h3⟩
   ·refine .inl ⟨h1,λx hx=>?_⟩;rcases apv.1 hx with rfl|hx
    ·rw[hn];intro e;cases e;exact hkn rfl
    ·exact h2 x hx
   ·exact .inr ⟨i+1,x,by rw[h1];simp;omega,by simpa using h2,h3⟩
section
variable {T K E:TypeId} (hT:P.underlying T=some (.map K E)) (hK:P.underlying K=some (.int .i64))
include hT hK
theorem wZ(hr:w.heap[r]? =some (.map es c))(hi:∀e ∈ es.toList,∃n,e.key= .int .i64 n)(k:Int)(ok:Bool){z:Value}(hz:(zeroValue E).run P w= .ok z w):
  ((Instr.lookup T (.map (some r)) (.int .i64 k) ok).run P w= .ok (if ok=true then .tuple #[z,.bool false] else z) w/\∀e ∈ es.toList,e.key≠ .int .i64 k)\/
  ∃e ∈ es.toList,e.key= .int .i64 k/\(Instr.lookup T (.map (some r)) (.int .i64 k) ok).run P w= .ok (if ok=true then .tuple #[e.val,.bool true] else e.val) w:=by
 have hc:MapKept.IsKey (.int .i64) (.int .i64 k):=by simp[MapKept.IsKey]
 rcases nU k es.toList 0 hi with⟨h1,h2⟩|⟨i,e,h1,h2,h3⟩
 ·refine .inl ⟨?_,h2⟩;cases ok<;>simp[Instr.lookup,run_underlying hT,MapKept.run_getObj_map hr,MapKept.run_checkKey hK hc,MapKept.run_findKey hK h1,Result.andThen,hz]
 ·refine .inr ⟨e,apB h2,h3,?_⟩;cases ok<;>simp[Instr.lookup,run_underlying hT,MapKept.run_getObj_map hr,MapKept.run_checkKey hK hc,MapKept.run_findKey hK h1,Result.andThen]
theorem vq(k:Int)(ok:Bool){z:Value}(hz:(zeroValue E).run P w= .ok z w):
  (Instr.lookup T (.map none) (.int .i64 k) ok).run P w= .ok (if ok=true then .tuple #[z,.bool false] else z) w:=by
 have hc:MapKept.IsKey (.int .i64) (.int .i64 k):=by simp[MapKept.IsKey]
 have h1:Instr.findNow (.int .i64) (.int .i64 k) (#[]:Array MapEntry).toList 0=some none:=rfl;cases ok<;>simp[Instr.lookup,run_underlying hT,MapKept.run_checkKey hK hc,MapKept.run_findKey hK h1,Result.andThen,hz]
end
def xF(k:Int)(u:Value)(c:Nat):MapEntry:={key:= .int .i64 k,val:=u,born:=c}
def qX(k:Int)(u:Value)(e:MapEntry):MapEntry:={e with key:= .int .i64 k,val:=u}
theorem pc{e0:MapEntry}(h0:es[i]? =some e0)(hk:e0.key= .int .i64 k):
  (es.modify i (qX k u)).toList.map (λe=>(e.key,e.born))=es.toList.map (λe=>(e.key,e.born)):=by
 apply List.ext_getElem?;intro j;simp only[List.getElem?_map,apC,apN];by_cases e:i=j
 ·subst e;rw[if_pos rfl,h0];simp[qX,hk]
 ·rw[if_neg e]
theorem kJ{es':Array MapEntry}(hm:es'.toList.map (λe=>(e.key,e.born))=es.toList.map (λe=>(e.key,e.born))){e:MapEntry}(he:e ∈ es.toList):∃e' ∈ es'.toList,e'.key=e.key/\e'.born=e.born:=by
 have:(e.key,e.born) ∈ es'.toList.map (λe=>(e.key,e.born)):=by rw[hm];exact ap8.2 ⟨e,he,rfl⟩
 obtain⟨e',h1,h2⟩:=ap8.1 this;exact⟨e',h1,(Prod.mk.inj h2).1,(Prod.mk.inj h2).2⟩
theorem Eu{e':MapEntry}(h:e' ∈ (es.modify i (qX k u)).toList):(∃e0,es[i]? =some e0/\e'=qX k u e0)\/∃j,j≠i/\es[j]? =some e':=by
 obtain⟨j,hj⟩:=aqk.1 h;rw[apC,apN] at hj;by_cases e:i=j
 ·subst e;rw[if_pos rfl] at hj;obtain⟨e0,h1,rfl⟩:=apc.1 hj;exact .inl ⟨e0,h1,rfl⟩
 ·rw[if_neg e] at hj;exact .inr ⟨j,λq=>e q.symm,hj⟩
theorem qs(h:es.toList.Pairwise λa b=>a.key≠b.key/\a.born<b.born){a b:Nat}{x y:MapEntry}(ha:es[a]? =some x)(hb:es[b]? =some y)(hab:a≠b):x.key≠y.key/\x.born≠y.born:=by
 obtain⟨ha1,ha2⟩:=apo.1 ha;obtain⟨hb1,hb2⟩:=apo.1 hb;rw[List.pairwise_iff_getElem] at h;rcases Nat.lt_or_gt_of_ne hab with h1|h1
 ·have:=h a b (by simpa using ha1) (by simpa using hb1) h1
  simp only[Array.getElem_toList,ha2,hb2] at this;exact⟨this.1,aa⟩
 ·have:=h b a (by simpa using hb1) (by simpa using ha1) h1
  simp only[Array.getElem_toList,ha2,hb2] at this;exact⟨λe=>this.1 e.symm,aa⟩
theorem jw{o:Option Obj}(h:o=some (.map es c)):jD o:=λcs t fr e=>by rw[h] at e;cases e
theorem zr{m:Option Nat}{s:Nat}{q:Array Nat}{o:Option Obj}(h:o=some (.mapIter m s q c)):jD o:=λcs t fr e=>by rw[h] at e;cases e
theorem jX(hx:fF x=some x')(hE:ER σ e a){v:Value}(hv:x'.ev e=some (.cv v)):a.eval x=v:=by
 have:=gb hx hE hv;cases this;rfl
theorem lU(hx:fF x=some x')(hE:ER σ e a){k:IntKind}{i:Int}(hv:x'.ev e=some (.n k i)):a.eval x= .int k i:=by
 have:=gb hx hE hv;generalize a.eval x=u at this ⊢;cases this;rfl
theorem AV.flat_of0{v:AV}(h:v.flat0=true):v.flat=true:=by
 cases v with
 |agg l=>cases h
 |_=>exact h
theorem sV{E:TypeId}{z:AV}(h:wA P E=some z)(w:World):∃u,(zeroValue E).run P w= .ok u w/\z.flat=true/\∀σ:Sg,VR σ z u:=by
 unfold wA at h;obtain⟨i,hi,h⟩:=bM.1 h;obtain⟨u,hu,h⟩:=bM.1 h;obtain⟨z',hz,h⟩:=bM.1 h;split at h
 ·rename_i hf;cases h;exact⟨u,by simp[zeroValue,typeInfo,Sem.run_bind,hi,hu],AV.flat_of0 hf,λσ=>v6 hz σ⟩
 ·cases h
section
variable {T K E:TypeId} (hT:P.underlying T=some (.map K E)) (hK:P.underlying K=some (.int .i64))
include hT hK
theorem Aq(hr:w.heap[r]? =some (.map es c))(hi:∀e ∈ es.toList,∃n,e.key= .int .i64 n)(k:Int)(u:Value):
  ((Instr.mapUpdate T (.map (some r)) (.int .i64 k) u).run P w= .ok () {w with heap:=w.heap.setIfInBounds r (.map (es.push (xF k u c)) (c+1))}/\∀e ∈ es.toList,e.key≠ .int .i64 k)\/
  ∃i e,es[i]? =some e/\e.key= .int .i64 k/\(Instr.mapUpdate T (.map (some r)) (.int .i64 k) u).run P w= .ok () {w with heap:=w.heap.setIfInBounds r (.map (es.modify i (qX k u)) c)}:=by
 have hc:MapKept.IsKey (.int .i64) (.int .i64 k):=by simp[MapKept.IsKey]
 rcases nU k es.toList 0 hi with⟨h1,h2⟩|⟨i,e,h1,h2,h3⟩
 ·refine .inl ⟨?_,h2⟩;simp[Instr.mapUpdate,run_underlying hT,MapKept.run_getObj_map hr,MapKept.run_checkKey hK hc,MapKept.run_findKey hK h1,MapKept.run_setObj_map _ hr,Result.andThen,xF]
 ·rw[apz] at h1;rw[apC] at h2;refine .inr ⟨i,e,h2,h3,?_⟩;simp[Instr.mapUpdate,run_underlying hT,MapKept.run_getObj_map hr,MapKept.run_checkKey hK hc,MapKept.run_findKey hK h1,MapKept.run_setObj_map _ hr,Result.andThen,h2,h3,MapKept.run_keyThatStays hc];rfl
end
theorem te.more{x:OB}(h:te ob c)(hc:c≠r)(hx:∀y,x= .it y->y.m≠c):te (λr'=>if r'=r then some x else ob r') c:=by
 refine⟨by show(if c=r then _ else _)=none;rw[if_neg hc];exact h.1,λr' y hy=>?_⟩
 have hy:(if r'=r then some x else ob r')=some (.it y):=hy
 by_cases e:r'=r
 ·rw[if_pos e] at hy;cases hy;exact hx y rfl
 ·rw[if_neg e] at hy;exact h.2 r' y hy
theorem te.turn{x:nG}(h:te ob c)(hc:c≠r):te (λr'=>if r'=r then some (.mp x) else(ob r').map OB.clr) c:=by
 refine⟨by show(if c=r then _ else _)=none;rw[if_neg hc,h.1];rfl,λr' y hy=>?_⟩
 have hy:(if r'=r then some (OB.mp x) else(ob r').map OB.clr)=some (.it y):=hy
 by_cases e:r'=r
 ·rw[if_pos e] at hy;cases hy
 ·rw[if_neg e] at hy;obtain⟨z,hz,hz2⟩:=apc.1 hy;cases z with
  |it y0=>cases hz2;exact h.2 r' y0 hz
  |mp x0=>cases hz2
  |fix o=>cases hz2
theorem HR.turnM(h:HR B σ H w){o:Obj}{mp:List (Nat×List (Int×AV))}(hB:B<=r)(hr:jD w.heap[r]?)(hob:OM B σ mp ob {w with heap:=w.heap.setIfInBounds r o}):
  HR B σ {H with ob:=ob,mp:=mp} {w with heap:=w.heap.setIfInBounds r o}/\Fr B σ σ H {H with ob:=ob,mp:=mp} w {w with heap:=w.heap.setIfInBounds r o}:=by
 have same:∀c,c≠r->(w.heap.setIfInBounds r o)[c]? =w.heap[c]? :=λc hc=>by rw[aqd (Ne.symm hc)]
 have cel:∀(c:Nat) (cs:Array Value) (t:TypeId) (fr:Nat×Nat),w.heap[c]? =some (Obj.cells cs t fr)->c≠r:=λc cs t fr hc e=>hr _ _ _ (e ▸ hc);refine⟨⟨h.new,h.newl,h.old,h.small,by simp;exact h.hB,h.nil,h.nilp,λb x c oc hx hs=>?_,h.szs,h.inj,λc fs hf=>?_,hob⟩,⟨λ_ _=>rfl,σ.le_refl,bL _,bL _,⟨rfl,rfl,rfl,ae,λc hc=>same c aa⟩,λc hc=>?_,λb c oc hb hs=>by rw[h.new b hb] at hs;cases hs⟩⟩
 ·obtain⟨cs,e1,e2,e3⟩:=h.blk b x c oc hx hs;exact⟨cs,e1,(same c (cel _ _ _ _ e2)).trans e2,e3⟩
 ·obtain⟨cs,t,fr,e1,e2,e3⟩:=h.frz c fs hf;exact⟨cs,t,fr,(same c (cel _ _ _ _ e1)).trans e1,e2,e3⟩
 ·by_cases e:c=r
  ·exact .inr (.inr (e ▸ hr))
  ·exact .inl (same c e)
theorem HR.turn(h:HR B σ H w){o:Obj}(hB:B<=r)(hr:jD w.heap[r]?)(hob:OR B ob {w with heap:=w.heap.setIfInBounds r o})(hro:H.ob r≠none)(hsub:∀c,te H.ob c->c≠r->te ob c):
  HR B σ {H with ob:=ob} {w with heap:=w.heap.setIfInBounds r o}/\Fr B σ σ H {H with ob:=ob} w {w with heap:=w.heap.setIfInBounds r o}:=
 h.turnM hB hr ⟨hob,λb d hb=>by
  obtain⟨c,es,clock,k1,k2,k3,k4,k5⟩:=h.ob.m b d hb;have hcr:c≠r:=λe=>hro (e ▸ k4.1);exact⟨c,es,clock,k1,k2,(aqd (Ne.symm hcr)).trans k3,hsub c k4 hcr,k5⟩,h.ob.i⟩
/-! ### entries by key-/
theorem kD(k:Int)(v:AV)(q:Int):∀d:List (Int×AV),nh (zl d k v) q=if q=k then some v else nh d q
 |[]=>by
  show(if k=q then some v else none)=_
  by_cases e:q=k
  ·rw[if_pos e,if_pos e.symm]
  ·rw[if_neg e,if_neg (λe'=>e e'.symm)];rfl
 |(k',v')::d=>by
  have ih:=kD k v q d;unfold zl;by_cases e1:k'=k
  ·rw[if_pos e1];subst e1;show(if k'=q then some v else nh d q)=_
   by_cases e:q=k'
   ·rw[if_pos e,if_pos e.symm]
   ·rw[if_neg e,if_neg (λe'=>e e'.symm)];show _=if k'=q then some v' else nh d q
    rw[if_neg (λe'=>e e'.symm)]
  ·rw[if_neg e1];show(if k'=q then some v' else nh (zl d k v) q)=if q=k then some v else(if k'=q then some v' else nh d q)
   by_cases e:k'=q
   ·rw[if_pos e,if_pos e,if_neg (λe'=>e1 (e.trans e'))]
   ·rw[if_neg e,if_neg e,ih]
theorem MD.int(h:MD σ d es c):∀e ∈ es.toList,∃n,e.key= .int .i64 n:=λe he=>by
 obtain⟨_,k,v,h1,_⟩:=h.ent e he;exact⟨k,h1⟩
theorem MD.miss(h:MD σ d es c)(hk:∀e ∈ es.toList,e.key≠ .int .i64 k):nh d k=none:=by
 cases hx:nh d k with
 |none=>rfl
 |some v=>
  obtain⟨e,h1,h2⟩:=h.dom k v hx;exact absurd h2 (hk e h1)
theorem MD.hit(h:MD σ d es c){e:MapEntry}(he:e ∈ es.toList)(hk:e.key= .int .i64 k):∃v,nh d k=some v/\VR σ v e.val:=by
 obtain⟨_,k',v,h1,h2,h3⟩:=h.ent e he;rw[hk] at h1;cases h1;exact⟨v,h2,h3⟩
theorem MD.push(h:MD σ d es c)(hk:∀e ∈ es.toList,e.key≠ .int .i64 k){v:AV}(hu:VR σ v u):MD σ (zl d k v) (es.push (xF k u c)) (c+1):=by
 refine⟨λe he=>?_,λq y hq=>?_,?_⟩
 ·rw[apR] at he;rcases apS.1 he with he|he
  ·obtain⟨h0,q,y,h1,h2,h3⟩:=h.ent e he;refine⟨aa,q,y,h1,?_,h3⟩;rw[kD,if_neg (λe'=>hk e he (by rw[h1,e']))];exact h2
  ·rw[apy.1 he];exact⟨apG c,k,v,rfl,by rw[kD,if_pos rfl],hu⟩
 ·rw[kD] at hq;rw[apR];by_cases e:q=k
  ·exact aqD
  ·exact aqE
 ·rw[apR,List.pairwise_append];refine⟨h.one,List.pairwise_singleton _ _,λa ha b hb=>?_⟩;rw[apy.1 hb];exact⟨hk a ha,(h.ent a ha).1⟩
theorem MD.modify(h:MD σ d es c){e0:MapEntry}(h0:es[i]? =some e0)(hk:e0.key= .int .i64 k){v:AV}(hu:VR σ v u):MD σ (zl d k v) (es.modify i (qX k u)) c:=by
 have hm:=pc (u:=u) h0 hk;have he0:e0 ∈ es.toList:=apB (by rw[apC];exact h0)
 refine⟨λe he=>?_,λq y hq=>?_,?_⟩
 ·rcases Eu he with⟨e1,q1,rfl⟩|⟨j,hj,q1⟩
  ·rw[h0] at q1;cases q1;exact⟨(h.ent e0 he0).1,k,v,rfl,by rw[kD,if_pos rfl],hu⟩
  ·have he':e ∈ es.toList:=apB (by rw[apC];exact q1)
   obtain⟨hb,q,y,h1,h2,h3⟩:=h.ent e he';refine⟨hb,q,y,h1,?_,h3⟩;rw[kD,if_neg (λe'=>(qs h.one q1 h0 hj).1 (by rw[h1,hk,e']))];exact h2
 ·rw[kD] at hq;by_cases e:q=k
  ·exact dP
  ·exact dQ
 ·exact aqH
end
/-! ### running-/
def rtA(ok:Bool)(v:AV)(b:Bool):AV:=if ok=true then .tup [v,.b b] else v
def lkD(H:AH)(z:AV)(ok:Bool)(b:Nat)(i:Int):Option (AV×AH):=match qv H.mp b with
 |some d=>match nh d i with
  |some v=>some (rtA ok v true,H)
  |none=>some (rtA ok z false,H)
 |none=>none
def vj:AV->Option (Nat×Nat×Nat)
 |.sl b o n _=>some (b,o,n)
 |.os b n=>some (b,0,n)
 |_=>none
def C1(H:AH)(esz:Nat):Option (Nat×Nat×Nat)->Option (Nat×Nat×Nat)->Option (AV×AH)
 |some (b,o,n),some (b2,o2,n2)=>if Nat.min n2 n=0 then some (.n .i64 0,H) else if 0<esz then match H.loadN b2 o2 (Nat.min n2 n*esz) with
  |some l=>if l.all AV.one=true then(H.storeN b o l).map (.n .i64 (Nat.min n2 n:Nat),·) else none
  |none=>none
  else none
 |_,_=>none
def cuD(H:AH)(esz:Nat)(i j:Int):AV->Option (AV×AH)
 |.sl0=>if i=0/\j=0 then some (.sl0,H) else none
 |.os b len=>if i=j/\0<=i then(if i=0 then some (.sl0,H) else match H.at b with
  |some x=>if i<=len/\x.esz=esz/\x.opn=true/\x.live=true/\len*esz<=x.size/\H.next+1<2^40 then some (.os H.next i.toNat,(H.kill b).new {x with size:=i.toNat*esz}) else none
  |none=>none) else none
 |_=>none
def MO.run(e:Tr AV)(H:AH):MO->Option (AV×AH)
 |.mm=>if H.next+1<2^40 then some (.mh H.next,{H with next:=H.next+1,mp:=Et H.mp H.next []}) else none
 |.lk z ok x k=>match x.ev e,k.ev e with
  |some (.mh b),some (.n .i64 i)=>lkD H z ok b i
  |_,_=>none
 |.lz z ok x k=>match x.ev e,k.ev e with
  |some (.mh b),some (.n .i64 i)=>lkD H z ok b i
  |_,_=>none
 |.mu m k v=>match m.ev e,k.ev e,v.ev e with
  |some (.mh b),some (.n .i64 i),some v=>match qv H.mp b with
   |some d=>some (.u,{H with mp:=Et H.mp b (zl d i v)})
   |none=>none
  |_,_,_=>none
 |.mx x y=>match x.ev e,y.ev e with
  |some (.n k i),some (.n k' j)=>if k=k' then some (.n k (if i<j then j else i),H) else none
  |_,_=>none
 |.mi x y=>match x.ev e,y.ev e with
  |some (.n k i),some (.n k' j)=>if k=k' then some (.n k (if j<i then j else i),H) else none
  |_,_=>none
 |.cp esz x y=>C1 H esz ((x.ev e).bind vj) ((y.ev e).bind vj)
 |_=>none
theorem xI{σ:Sg}:∀{l:List Value} {r:List AV},l.mapM uT=some r->gn σ r l
 |[],r,h=>by simp at h;subst h;exact .nil
 |v::l,r,h=>by
  simp only[List.mapM_cons,Option.bind_eq_bind,bM,Option.pure_def,apn] at h;obtain⟨a,h1,rs,h2,rfl⟩:=h;exact .cons (v6 h1 σ) (xI h2)
section
variable {P:Program} {B:Nat} {σ:Sg} {e:Tr AV} {a:Act} {H H':AH} {w:World} {o:Oper} {v:AV} {Q:Exit->Act->World->Prop}
theorem BG{E:TypeId}{z:AV}(h:Dq P E=some z)(w:World):∃u,(zeroValue E).run P w= .ok u w/\∀σ:Sg,VR σ z u:=by
 unfold Dq at h;obtain⟨i,hi,h⟩:=bM.1 h;obtain⟨u,hu,h⟩:=bM.1 h;split at h
 ·rename_i cs;obtain⟨l,hl,rfl⟩:=apc.1 h;exact⟨.agg cs,by simp[zeroValue,typeInfo,Sem.run_bind,hi,hu],λσ=>by simpa using(xI (σ:=σ) hl).agg⟩
 ·cases h
theorem DD{v:AV}{b off n:Nat}(h:VR σ v u)(hv:vj v=some (b,off,n)):∃ad cap,u= .slice ad n cap/\(n=0\/∃c oc,ad=some ⟨c,off,none⟩/\σ.nm b=some (c,oc)):=by
 cases h with
 |sl hh=>cases hv;exact⟨_,_,rfl,.inr ⟨_,_,rfl,hh⟩⟩
 |slo hh hc h0=>cases hv;exact⟨_,_,rfl,.inr ⟨_,_,rfl,hh⟩⟩
 |os0 hh a=>cases hv;exact⟨_,_,rfl,.inl rfl⟩
 |os hh hl=>cases hv;exact⟨_,_,rfl,.inr ⟨_,_,rfl,hh⟩⟩
 |_=>cases hv
theorem aaU{t' el:TypeId}{i:TypeInfo}{y:Operand}{y':AX}(ho:o.op= .call ⟨.builtin .copy,⟨[x,y]⟩,⟨[t,t']⟩⟩)(ht:P.underlying t=some (.slice el))(hi:P.info? el=some i)(hx:fF x=some x')(hy:fF y=some y')(hE:ER σ e a)(h:HR B σ H w)
  (hr:C1 H i.size ((x'.ev e).bind vj) ((y'.ev e).bind vj)=some (v,H')) {next:Act->World->Prop} (hn:∀u w',VR σ v u->HR B σ H' w'->Fr B σ σ H H' w w'->next (a.put o.dst u) w'):o.wp P a w next Q:=by
 unfold C1 at hr;split at hr;rotate_left
 ·cases hr
 rename_i b off n b2 off2 n2 h1 h2;obtain⟨dv,h1,h1'⟩:=bM.1 h1;obtain⟨sv,h2,h2'⟩:=bM.1 h2;obtain⟨ad,cap,e1,q1⟩:=DD (gb hx hE h1) h1';obtain⟨ad2,cap2,e2,q2⟩:=DD (gb hy hE h2) h2';have hsz:∀w:World,(sizeOf el).run P w= .ok i.size w:=λw=>by simp[sizeOf,typeInfo,Sem.run_bind,hi]
 have fin:∀(w':World) (m:Nat),(Builtin.copy_ #[t,t'] o.type #[Value.slice ad n cap,Value.slice ad2 n2 cap2]).run P w= .ok (.int .i64 m) w'->v= .n .i64 m->HR B σ H' w'->Fr B σ σ H H' w w'->o.wp P a w next Q:=by
  intro w' m hb hv hH hF;subst hv;unfold Oper.wp execOp;rw[ho];simp only[resolve,invoke,builtin,Sem.run_bind,Sem.run_pure,Result.andThen_ok,apU,List.map_cons,List.map_nil,e1,e2,hb,Oper.upon];exact hn _ _ (.n _ _) hH hF
 split at hr
 ·rename_i h0;cases hr;refine fin w 0 ?_ rfl h (Fr.refl h);cases ad<;>cases ad2<;>simp[Builtin.copy_,run_underlying ht,Builtin.lenOf,hsz,h0,Builtin.firstCells,loadCells,loadCellsFrom,storeCells,goInt,Result.andThen]
 rename_i h0;split at hr;rotate_left
 ·cases hr
 rename_i hez;split at hr;rotate_left
 ·cases hr
 rename_i l hl;split at hr;rotate_left
 ·cases hr
 rename_i hone;obtain⟨H1,hs,he⟩:=apc.1 hr;cases he;have hm0:0<Nat.min n2 n*i.size:=Nat.mul_pos (Nat.pos_of_ne_zero h0) hez;have hn1:n≠0:=λe=>h0 (by rw[e];exact Nat.min_zero _)
 have hn2:n2≠0:=λe=>h0 (by rw[e];exact Nat.zero_min _)
 obtain⟨c,oc,rfl,hc⟩:=q1.resolve_left hn1;obtain⟨c2,oc2,rfl,hc2⟩:=q2.resolve_left hn2;obtain⟨c3,o3,cs,k1,k2,k3,k4,k5⟩:=h.loadN _ _ _ hl hm0;have k1:σ.nm b2=some (c3,o3):=k1;rw[hc2] at k1;cases k1;have hcl:cs.length=Nat.min n2 n*i.size:=k3.1.symm.trans k4;have hload:(loadCells ⟨c2,off2,none⟩ (Nat.min n2 n*i.size)).run P w= .ok cs.toArray w:=by
  rw[<-hcl];refine run_loadCells_list w _ cs (λj u hj=>?_);have hjl:j<cs.length:=by
   rcases Nat.lt_or_ge j cs.length with h'|h'
   ·exact h'
   ·rw[apI h'] at hj;cases hj
  rw[Addr.add_mid,k5 j aa];exact hj
 obtain⟨c4,oc4,p1,p2,p3,p4⟩:=HR.storeN _ h hs k3 aa;have p1:σ.nm b=some (c4,oc4):=p1;rw[hc] at p1;cases p1;have hst:=run_storeCells_cells (P:=P) c off cs 0 w (λj hj=>by rw[Nat.add_zero];exact(p2 j hj).1) (λj hj=>by rw[Nat.add_zero];exact(p2 j hj).2) (k3.one hone)
 rw[Nat.add_zero] at hst;refine fin (w.setCells c off cs) (Nat.min n2 n) ?_ rfl p3 p4;simp[Builtin.copy_,run_underlying ht,Builtin.lenOf,hsz,Builtin.firstCells,hload,hst,goInt,Result.andThen]
theorem aaS{el:TypeId}{i:TypeInfo}{hi mx:Operand}{hi' mx':AX}(ho:o.op= .slice t x none (some hi) (some mx))(ht:P.underlying t=some (.slice el))(hin:P.info? el=some i)(hx:fF x=some x')(hhi:fF hi=some hi')(hmx:fF mx=some mx')(hE:ER σ e a)(h:HR B σ H w)
  {v0:AV} {k1 k2:IntKind} {ii jj:Int} (e0:x'.ev e=some v0) (e1:hi'.ev e=some (.n k1 ii)) (e2:mx'.ev e=some (.n k2 jj)) (hr:cuD H i.size ii jj v0=some (v,H')) {next:Act->World->Prop}
  (hn:∀u w' σ',VR σ' v u->HR B σ' H' w'->Fr B σ σ' H H' w w'->σ'.fz=σ.fz->next (a.put o.dst u) w'):o.wp P a w next Q:=by
 have hh:=nu hhi hE e1;have hm:=nu hmx hE e2;have hv:=gb hx hE e0;have run:∀(ad:Option Addr) (m cap:Nat) (n:Nat),a.eval x= .slice ad m cap->ii=n->jj=n->n<=cap->(execOp a.eval o).run P w= .ok (.value (.slice (if n=0 then ad else ad.map λb=>b.add 0) n n)) w:=by
  rintro ad m cap n hev rfl rfl hc;have hc':(n:Int)<=(cap:Int):=aa;unfold execOp;rw[ho];by_cases hz:n=0
  ·subst hz;simp[Instr.sliceAt,Instr.slice,run_underlying ht w,hev,hh,hm,Instr.sliceBounds,Instr.sliceBound,asIntOf,sizeOf,typeInfo,hin]
  ·simp[Instr.sliceAt,Instr.slice,run_underlying ht w,hev,hh,hm,Instr.sliceBounds,Instr.sliceBound,asIntOf,sizeOf,typeInfo,hin,hc',hz];exact λhq=>absurd hq aa
 have fin:∀{u:Value} {σ':Sg},(execOp a.eval o).run P w= .ok (.value u) w->VR σ' v u->HR B σ' H' w->Fr B σ σ' H H' w w->σ'.fz=σ.fz->o.wp P a w next Q:=by
  intro u σ' hrun g1 g2 g3 g4;unfold Oper.wp;rw[hrun];exact hn _ _ _ g1 g2 g3 g4
 unfold cuD at hr;split at hr
 ·split at hr;rotate_left
  ·cases hr
  rename_i hc;obtain⟨rfl,rfl⟩:=hc;cases hr;generalize hu:a.eval x=u at hv;cases hv with
  |sl0 ad=>exact fin (run ad 0 0 0 hu rfl rfl (bL _)) (.sl0 _) h (Fr.refl h) rfl
 ·rename_i b len;split at hr;rotate_left
  ·cases hr
  rename_i hc;obtain⟨rfl,hc0⟩:=hc;obtain⟨n,rfl⟩:∃n:Nat,ii=n:=⟨ii.toNat,aa⟩;generalize hu:a.eval x=u at hv;split at hr
  ·rename_i hz;cases hr;have hn0:n=0:=aa;subst hn0;cases hv with
   |os0 hh ad=>exact fin (run ad 0 0 0 hu rfl rfl (bL _)) (.sl0 _) h (Fr.refl h) rfl
   |os hh hl=>exact fin (run _ _ _ 0 hu rfl rfl (apf _)) (.sl0 _) h (Fr.refl h) rfl
  rename_i hz;split at hr;rotate_left
  ·cases hr
  rename_i x0 hx0;split at hr;rotate_left
  ·cases hr
  rename_i hc2;obtain⟨p1,p2,p3,p4,p5,p6⟩:=hc2;rw[apw,<-p2] at hr;rw[<-p2] at p5;cases hr;have hnl:n<=len:=aa;have hnz:n≠0:=aa;cases hv with
  |os0 hh ad=>omega
  |@os _ _ _ c k hh hl=>
   have q:=HR.cutO h hx0 hh hnl hl p3 p4 p5 p6;have r:=run _ _ _ n hu rfl rfl aa;rw[if_neg hnz,Option.map_some,Addr.add_lit,apz] at r;exact fin r (.os (Sg.ext_self _ _ _) (bL _)) q.1 q.2 rfl
 ·cases hr
end
end
end Go.Proofs.YtdpkgnmmikebdaaGreat
namespace Go.Proofs.YtdpkgnmmikebdaaGreat
open Go.RowKit
inductive AK where
 |ap (x:AP)
 |cl (f:AX) (args:List AX)
 |sn (neg:Bool) (x:AX)
 |mo (x:MO)
structure AO where
 dst:Option Nat
 gd:Option (Nat×Bool)
 k:AK
abbrev oX:=FuncId->List AV->AH->Option (AV×AH)
def AK.run(call:oX)(e:Tr AV)(H:AH):AK->Option (AV×AH)
 |.ap x=>x.run e H
 |.cl f args=>match f.ev e,yP e args with
  |some (.f g first cap),some vs=>call g (first++vs++cap) H
  |_,_=>none
 |.sn neg x=>match x.ev e with
  |some (.sl _ _ _ _)=>some (.b neg,H)
  |some (.os _ (_+1))=>some (.b neg,H)
  |some (.fs _ (_+1) _)=>some (.b neg,H)
  |_=>none
 |.mo x=>x.run e H
def gM(e:Tr AV):Option (Nat×Bool)->Option Bool
 |none=>some true
 |some (d,w)=>match e.get d with
  |some (.b b)=>some (b==w)
  |some (.tup _)=>some false
  |_=>none
def fQ(e:Tr AV)(d:Option Nat)(v:AV):Tr AV:=match d with
 |some d=>Tr.set 48 e d v
 |none=>e
def anV(n:Nat):Option Nat->Bool
 |none=>true
 |some d=>decide (d<n)
def L0(ops:Array Oper):Option (Nat×Bool)->Option (Option (Nat×Bool))
 |none=>some none
 |some (j,w)=>match(ops[j]?).bind (·.dst) with
  |some d=>some (some (d,w))
  |none=>none
def Zm(P:Program)(op:BinOp)(t:TypeId)(y:Operand):Option Bool:=match P.underlying t,y,op with
 |some (.slice _),.const (.slice none 0 0),.eql=>some false
 |some (.slice _),.const (.slice none 0 0),.neq=>some true
 |_,_,_=>none
def t0(P:Program)(o:Op):Option AK:=match o with
 |.binOp op t x y t'=>match Zm P op t y with
  |some neg=>(fF x).map (.sn neg ·)
  |none=>(rB P (.binOp op t x y t')).map .ap
 |.call c=>match c.callee with
  |.value f=>(fF f).bind λf=>(c.args.toList.mapM fF).map λl=> .cl f l
  |_=>(rB P (.call c)).map .ap
 |o=>(rB P o).map .ap
def pr(P:Program)(o:Op):Option AK:=match zv P o with
 |some m=>some (.mo m)
 |none=>t0 P o
def qa(P:Program)(n:Nat)(ops:Array Oper)(o:Oper):Option AO:=
 if anV n o.dst=true then(L0 ops o.guard).bind λg=>(pr P o.op).map λk=>⟨o.dst,g,k⟩ else none
def mD(P:Program)(n:Nat)(ops:Array Oper):List Oper->Option (List AO)
 |[]=>some []
 |o::l=>(qa P n ops o).bind λx=>(mD P n ops l).map λr=>x::r
def vr(call:oX):List AO->Tr AV->AH->Option (Tr AV×AH)
 |[],e,H=>some (e,H)
 |o::l,e,H=>match gM e o.gd with
  |some true=>match o.k.run call e H with
   |some (v,H')=>vr call l (fQ e o.dst v) H'
   |none=>none
  |some false=>vr call l (fQ e o.dst (.tup [])) H
  |none=>none
structure EN(n:Nat)(σ:Sg)(e:Tr AV)(a:Act):Prop where
 er:ER σ e a
 sz:a.tmps.size=n
 sm:n<2^40
theorem EN.mono{n:Nat}{σ σ':Sg}{e:Tr AV}{a:Act}(hs:σ.le σ')(h:EN n σ e a):EN n σ' e a:=⟨h.er.mono hs,h.sz,h.sm⟩
section
variable {P:Program} {B n:Nat} {σ:Sg} {e e':Tr AV} {a:Act} {H H':AH} {w:World} {o:Oper} {v:AV} {ops:Array Oper} {call:oX} {Q:Exit->Act->World->Prop}
theorem EN.put(h:EN n σ e a){u:Value}(hv:VR σ v u){d:Option Nat}(hd:anV n d=true):EN n σ (fQ e d v) (a.put d u):=by
 cases d with
 |none=>exact h
 |some d=>
  have hd':d<n:=of_decide_eq_true hd;have hs:=h.sm;refine⟨⟨h.er.df,λt x hx=>?_⟩,by simp[Act.put,h.sz],h.sm⟩
  simp only[fQ] at hx;rw[Tr.get_set 48 e d v t aa] at hx;simp only[Act.put];by_cases e1:t=d
  ·subst e1;rw[if_pos rfl] at hx;cases hx;have hlt:t<a.tmps.size:=by rw[h.sz];exact hd'
   simp[Array.getD,hlt];exact hv
  ·rw[if_neg e1] at hx;have:=h.er.get t x hx;rw[apA] at this ⊢;rw[aqd (Ne.symm e1)];exact this
theorem iV(h:ER σ e a){g:Option (Nat×Bool)}(hg:L0 ops o.guard=some g){b:Bool}(hw:gM e g=some b):Region.wanted o (yielded ops a.tmps)=b:=by
 unfold Region.wanted;cases hgd:o.guard with
 |none=>
  rw[hgd] at hg;simp only[L0,apn] at hg;subst hg;simpa [gM] using hw
 |some p=>
  obtain⟨j,wn⟩:=p;rw[hgd] at hg;simp only[L0] at hg;split at hg;rotate_left
  ·cases hg
  rename_i d hd;cases hg;simp only[gM] at hw;have hy:∀u:Value,a.tmps.getD d undef=u->u≠undef\/True->yielded ops a.tmps j=match u with| .bool b=>some b|_=>none:=by
   intro u hu _;unfold yielded;rw[hd];simp only[Option.bind_some];rw[apA] at hu;cases hq:a.tmps[d]? with
   |none=>rw[hq] at hu;subst hu;rfl
   |some x=>rw[hq] at hu;simp only[Option.getD_some] at hu;subst hu;cases x<;>rfl
  split at hw
  ·rename_i b' hb;cases hw;have h1:=h.get d _ hb;generalize hu:a.tmps.getD d undef=u at h1;cases h1;show(yielded ops a.tmps j==some wn)=_;rw[hy _ hu (.inr trivial)];cases b'<;>cases wn<;>rfl
  ·rename_i l hb;cases hw;have h1:=h.get d _ hb;generalize hu:a.tmps.getD d undef=u at h1;cases h1;show(yielded ops a.tmps j==some wn)=_;rw[hy _ hu (.inr trivial)];cases wn<;>rfl
  ·cases hw
/-! ### a deferred call-/
def anW(P:Program)(n:Nat)(ops:Array Oper)(l:List Oper):Option (List AO×AX×List AX):=match l.reverse with
 |o::l=>match o.op with
  |.defer c=>match c.callee with
   |.value f=>if o.guard=none/\o.dst=none then(fF f).bind λf=>(c.args.toList.mapM fF).bind λas=>(mD P n ops l.reverse).map λx=>(x,f,as) else none
   |_=>none
  |_=>none
 |[]=>none
def anI(e:Tr AV)(f:AX)(as:List AX):Bool:=match f.ev e,yP e as with
 |some (.f g first cap),some vs=>vW g==some (first++vs++cap).length
 |_,_=>false
theorem EN.defer(h:EN n σ e a){d:Deferred}(hd:u7 d):EN n σ e {a with defers:=d::a.defers}:=
 ⟨⟨λd' hd'=>by rcases apv.1 hd' with rfl|hd';exact hd;exact h.er.df d' hd',h.er.get⟩,h.sz,h.sm⟩
end
def iZ:Nat×Nat->Nat×Nat
 |(3,j)=>(0,j)
 |(4,j)=>(1,j)
 |p=>p
def kO(P:Program)(n:Nat)(ops:Array Oper)(fl:List Nat):List (Nat×Nat)->Option (List (Nat×AO))
 |[]=>some []
 |(k,j)::l=>match ops[j]? with
  |some o=>(qa P n ops o).bind λx=>if k<=3/\(k=3->vm .any ops fl j=true/\l.all (·.1 != 1)=true) then(kO P n ops fl l).map λr=>(k,x)::r else none
  |none=>none
def rj(P:Program)(n:Nat)(ops:Array Oper)(fl:List Nat):List (Nat×Nat)->Option (List (Nat×AO))
 |[]=>some []
 |(k,j)::l=>match ops[j]? with
  |some o=>(qa P n ops o).bind λx=>if k<=4/\(k=3->vm .any ops fl j=true) then(rj P n ops fl l).map λr=>(k,x)::r else none
  |none=>none
inductive AT where
 |fin
 |none
 |alt (o:AO) (r more:AT)
def um(P:Program)(n:Nat)(ops:Array Oper):PT->Option AT
 |.fin=>some .fin
 |.none=>some .none
 |.alt j r more=>match ops[j]? with
  |some o=>(qa P n ops o).bind λx=>(um P n ops r).bind λr'=>(um P n ops more).map λm'=> .alt x r' m'
  |none=>none
def sX(call:oX)(H0:AH):List (Nat×AO)->Tr AV->AH->Option (Tr AV×AH)
 |[],e,H=>some (e,H)
 |(k,o)::l,e,H=>match gM e o.gd with
  |some true=>
   if k=1 then match o.k with
    |.ap (.ld n row x)=>match x.ev e with
     |some (.p b off)=>if(H0.at b).isSome=true then match(AP.ld n row x).run e H with
       |some (v,H')=>sX call H0 l (fQ e o.dst v) H'
       |none=>none
      else none
     |_=>none
    |_=>none
   else if k=2 then match o.k with
    |.ap x=>if x.kind=2 then match x.run e H with
      |some (v,H')=>sX call H0 l (fQ e o.dst v) H'
      |none=>none
     else none
    |_=>none
   else match o.k.run call e H with
    |some (v,H')=>if k=3\/H0.next<=H'.low then sX call H0 l (fQ e o.dst v) H' else none
    |none=>none
  |some false=>if k=0->H0.next<=H.low then sX call H0 l (fQ e o.dst (.tup [])) H else none
  |none=>none
/-! writes to blocks (W) that no early load reads-/
def stW(W:List Nat)(e:Tr AV):AK->Bool
 |.ap (.st _ x _)=>match x.ev e with
  |some (.p b _)=>W.contains b
  |_=>false
 |_=>false
def eqD:List (Int×AV)->List (Int×AV)->Bool
 |[],[]=>true
 |(k,.n a i)::l,(k',.n a' i')::l'=>decide (k=k')&&decide (a=a')&&decide (i=i')&&eqD l l'
 |_,_=>false
def nD:List (Int×AV)->Bool
 |[]=>true
 |(_,.n _ _)::l=>nD l
 |_=>false
def mpEq(mp:List (Nat×List (Int×AV))):List (Nat×List (Int×AV))->Bool
 |[]=>true
 |(b,d)::l=>(!nD d||match qv mp b with
  |some d'=>eqD d d'
  |none=>false)&&mpEq mp l
def mw(call:oX)(L:Bool)(W:List Nat)(H0:AH):Bool->List (Nat×AO)->Tr AV->AH->Option (Tr AV×AH)
 |_,[],e,H=>some (e,H)
 |s,(k,o)::l,e,H=>match gM e o.gd with
  |some true=>
   if k=1 then match o.k with
    |.ap (.ld n row x)=>match x.ev e with
     |some (.p b off)=>if(H0.at b).isSome=true/\W.contains b=false/\s=true then match(AP.ld n row x).run e H with
       |some (v,H')=>mw call L W H0 s l (fQ e o.dst v) H'
       |none=>none
      else none
     |_=>none
    |_=>none
   else if k=2 then match o.k with
    |.ap x=>if x.kind=2 then match x.run e H with
      |some (v,H')=>mw call L W H0 s l (fQ e o.dst v) H'
      |none=>none
     else none
    |_=>none
   else if k=4 then match o.k with
    |.mo (.lk z ok x y)=>match x.ev e,y.ev e,(MO.lk z ok x y).run e H with
     |some (.mh b),some (.n .i64 i),some (.n q j,H')=>if ok=false/\(qv H0.mp b).any nD=true/\s=true/\L=true then mw call L W H0 s l (fQ e o.dst (.n q j)) H' else none
     |_,_,_=>none
    |_=>none
   else if stW W e o.k=true then match o.k.run call e H with
    |some (v,H')=>if k=3\/(s=true/\(!L||mpEq H'.mp H0.mp)=true) then mw call L W H0 (s&&(!L||mpEq H'.mp H0.mp)) l (fQ e o.dst v) H' else none
    |none=>none
   else match o.k.run call e {H with low:=2^40} with
    |some (v,H1)=>if k=3\/(H0.next<=H1.low/\s=true/\(!L||mpEq H1.mp H0.mp)=true) then mw call L W H0 (s&&decide (H0.next<=H1.low)&&(!L||mpEq H1.mp H0.mp)) l (fQ e o.dst v) {H1 with low:=min H.low H1.low} else none
    |none=>none
  |some false=>if k=0->s=true then mw call L W H0 s l (fQ e o.dst (.tup [])) H else none
  |none=>none
def FX(call:oX):List (Nat×AO)->Tr AV->AH->List Nat
 |[],_,_=>[]
 |(k,o)::l,e,H=>match gM e o.gd with
  |some true=>match o.k.run call e H with
   |some (v,H')=>(match o.k with
    |.ap (.st _ x _)=>(match x.ev e with
     |some (.p b _)=>[b]
     |_=>[])
    |_=>[])++FX call l (fQ e o.dst v) H'
   |none=>[]
  |some false=>FX call l (fQ e o.dst (.tup [])) H
  |none=>[]
def avF:AK->Bool
 |.ap (.st _ _ _)=>true
 |_=>false
def wOf(call:oX)(l:List (Nat×AO))(e:Tr AV)(H:AH):List Nat:=match l.any (λx=>avF x.2.k) with
 |true=>FX call l e H
 |false=>[]
section
variable {P:Program} {B n:Nat} {σ0:Sg} {e':Tr AV} {H0 H':AH} {w0:World} {ops:Array Oper} {fl:List Nat} {call:oX} {Q:Exit->Act->World->Prop}
theorem qO{o:Oper}{x:AP}(h:pr P o.op=some (.ap x)):rB P o.op=some x:=by
 unfold pr at h;split at h
 ·cases h
 unfold t0 at h;split at h
 ·rename_i op t x y t' ho;split at h
  ·obtain⟨x',hx,h⟩:=apc.1 h;cases h
  ·obtain⟨ap,hap,h⟩:=apc.1 h;cases h;rw[ho];exact hap
 ·rename_i c ho;split at h
  ·obtain⟨f',hf',h⟩:=bM.1 h;obtain⟨l',hl,h⟩:=apc.1 h;cases h
  ·obtain⟨ap,hap,h⟩:=apc.1 h;cases h;rw[ho];exact hap
 ·obtain⟨ap,hap,h⟩:=apc.1 h;cases h;exact hap
theorem jb{o:Oper}{a:Act}{w:World}{R:Exit->Act->World->Prop}(hw:Region.wanted o (yielded ops a.tmps)=true)(h:o.wp P a w (R .normal) R):wpList P ops R [o] a w:=by
 unfold wpList;rw[if_pos hw];exact .inl h
theorem HR.relow{B:Nat}{σ:Sg}{H:AH}{w:World}(h:HR B σ H w)(l:Nat):HR B σ {H with low:=l} w:=
 ⟨h.new,h.newl,h.old,h.small,h.hB,h.nil,h.nilp,h.blk,h.szs,h.inj,h.frz,h.ob.of_eq rfl⟩
end
theorem Fr.relow{B:Nat}{σ σ':Sg}{H H':AH}{w w':World}{l:Nat}(h:Fr B σ σ' {H with low:=l} H' w w'):Fr B σ σ' H {H' with low:=min H.low H'.low} w w':=
 ⟨h.dom,h.ext,h.nxt,Nat.min_le_left _ _,h.bel,λc hc=>by
  rcases h.old c hc with e|⟨b,o,h1,h2,h3⟩|hn
  ·exact .inl e
  ·exact .inr (.inl ⟨b,o,h1,h2,apj (Nat.min_le_right _ _) h3⟩)
  ·exact .inr (.inr hn),λb c o h1 h2 h3=>by
  obtain⟨b0,o0,g1,g2,g3⟩:=h.new b c o h1 h2 h3;exact⟨b0,o0,g1,g2,apj (Nat.min_le_right _ _) g3⟩⟩
section
variable {P:Program} {B n:Nat} {σ0:Sg} {e':Tr AV} {H0 H':AH} {w0:World} {ops:Array Oper} {fl:List Nat} {call:oX} {Q:Exit->Act->World->Prop} {L:Bool} {W:List Nat}
end
end Go.Proofs.YtdpkgnmmikebdaaGreat