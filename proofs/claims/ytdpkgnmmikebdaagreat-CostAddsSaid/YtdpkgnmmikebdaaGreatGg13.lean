/- A part of the proof of CostAdds: EvM EvMo EvN EvO. No condition. -/
import Derived.Defers
import Derived.Lib.LazyBuf
import Derived.Test.YtdpkgnmmikebdaaGreatGg12
set_option linter.unusedSimpArgs false
set_option linter.unusedVariables false
set_option linter.constructorNameAsVariable false
set_option maxRecDepth 100000
set_option maxHeartbeats 4000000
namespace Go.Proofs.YtdpkgnmmikebdaaGreat
open Go.RowKit
structure AF where
 nt:Nat
 code:AC
 res:List AP
def mz(P:Program):List ResultVar->Option (List AP)
 |[]=>some []
 |.tmp t::l=>(mz P l).map λr=> .mv (.t t)::r
 |.cell t ty::l=>(P.info? ty).bind λi=>(P.underlying ty).bind λd=>(mz P l).map λr=> .ld i.size d.isRow (.t t)::r
def aI(P:Program)(hints:bu)(f:FuncId):Option AF:=(P.funcs[f]?).bind λfn=>fn.body.bind λc=>(cA P fn.ntmps hints c).bind λac=>(mz P fn.results.toList).bind λr=>
 if(fn.name== "runtime.NumGoroutine")=false/\fn.ntmps<2^40 then some ⟨fn.ntmps,ac,r⟩ else none
def eH(e:Tr AV)(H:AH):List AP->Option (List AV)
 |[]=>some []
 |x::l=>match x.run e H with
  |some (v,_)=>(eH e H l).map (v:: ·)
  |none=>none
def bn:List AV->AV
 |[v]=>v
 |l=> .tup l
def AE.ends:AE->Bool
 |.exit _=>false
 |_=>true
class IdleOK (P:Program):Prop where
 fn:∀f n,pF f=some n->∃fn,P.funcs[f]? =some fn/\(fn.name== "runtime.NumGoroutine")=false/\fn.body.isNone=false
 run:∀f n,pF f=some n->∀(args:Array Value) (w:World),args.size=n->CallsD P f args .returning w λe u' w'=>e= .returned (.tuple #[])/\u'= .returning/\w'=w
def vd(P:Program)(fn:Func)(R:Ending->World->Prop):Exit->Act->World->Prop
 |.panic _,_,_=>False
 |e,a,w=>bodyPostD P fn R e a w
theorem eR{P:Program}{f:FuncId}{fn:Func}{c:Code}{args:Array Value}{w:World}{R:Ending->World->Prop}(hf:P.funcs[f]? =some fn)(hb:fn.body=some c)
  (h:c.wp P (vd P fn R) {tmps:=args++Array.replicate (fn.ntmps-args.size) undef,defers:=[]} w):Calls P f args w R:=
 calls_of_wp_defers hf hb (λb k cs=>by
  obtain⟨e,a',w',q,r⟩:=h b k cs
  refine⟨e,a',w',?_,r⟩
  cases e<;>first|exact q|exact q.elim)
theorem fe{P:Program}[hI:IdleOK P]{fn:Func}{tmps:Array Value}{R:Ending->World->Prop}{w:World}{v:Value}(hr:(results fn tmps).run P w= .ok v w)(hR:R (.returned v) w):
  ∀ds:List Deferred,(∀d ∈ ds,oM d)->Leaves P fn tmps R ds .returning w
 |[],_=>⟨v,hr,hR⟩
 |⟨tg,as⟩::ds,h=>by
  obtain⟨f,cap,ht,hn⟩:=h _ (List.mem_cons_self ..)
  cases ht
  obtain⟨fn',k1,k2,k3⟩:=hI.fn f _ hn
  refine leaves_cons (by simp) (by simp only[invoke];exact fF k1 k2 k3 _ _) ((hI.run f _ hn _ w rfl).mono (λe u' w' hp=>?_))
  obtain⟨rfl,rfl,rfl⟩:=hp
  exact fe hr hR ds (λd hd=>h d (List.mem_cons_of_mem _ hd))
section
variable {P:Program} {B n:Nat} {σ:Sg} {e:Tr AV} {a:Act} {H:AH} {w:World}
def eI(a:Act):ResultVar->Sem Value
 |.tmp t=>pure (a.tmps.getD t undef)
 |.cell ad t=>do loadVar t (<-asAddr (a.tmps.getD ad undef))
theorem kw(hE:ER σ e a)(h:HR B σ H w):∀(l:List ResultVar) (l':List AP) (vs:List AV),mz P l=some l'->eH e H l'=some vs->
  ∃us:List Value,(l.mapM (eI a)).run P w= .ok us w/\a8 σ vs us
 |[],l',vs,hl,hr=>by
  simp only[mz,Option.some.injEq] at hl
  subst hl
  simp only[eH,Option.some.injEq] at hr
  subst hr
  exact⟨[],rfl,a8.nil⟩
 |.tmp t::l,l',vs,hl,hr=>by
  simp only[mz] at hl
  obtain⟨r,h1,rfl⟩:=Option.map_eq_some_iff.1 hl
  simp only[eH,AP.run,AP.r_mv,AP.r_pick,AP.r_ld,AP.r_st,AP.r_nc,AP.r_bin,AP.r_un,AP.r_cvi,AP.r_fa,AP.r_fd,AP.r_ia,AP.r_iaa,AP.r_ext,AP.r_len,AP.r_cpc,AP.r_clr,AP.r_mf,AP.r_al,AP.r_bx,AP.r_bd,AP.r_bs,AP.r_ms,AP.r_sl,AP.r_se,AP.r_eq,AP.r_lns,AP.r_sx,AP.r_ix,AP.r_app,AP.r_apm,aP] at hr
  split at hr
  rotate_left
  ·cases hr
  rename_i v H1 hv
  obtain⟨vs',h2,rfl⟩:=Option.map_eq_some_iff.1 hr
  obtain⟨v',h3,h4⟩:=Option.map_eq_some_iff.1 hv
  cases h4
  obtain⟨us,g1,g2⟩:=kw hE h l r vs' h1 h2
  refine⟨a.tmps.getD t undef::us,?_,g2.cons (hE.get t v h3)⟩
  rw[List.mapM_cons]
  simp only[eI,Sem.run_bind,Sem.run_pure,Result.andThen_ok,g1]
 |.cell t ty::l,l',vs,hl,hr=>by
  simp only[mz] at hl
  obtain⟨i,hi,hl⟩:=Option.bind_eq_some_iff.1 hl
  obtain⟨d,hd,hl⟩:=Option.bind_eq_some_iff.1 hl
  obtain⟨r,h1,rfl⟩:=Option.map_eq_some_iff.1 hl
  simp only[eH] at hr
  split at hr
  rotate_left
  ·cases hr
  rename_i v H1 hv
  obtain⟨vs',h2,rfl⟩:=Option.map_eq_some_iff.1 hr
  obtain⟨us,g1,g2⟩:=kw hE h l r vs' h1 h2
  let o:Oper:={(default:Oper) with op:= .load ty (.tmp t)}
  obtain⟨_,n1,row1,x1,c,u,heq,q34,q5,q6⟩:=C8 (o:=o) (x:= .tmp t) rfl rfl hi hd hE h hv
  obtain⟨cc,off,hev⟩:∃cc off,a.tmps.getD t undef= .pointer (some ⟨cc,off,none⟩):=by
   cases heq
   rcases q34 with⟨b',off',oc,q3,q4⟩|⟨_,_,_,_,q3,_⟩
   ·have h1:=hE.get t _ q3
    generalize a.tmps.getD t undef=y at h1
    cases h1
    exact⟨_,_,rfl⟩
   ·have h1:=hE.get t _ q3
    generalize a.tmps.getD t undef=y at h1
    cases h1
    exact⟨_,_,rfl⟩
  have hx:=q6 w (λ_=>rfl)
  have hx2:((loadVar ty ⟨cc,off,none⟩).run P w).andThen (λv w=> .ok (.value v) w)=(.ok (.value u) w:Result Next):=by
   have e1:a.eval (.tmp t)= .pointer (some ⟨cc,off,none⟩):=hev
   unfold execOp at hx
   simp only[o,e1,Instr.loadAt,Instr.sureAddr,Sem.run_bind,Sem.run_pure,Result.andThen_ok] at hx
   exact hx
  have hload:(loadVar ty ⟨cc,off,none⟩).run P w= .ok u w:=by
   generalize (loadVar ty ⟨cc,off,none⟩).run P w=r at hx2
   cases r<;>simp[Result.andThen] at hx2
   obtain⟨rfl,rfl⟩:=hx2
   rfl
  refine⟨u::us,?_,g2.cons q5⟩
  rw[List.mapM_cons]
  simp only[eI,hev,asAddr,Sem.run_bind,Sem.run_pure,Result.andThen_ok,hload,g1]
theorem lO{args:List AV}{args':Array Value}{nt:Nat}(h:a8 σ args args'.toList)(hn:args.length<=nt)(hs:nt<2^40):
  EN nt σ (gH args) {tmps:=args'++Array.replicate (nt-args'.size) undef,defers:=[]}:=by
 have hl:args.length=args'.size:=by have:=h.1;rwa [Array.length_toList] at this
 refine⟨⟨λd hd=>by simp at hd,λt v hv=>?_⟩,by simp;omega,hs⟩
 rw[fD args t (by omega)] at hv
 have hlt:t<args.length:=by
  by_cases hh:t<args.length
  ·exact hh
  ·rw[List.getElem?_eq_none (by omega)] at hv;cases hv
 have:=h.2 t v hv
 rw[List.getD_eq_getElem?_getD,Array.getElem?_toList] at this
 rw[Array.getD_eq_getD_getElem?,Array.getElem?_append_left (by omega)]
 exact this
theorem HR.emptyAt{φ:Fz}{B:Nat}(w:World)(hB:B<=w.heap.size)(hφ:∀c fs,φ c=some fs->∃cs t fr,w.heap[c]? =some (.cells cs t fr)/\gS fs cs):HR B ⟨λ_=>none,λ_=>False,φ⟩ ⟨.nil,0,2^40,λ_=>none,[]⟩ w:=
 ⟨λ_ _=>rfl,λ_ _ h=>h,λb _=>by simp[AH.at,Tr.get_nil],by simp,hB,λb x hx=>by simp[AH.at,Tr.get_nil] at hx,λ_ h=>h.elim,λb x c o hx=>by simp[AH.at,Tr.get_nil] at hx,λb x hx=>by simp[AH.at,Tr.get_nil] at hx,
  λb b' x x' c o o' hx=>by simp[AH.at,Tr.get_nil] at hx,λc fs hc=>by
   obtain⟨cs,t,fr,h1,h2⟩:=hφ c fs hc
   exact⟨cs,t,fr,h1,h2,λb x o hx=>by simp[AH.at,Tr.get_nil] at hx⟩,.none λr x hr=>by cases hr⟩
theorem HR.empty{φ:Fz}(w:World)(hφ:∀c fs,φ c=some fs->∃cs t fr,w.heap[c]? =some (.cells cs t fr)/\gS fs cs):HR w.heap.size ⟨λ_=>none,λ_=>False,φ⟩ ⟨.nil,0,2^40,λ_=>none,[]⟩ w:=HR.emptyAt w (Nat.le_refl _) hφ
end
end Go.Proofs.YtdpkgnmmikebdaaGreat
namespace Go.Proofs.YtdpkgnmmikebdaaGreat
open Go.RowKit Go.MapKept
def n9(ob:Nat->Option OB)(r:Nat)(x:OB):Nat->Option OB:=λr'=>if r'=r then some x else ob r'
def AH.setOb(H:AH)(r:Nat)(x:OB):AH:={H with ob:=n9 H.ob r x}
def Cz(ob:Nat->Option OB):Nat->Option OB:=λr=>(ob r).map OB.clr
def AH.clr(H:AH):AH:={H with ob:=Cz H.ob}
def fW.put(x:fW)(k:Int)(v:AV):fW:={x with get:=λq=>if q=k then some v else x.get q,cnt:=if(x.get k).isSome=true then x.cnt else x.cnt+1}
def nK(ok:Bool)(v:AV)(b:Bool):AV:=if ok=true then .tup [v,.b b] else v
def fW.look(x:fW)(ok:Bool)(z:AV)(k:Int):AV:=match x.get k with
 |some v=>nK ok v true
 |none=>nK ok z false
/-! what must hold for an operation on a map-/
def ZR(H:AH)(Q:AV->AH->Prop):Prop:=∀r,H.ob r=none->Q (.cv (.map (some r))) (H.setOb r (.mp ⟨true,λ_=>none,0,none⟩))
def uk(H:AH)(Q:AV->AH->Prop)(z:AV)(ok:Bool)(i:Int):Option OB->Prop
 |some (.mp m)=>Q (m.look ok z i) H
 |_=>False
def r8(H:AH)(Q:AV->AH->Prop)(z:AV)(ok:Bool):Option AV->Option AV->Prop
 |some (.cv (.map none)),some (.n .i64 _)=>Q (nK ok z false) H
 |some (.cv (.map (some r))),some (.n .i64 i)=>uk H Q z ok i (H.ob r)
 |_,_=>False
def ug(H:AH)(Q:AV->AH->Prop)(r:Nat)(i:Int)(v:AV):Option OB->Prop
 |some (.mp x)=>x.own=true/\v.flat=true/\Q .u (H.clr.setOb r (.mp (x.put i v)))
 |_=>False
def xd(H:AH)(Q:AV->AH->Prop):Option AV->Option AV->Option AV->Prop
 |some (.cv (.map (some r))),some (.n .i64 i),some v=>ug H Q r i v (H.ob r)
 |_,_,_=>False
def fW.ask(x:fW)(z:AV)(i s:Int):fW:={x.put i ((x.get i).getD z) with stp:=some (s,i)}
def vz(H:AH)(Q:AV->AH->Prop)(z:AV)(r:Nat)(i:Int):Option OB->Prop
 |some (.mp x)=>x.own=true/\∀s:Int,Q (.tup [(x.get i).getD z,.n .i64 s]) (H.clr.setOb r (.mp (x.ask z i s)))
 |_=>False
def xe(H:AH)(Q:AV->AH->Prop)(z:AV):Option AV->Option AV->Prop
 |some (.cv (.map (some r))),some (.n .i64 i)=>vz H Q z r i (H.ob r)
 |_,_=>False
def wz(H:AH)(Q:AV->AH->Prop)(r:Nat)(s:Int)(v:AV):Option OB->Prop
 |some (.mp x)=>x.own=true/\v.flat=true/\∃k,x.stp=some (s,k)/\Q .u (H.clr.setOb r (.mp (x.put k v)))
 |_=>False
def xg(H:AH)(Q:AV->AH->Prop):Option AV->Option AV->Option AV->Prop
 |some (.cv (.map (some r))),some (.n .i64 s),some v=>wz H Q r s v (H.ob r)
 |_,_,_=>False
def u7(H:AH)(Q:AV->AH->Prop)(r:Nat):Option OB->Prop
 |some (.mp m)=>∀t,H.ob t=none->Q (.cv (.pointer (some ⟨t,0,none⟩))) (H.setOb t (.it ⟨r,λk=>(m.get k).isSome,λ_=>false,none⟩))
 |_=>False
def u6(H:AH)(Q:AV->AH->Prop):Option AV->Prop
 |some (.cv (.map none))=>∀t,H.ob t=none->Q (.cv (.pointer (some ⟨t,0,none⟩))) (H.setOb t (.fix (.mapIter none 0 #[] 0)))
 |some (.cv (.map (some r)))=>u7 H Q r (H.ob r)
 |_=>False
def xi.at(y:xi)(k:Int)(v:AV):xi:={y with seen:=λq=>decide (q=k)||y.seen q,cur:=some (k,v)}
def vr(H:AH)(Q:AV->AH->Prop)(t:Nat)(y:xi):Option OB->Prop
 |some (.mp m)=>(∀k v,m.get k=some v->y.old k=true)/\(∀k v,m.get k=some v->y.seen k=false->Q (.tup [.b true,.n .i64 k,v]) (H.setOb t (.it (y.at k v))))/\
   ((∀k,y.old k=true->y.seen k=true)->Q (.tup [.b false]) H)
 |_=>False
def sH(H:AH)(Q:AV->AH->Prop)(t:Nat):Option OB->Prop
 |some (.it y)=>vr H Q t y (H.ob y.m)
 |some (.fix (.mapIter none _ _ _))=>Q (.tup [.b false]) H
 |_=>False
def xc(H:AH)(Q:AV->AH->Prop):Option AV->Prop
 |some (.cv (.pointer (some ⟨t,0,none⟩)))=>sH H Q t (H.ob t)
 |_=>False
def uH(H:AH)(Q:AV->AH->Prop):Option (Int×AV)->Prop
 |some (k,v)=>Q (.tup [.n .i64 k,v]) H
 |none=>False
def uG(H:AH)(Q:AV->AH->Prop):Option OB->Prop
 |some (.it y)=>uH H Q y.cur
 |_=>False
def xh(H:AH)(Q:AV->AH->Prop):Option AV->Prop
 |some (.cv (.pointer (some ⟨t,0,none⟩)))=>uG H Q (H.ob t)
 |_=>False
def uj(H:AH)(Q:AV->AH->Prop):Option OB->Prop
 |some (.mp m)=>Q (.n .i64 m.cnt) H
 |_=>False
def vO(H:AH)(Q:AV->AH->Prop):Option AV->Prop
 |some (.cv (.map none))=>Q (.n .i64 0) H
 |some (.cv (.map (some r)))=>uj H Q (H.ob r)
 |_=>False
def ui(H:AH)(Q:AV->AH->Prop)(neg:Bool):Option AV->Prop
 |some (.cv (.map none))=>Q (.b (!neg)) H
 |some (.cv (.map (some _)))=>Q (.b neg) H
 |_=>False
def r7(H:AH)(Q:AV->AH->Prop):Option AV->Option AV->Prop
 |some (.n .i64 i),some (.n .i64 j)=>Q (.n .i64 (if i<j then j else i)) H
 |some (.n .u32 i),some (.n .u32 j)=>Q (.n .u32 (if i<j then j else i)) H
 |_,_=>False
def BV(H:AH)(Q:AV->AH->Prop):Option AV->Option AV->Prop
 |some (.n .i64 i),some (.n .i64 j)=>Q (.n .i64 (if j<i then j else i)) H
 |some (.n .u32 i),some (.n .u32 j)=>Q (.n .u32 (if j<i then j else i)) H
 |_,_=>False
def W0(Q:AV->AH->Prop):Option (AV×AH)->Prop
 |some (v,H')=>Q v H'
 |none=>False
def gF(e:Tr AV)(H:AH)(Q:AV->AH->Prop):MO->Prop
 |.mm=>ZR H Q
 |.lk z ok x k=>r8 H Q z ok (x.ev e) (k.ev e)
 |.mu m k v=>xd H Q (m.ev e) (k.ev e) (v.ev e)
 |.me z m k=>xe H Q z (m.ev e) (k.ev e)
 |.es m s v=>xg H Q (m.ev e) (s.ev e) (v.ev e)
 |.rg x=>u6 H Q (x.ev e)
 |.nx x=>xc H Q (x.ev e)
 |.en x=>xh H Q (x.ev e)
 |.ln x=>vO H Q (x.ev e)
 |.mn neg x=>ui H Q neg (x.ev e)
 |.mx x y=>r7 H Q (x.ev e) (y.ev e)
 |.mi x y=>BV H Q (x.ev e) (y.ev e)
 |.lz z ok x k=>r8 H Q z ok (x.ev e) (k.ev e)
 |.cp esz x y=>W0 Q (wI H esz ((x.ev e).bind oY) ((y.ev e).bind oY))
theorem VR.flat0{σ σ':Sg}{v:AV}{u:Value}(h:v.flat0=true)(hu:VR σ v u):VR σ' v u:=by
 cases hu with
 |@f _ g l1 l2 c1 c2 n1 h1 n2 h2=>
  cases l1 with
  |cons a l=>cases h
  |nil=>
   cases l2 with
   |cons a l=>cases h
   |nil=>exact .f n1 (λi v hv=>by simp at hv) n2 (λi v hv=>by simp at hv)
 |_=>first|(cases h;done)|(constructor;done)|(constructor;assumption)
theorem VR.flat{σ σ':Sg}{v:AV}{u:Value}(h:v.flat=true)(hu:VR σ v u):VR σ' v u:=by
 cases v with
 |agg l=>
  cases hu with
  |agg hl hh=>exact .agg hl λi v hv=>VR.flat0 (List.all_eq_true.1 h v (List.mem_of_getElem? hv)) (hh i v hv)
 |_=>exact VR.flat0 h hu
section
variable {P:Program} {B:Nat} {σ:Sg} {e:Tr AV} {a:Act} {H:AH} {w:World} {o:Oper} {Q:Exit->Act->World->Prop}
theorem HR.make(h:HR B σ H w){o:Obj}{ob:Nat->Option OB}(hob:OR B ob (w.alloc o))(hsub:∀c,c<w.heap.size->mD H.ob c->mD ob c):HR B σ {H with ob:=ob} (w.alloc o)/\Fr B σ σ H {H with ob:=ob} w (w.alloc o):=by
 obtain⟨h1,h2⟩:=h.junk o
 exact⟨⟨h1.new,h1.newl,h1.old,h1.small,h1.hB,h1.nil,h1.nilp,h1.blk,h1.szs,h1.inj,h1.frz,⟨hob,λb d hb=>by
  obtain⟨c,es,clock,k1,k2,k3,k4,k5⟩:=h.ob.m b d hb
  have hlt:=(Array.getElem?_eq_some_iff.1 k3).1
  exact⟨c,es,clock,k1,k2,by rw[Below.heap_alloc _ _ _ hlt];exact k3,hsub c hlt k4,k5⟩,h.ob.i⟩⟩,⟨h2.dom,h2.ext,h2.nxt,h2.low,h2.bel,h2.old,h2.new⟩⟩
theorem OR.more{ob:Nat->Option OB}(h:OR B ob w){r:Nat}{x:OB}(hx:Dd B w r x):OR B (λr'=>if r'=r then some x else ob r') w:=λr' y hy=>by
 have hy:(if r'=r then some x else ob r')=some y:=hy
 by_cases e:r'=r
 ·subst e;rw[if_pos rfl] at hy;cases hy;exact hx
 ·rw[if_neg e] at hy;exact h r' y hy
theorem V8{t:TypeId}(ho:o.op= .makeMap t none)(h:HR B σ H w){Q':AV->AH->Prop}(hr:gF e H Q' .mm){next:Act->World->Prop}
  (hn:∀v H' u w',Q' v H'->VR σ v u->HR B σ H' w'->Fr B σ σ H H' w w'->next (a.put o.dst u) w'):o.wp P a w next Q:=by
 have hq:=hr w.heap.size h.ob.o.free
 obtain⟨h1,h2⟩:=h.make (o:= .map #[] 0) (ob:=λr'=>if r'=w.heap.size then some (.mp ⟨true,λ_=>none,0,none⟩) else H.ob r') ((h.ob.o.alloc _).more ⟨λ_=>h.hB,#[],0,heap_alloc_new w _,⟨rfl,by simp,(λk v hk=>by cases hk),by simp,(λs k hs=>by cases hs)⟩⟩) (λc hc hn=>hn.more (Nat.ne_of_lt hc) λy e=>by cases e)
 unfold Oper.wp execOp
 rw[ho]
 simp only[Option.map_none,run_makeMap,Sem.run_bind,Result.andThen_ok,Sem.run_pure,Oper.upon]
 exact hn _ _ _ _ hq (.cv _ rfl) h1 h2
/-! ### the entries-/
theorem rT.int{x:fW}{es:Array MapEntry}{c:Nat}(h:rT x es c):∀e ∈ es.toList,∃n,e.key= .int .i64 n:=λe he=>by
 obtain⟨k,v,h1,_⟩:=h.ent e he
 exact⟨k,h1⟩
theorem rT.miss{x:fW}{es:Array MapEntry}{c:Nat}(h:rT x es c){k:Int}(hk:∀e ∈ es.toList,e.key≠ .int .i64 k):x.get k=none:=by
 cases hx:x.get k with
 |none=>rfl
 |some v=>
  obtain⟨e,h1,h2⟩:=h.dom k v hx
  exact absurd h2 (hk e h1)
theorem rT.hit{x:fW}{es:Array MapEntry}{c:Nat}(h:rT x es c){e:MapEntry}(he:e ∈ es.toList){k:Int}(hk:e.key= .int .i64 k):∃v,x.get k=some v/\v.flat=true/\VR .zero v e.val:=by
 obtain⟨k',v,h1,h2,h3,h4,_⟩:=h.ent e he
 rw[hk] at h1
 cases h1
 exact⟨v,h2,h3,h4⟩
/-! ### an entry more,an entry written to-/
theorem rT.push{x:fW}{es:Array MapEntry}{c:Nat}(h:rT x es c){k:Int}(hk:∀e ∈ es.toList,e.key≠ .int .i64 k){v:AV}{u:Value}(hf:v.flat=true)(hu:VR .zero v u):rT (x.put k v) (es.push (qM k u c)) (c+1):=by
 have hn:=h.miss hk
 have hput:∀q,(x.put k v).get q=if q=k then some v else x.get q:=λq=>rfl
 refine⟨?_,λe he=>?_,λq y hq=>?_,?_,λs q hs=>?_⟩
 ·show(es.push _).size=if(x.get k).isSome=true then x.cnt else x.cnt+1
  rw[hn,if_neg (by simp),Array.size_push,h.cnt]
 ·rw[Array.toList_push] at he
  rcases List.mem_append.1 he with he|he
  ·obtain⟨q,y,h1,h2,h3,h4,h5⟩:=h.ent e he
   refine⟨q,y,h1,?_,h3,h4,by omega⟩
   rw[hput,if_neg (λe'=>hk e he (by rw[h1,e']))];exact h2
  ·rw[List.mem_singleton.1 he]
   exact⟨k,v,rfl,by rw[hput,if_pos rfl],hf,hu,Nat.lt_succ_self c⟩
 ·rw[hput] at hq
  rw[Array.toList_push]
  by_cases e:q=k
  ·subst e
   exact⟨_,List.mem_append_right _ (List.mem_singleton.2 rfl),rfl⟩
  ·rw[if_neg e] at hq
   obtain⟨e0,h1,h2⟩:=h.dom q y hq
   exact⟨e0,List.mem_append_left _ h1,h2⟩
 ·rw[Array.toList_push,List.pairwise_append]
  refine⟨h.one,List.pairwise_singleton _ _,λa ha b hb=>?_⟩
  rw[List.mem_singleton.1 hb]
  obtain⟨_,_,_,_,_,_,h5⟩:=h.ent a ha
  exact⟨hk a ha,h5⟩
 ·obtain⟨e0,h1,h2,h3⟩:=h.stp s q hs
  exact⟨e0,by rw[Array.toList_push];exact List.mem_append_left _ h1,h2,h3⟩
theorem rT.modify{x:fW}{es:Array MapEntry}{c:Nat}(h:rT x es c){k:Int}{i:Nat}{e0:MapEntry}(h0:es[i]? =some e0)(hk:e0.key= .int .i64 k){v:AV}{u:Value}(hf:v.flat=true)(hu:VR .zero v u):rT (x.put k v) (es.modify i (ku k u)) c:=by
 have hm:=iW (u:=u) h0 hk
 have he0:e0 ∈ es.toList:=List.mem_of_getElem? (by rw[Array.getElem?_toList];exact h0)
 obtain⟨v0,g1,_,_⟩:=h.hit he0 hk
 have hput:∀q,(x.put k v).get q=if q=k then some v else x.get q:=λq=>rfl
 refine⟨?_,λe he=>?_,λq y hq=>?_,?_,λs q hs=>?_⟩
 ·show(es.modify _ _).size=if(x.get k).isSome=true then x.cnt else x.cnt+1
  rw[g1,Array.size_modify,h.cnt]
  rfl
 ·rcases yp he with⟨e1,q1,rfl⟩|⟨j,hj,q1⟩
  ·rw[h0] at q1
   cases q1
   obtain⟨_,_,_,_,_,_,h5⟩:=h.ent e0 he0
   exact⟨k,v,rfl,by rw[hput,if_pos rfl],hf,hu,h5⟩
  ·have he':e ∈ es.toList:=List.mem_of_getElem? (by rw[Array.getElem?_toList];exact q1)
   obtain⟨q,y,h1,h2,h3,h4,h5⟩:=h.ent e he'
   refine⟨q,y,h1,?_,h3,h4,h5⟩
   rw[hput,if_neg (λe'=>(jQ h.one q1 h0 hj).1 (by rw[h1,hk,e']))];exact h2
 ·rw[hput] at hq
  by_cases e:q=k
  ·subst e
   obtain⟨e',a1,a2,_⟩:=dR hm he0
   exact⟨e',a1,by rw[a2,hk]⟩
  ·rw[if_neg e] at hq
   obtain⟨e1,h1,h2⟩:=h.dom q y hq
   obtain⟨e',a1,a2,_⟩:=dR hm h1
   exact⟨e',a1,by rw[a2,h2]⟩
 ·have:=(List.pairwise_map (f:=λe:MapEntry=>(e.key,e.born)) (R:=λa b=>a.1≠b.1/\a.2<b.2) (l:=es.toList)).2 h.one
  rw[<-hm] at this
  exact List.pairwise_map.1 this
 ·obtain⟨e1,h1,h2,h3⟩:=h.stp s q hs
  obtain⟨e',a1,a2,a3⟩:=dR hm h1
  exact⟨e',a1,by rw[a3];exact h2,by rw[a2];exact h3⟩
theorem wW.push{y:xi}{es:Array MapEntry}{c since last:Nat}{seen:Array Nat}(h:wW y es c since seen last){k:Int}(hk:∀e ∈ es.toList,e.key≠ .int .i64 k)(u:Value):wW {y with cur:=none} (es.push (qM k u c)) (c+1) since seen last:=by
 refine⟨λe he q hq=>?_,λe he q hq=>?_,λq hq=>?_,λq hq=>?_,λb hb=>Nat.lt_succ_of_lt (h.bnd b hb),h.sl,Nat.le_succ_of_le h.lst,λq v hq=>by cases hq⟩
 ·rw[Array.toList_push] at he
  rcases List.mem_append.1 he with he|he
  ·exact h.sn e he q hq
  ·rw[List.mem_singleton.1 he] at hq ⊢
   cases hq
   constructor
   ·intro hs
    obtain⟨e1,h1,h2⟩:=h.in2 k hs
    exact absurd h2 (hk e1 h1)
   ·intro hs
    have:=h.bnd _ hs
    exact absurd this (Nat.lt_irrefl _)
 ·rw[Array.toList_push] at he
  rcases List.mem_append.1 he with he|he
  ·exact h.od e he q hq
  ·rw[List.mem_singleton.1 he] at hq ⊢
   cases hq
   constructor
   ·intro hs
    obtain⟨e1,h1,h2⟩:=h.in1 k hs
    exact absurd h2 (hk e1 h1)
   ·intro hs
    have h1:=h.sl
    have h2:=h.lst
    have:c<since:=hs
    omega
 ·obtain⟨e1,h1,h2⟩:=h.in1 q hq
  exact⟨e1,by rw[Array.toList_push];exact List.mem_append_left _ h1,h2⟩
 ·obtain⟨e1,h1,h2⟩:=h.in2 q hq
  exact⟨e1,by rw[Array.toList_push];exact List.mem_append_left _ h1,h2⟩
theorem wW.same{y:xi}{es es':Array MapEntry}{c since last:Nat}{seen:Array Nat}(h:wW y es c since seen last)(hm:es'.toList.map (λe=>(e.key,e.born))=es.toList.map (λe=>(e.key,e.born))):wW {y with cur:=none} es' c since seen last:=by
 refine⟨λe he q hq=>?_,λe he q hq=>?_,λq hq=>?_,λq hq=>?_,h.bnd,h.sl,h.lst,λq v hq=>by cases hq⟩
 ·obtain⟨e1,h1,h2,h3⟩:=dR hm.symm he
  rw[<-h3]
  exact h.sn e1 h1 q (by rw[h2,hq])
 ·obtain⟨e1,h1,h2,h3⟩:=dR hm.symm he
  rw[<-h3]
  exact h.od e1 h1 q (by rw[h2,hq])
 ·obtain⟨e1,h1,h2⟩:=h.in1 q hq
  obtain⟨e',a1,a2,_⟩:=dR hm h1
  exact⟨e',a1,by rw[a2,h2]⟩
 ·obtain⟨e1,h1,h2⟩:=h.in2 q hq
  obtain⟨e',a1,a2,_⟩:=dR hm h1
  exact⟨e',a1,by rw[a2,h2]⟩
theorem wW.nocur{y:xi}{es:Array MapEntry}{c since last:Nat}{seen:Array Nat}(h:wW y es c since seen last):wW {y with cur:=none} es c since seen last:=h.same rfl
theorem OR.turnMap{ob:Nat->Option OB}(h:OR B ob w){r:Nat}{es es':Array MapEntry}{c c':Nat}{x':fW}(hr:w.heap[r]? =some (.map es c))(hB:x'.own=true->B<=r)(hm:rT x' es' c')
  (hI:∀(y:xi) since seen last,wW y es c since seen last->wW {y with cur:=none} es' c' since seen last):
  OR B (λr'=>if r'=r then some (.mp x') else(ob r').map OB.clr) {w with heap:=w.heap.setIfInBounds r (.map es' c')}:=λr' y hy=>by
 have hy:(if r'=r then some (OB.mp x') else(ob r').map OB.clr)=some y:=hy
 have hlt:=(Array.getElem?_eq_some_iff.1 hr).1
 have hself:(w.heap.setIfInBounds r (.map es' c'))[r]? =some (.map es' c'):=by rw[Array.getElem?_setIfInBounds_self_of_lt hlt]
 by_cases e:r'=r
 ·subst e
  rw[if_pos rfl] at hy
  cases hy
  exact⟨hB,es',c',hself,hm⟩
 ·rw[if_neg e] at hy
  obtain⟨z,hz,rfl⟩:=Option.map_eq_some_iff.1 hy
  have hne:(w.heap.setIfInBounds r (.map es' c'))[r']? =w.heap[r']? :=Array.getElem?_setIfInBounds_ne (Ne.symm e)
  have h1:=h r' z hz
  cases z with
  |mp x=>
   obtain⟨q,es1,c1,h2,h3⟩:=h1
   exact⟨q,es1,c1,hne.trans h2,h3⟩
  |it y=>
   obtain⟨q,since,seen,last,es1,c1,h2,h3,h4,h5⟩:=h1
   by_cases em:y.m=r
   ·rw[em,hr] at h3
    cases h3
    exact⟨q,since,seen,last,es',c',hne.trans h2,by show(w.heap.setIfInBounds r _)[y.m]? =_;rw[em];exact hself,hI y _ _ _ h4,x',hm⟩
   ·exact⟨q,since,seen,last,es1,c1,hne.trans h2,(Array.getElem?_setIfInBounds_ne (Ne.symm em)).trans h3,h4.nocur,h5⟩
  |fix o=>exact⟨h1.1,hne.trans h1.2.1,h1.2.2⟩
section
variable {T K E:TypeId} (hT:P.underlying T=some (.map K E)) (hK:P.underlying K=some (.int .i64))
include hT hK
theorem Bw{r:Nat}{es:Array MapEntry}{c:Nat}(hr:w.heap[r]? =some (.map es c))(hi:∀e ∈ es.toList,∃n,e.key= .int .i64 n)(k:Int){z:Value}(hz:(zeroValue E).run P w= .ok z w):
  ((Instr.mapEntry T (.map (some r)) (.int .i64 k)).run P w= .ok (.tuple #[z,.int .i64 c]) {w with heap:=w.heap.setIfInBounds r (.map (es.push (qM k z c)) (c+1))}/\∀e ∈ es.toList,e.key≠ .int .i64 k)\/
  ∃i e,es[i]? =some e/\e.key= .int .i64 k/\(Instr.mapEntry T (.map (some r)) (.int .i64 k)).run P w= .ok (.tuple #[e.val,.int .i64 e.born]) {w with heap:=w.heap.setIfInBounds r (.map (es.modify i (ku k e.val)) c)}:=by
 have hc:MapKept.IsKey (.int .i64) (.int .i64 k):=by simp[MapKept.IsKey]
 rcases gn k es.toList 0 hi with⟨h1,h2⟩|⟨i,e,h1,h2,h3⟩
 ·refine .inl ⟨?_,h2⟩
  simp[Instr.mapEntry,run_underlying hT,MapKept.run_getObj_map hr,MapKept.run_checkKey hK hc,MapKept.run_findKey hK h1,MapKept.run_setObj_map _ hr,Result.andThen,qM,hz,goInt]
 ·rw[Nat.zero_add] at h1
  rw[Array.getElem?_toList] at h2
  refine .inr ⟨i,e,h2,h3,?_⟩
  have hmod:(es.modify i λe=>{e with key:= .int .i64 k})=es.modify i (ku k e.val):=by
   apply Array.ext_getElem?
   intro j
   simp only[Array.getElem?_modify]
   by_cases q:i=j
   ·subst q;rw[if_pos rfl,if_pos rfl,h2];simp[ku]
   ·rw[if_neg q,if_neg q]
  simp[Instr.mapEntry,run_underlying hT,MapKept.run_getObj_map hr,MapKept.run_checkKey hK hc,MapKept.run_findKey hK h1,MapKept.run_setObj_map _ hr,Result.andThen,h2,h3,MapKept.run_keyThatStays hc,goInt,hmod]
end
theorem xH{T:TypeId}{r:Nat}{es:Array MapEntry}{c:Nat}(hr:w.heap[r]? =some (.map es c))(ho:es.toList.Pairwise λa b=>a.key≠b.key/\a.born<b.born){e0:MapEntry}(he:e0 ∈ es.toList){k:Int}(hk:e0.key= .int .i64 k)(u:Value):
  ∃i,es[i]? =some e0/\(Instr.entryStore T (.map (some r)) (.int .i64 e0.born) u).run P w= .ok () {w with heap:=w.heap.setIfInBounds r (.map (es.modify i (ku k u)) c)}:=by
 obtain⟨i,hi⟩:=List.mem_iff_getElem?.1 he
 rw[Array.getElem?_toList] at hi
 refine⟨i,hi,?_⟩
 obtain⟨hlt,hge⟩:=Array.getElem?_eq_some_iff.1 hi
 have hf:es.findIdx? (λe=>(e.born:Int)==(e0.born:Int))=some i:=by
  rw[Array.findIdx?_eq_some_iff_getElem]
  refine⟨hlt,by simp[hge],λj hj=>?_⟩
  have hj':j<es.size:=Nat.lt_trans hj hlt
  have:=(jQ ho (a:=j) (b:=i) (x:=es[j]) (y:=e0) (Array.getElem?_eq_getElem hj') hi (by omega)).2
  simp
  omega
 have hmod:(es.modify i λe=>{e with val:=u})=es.modify i (ku k u):=by
  apply Array.ext_getElem?
  intro j
  simp only[Array.getElem?_modify]
  by_cases q:i=j
  ·subst q;rw[if_pos rfl,if_pos rfl,hi];simp[ku,hk]
  ·rw[if_neg q,if_neg q]
 simp[Instr.entryStore,MapKept.run_getObj_map hr,asInt,asIntOf,Result.andThen,hf,MapKept.run_setObj_map _ hr,hmod]
theorem ja{t k el:TypeId}(h:P.underlying t=some (.map k el))(d:Nat)(w:World)(r:Option Nat):(Op.equalIn (d+1) t (.map r) (.map none)).run P w= .ok r.isNone w:=by
 cases r<;>simp[Op.equalIn,run_underlying h]
theorem mq{op:BinOp}{neg:Bool}(hop:op= .eql/\neg=false\/op= .neq/\neg=true){t k el:TypeId}(h:P.underlying t=some (.map k el))(w:World)(r:Option Nat):
  (binOp op t (.map r) (.map none)).run P w= .ok (.bool (r.isNone != neg)) w:=by
 have key:(Op.equal t (.map r) (.map none)).run P w= .ok r.isNone w:=ja h 9999 w r
 rcases hop with⟨rfl,rfl⟩|⟨rfl,rfl⟩
 ·simp[binOp,key]
 ·simp[binOp,key]
theorem ue{op:BinOp}{neg:Bool}{t yt:TypeId}{x:Operand}{m:MO}{Q':AV->AH->Prop}{next:Act->World->Prop}
  (hn:∀v H' u w',Q' v H'->VR σ v u->HR B σ H' w'->Fr B σ σ H H' w w'->next (a.put o.dst u) w') (hE:ER σ e a) (h:HR B σ H w) (hr:gF e H Q' m)
  (hm:((lD P t).bind λ_=>(aG x).map (MO.mn neg))=some m) (hop:op= .eql/\neg=false\/op= .neq/\neg=true) (ho:o.op= .binOp op t x (.const (.map none)) yt):o.wp P a w next Q:=by
 obtain⟨E,hE',hm⟩:=Option.bind_eq_some_iff.1 hm
 obtain⟨x',hx,rfl⟩:=Option.map_eq_some_iff.1 hm
 obtain⟨K,hT,hK⟩:=fc hE'
 have hg:∀v:Option Nat,(eqGuard op t x (.const (.map none)) (.map v) (.map none)).run P w= .ok () w:=λv=>by
  unfold eqGuard
  rcases hop with⟨rfl,_⟩|⟨rfl,_⟩<;>rfl
 have hc:a.eval (.const (.map none))= .map none:=rfl
 have fin:∀r:Option Nat,a.eval x= .map r->Q' (.b (r.isNone != neg)) H->o.wp P a w next Q:=λr e1 hq=>by
  unfold Oper.wp execOp
  rw[ho]
  simp only[e1,hc,Sem.run_bind,hg,mq hop hT w r,Result.andThen_ok,Sem.run_pure,Oper.upon]
  exact hn _ _ _ _ hq (.b _) h (Fr.refl h)
 simp only[gF,ui] at hr
 split at hr
 ·rename_i h1
  refine fin none (cZ hx hE h1) ?_
  cases neg<;>exact hr
 ·rename_i r h1
  refine fin (some r) (cZ hx hE h1) ?_
  cases neg<;>exact hr
 ·exact hr.elim
theorem V7{m:MO}(hm:yq P o.op=some m)(hE:ER σ e a)(h:HR B σ H w){Q':AV->AH->Prop}(hr:gF e H Q' m){next:Act->World->Prop}
  (hn:∀v H' u w',Q' v H'->VR σ v u->HR B σ H' w'->Fr B σ σ H H' w w'->next (a.put o.dst u) w'):o.wp P a w next Q:=by
 unfold yq at hm
 split at hm
 ·rename_i t ho
  cases hm
  exact V8 ho h hr hn
 ·
  rename_i t x k ok ho
  obtain⟨E,hE',hm⟩:=Option.bind_eq_some_iff.1 hm
  obtain⟨x',hx,hm⟩:=Option.bind_eq_some_iff.1 hm
  obtain⟨k',hk,hm⟩:=Option.bind_eq_some_iff.1 hm
  obtain⟨K,hT,hK⟩:=fc hE'
  have key:∃z zu,(zeroValue E).run P w= .ok zu w/\(∀σ:Sg,VR σ z zu)/\r8 H Q' z ok (x'.ev e) (k'.ev e):=by
   split at hm
   ·rename_i z hz
    cases hm
    obtain⟨zu,h1,_,h3⟩:=mj hz w
    exact⟨z,zu,h1,h3,hr⟩
   ·obtain⟨z,hz,rfl⟩:=Option.map_eq_some_iff.1 hm
    obtain⟨zu,h1,h3⟩:=uX hz w
    exact⟨z,zu,h1,h3,hr⟩
  clear hr
  obtain⟨z,zu,hz1,hz3,hr⟩:=key
  have ret:∀(v:AV) (u:Value) (b:Bool),VR σ v u->VR σ (nK ok v b) (if ok=true then .tuple #[u,.bool b] else u):=λv u b hu=>by
   unfold nK
   cases ok
   ·exact hu
   ·exact((a8.nil.cons (.b b)).cons hu).tup
  simp only[gF,r8,xd,xe,xg,u6,xc,xh,vO,ui,r7] at hr
  split at hr
  ·rename_i i h1 h2
   have e1:=cZ hx hE h1
   have e2:=eP hk hE h2
   unfold Oper.wp execOp
   rw[ho]
   simp only[e1,e2,o8 hT hK i ok hz1,Sem.run_bind,Result.andThen_ok,Sem.run_pure,Oper.upon]
   exact hn _ _ _ _ hr (ret _ _ _ (hz3 σ)) h (Fr.refl h)
  ·rename_i r i h1 h2
   have e1:=cZ hx hE h1
   have e2:=eP hk hE h2
   first|unfold uk at hr|unfold ug at hr|unfold vz at hr|unfold wz at hr|unfold u7 at hr|unfold sH at hr|unfold vr at hr|unfold uG at hr|unfold uH at hr|unfold uj at hr
   split at hr
   rotate_left
   ·exact hr.elim
   rename_i x0 hob
   obtain⟨_,es,c,g1,g2⟩:=h.ob.o r _ hob
   unfold Oper.wp execOp
   rw[ho]
   rcases qu hT hK g1 g2.int i ok hz1 with⟨q1,q2⟩|⟨e0,q1,q2,q3⟩
   ·simp only[e1,e2,q1,Sem.run_bind,Result.andThen_ok,Sem.run_pure,Oper.upon]
    refine hn _ _ _ _ hr ?_ h (Fr.refl h)
    unfold fW.look
    rw[g2.miss q2]
    exact ret _ _ _ (hz3 σ)
   ·simp only[e1,e2,q3,Sem.run_bind,Result.andThen_ok,Sem.run_pure,Oper.upon]
    refine hn _ _ _ _ hr ?_ h (Fr.refl h)
    obtain⟨v,p1,p2,p3⟩:=g2.hit q1 q2
    unfold fW.look
    rw[p1]
    exact ret _ _ _ (p3.flat p2)
  ·exact hr.elim
 ·
  rename_i t x k v ho
  obtain⟨E,hE',hm⟩:=Option.bind_eq_some_iff.1 hm
  obtain⟨x',hx,hm⟩:=Option.bind_eq_some_iff.1 hm
  obtain⟨k',hk,hm⟩:=Option.bind_eq_some_iff.1 hm
  obtain⟨v',hv,rfl⟩:=Option.map_eq_some_iff.1 hm
  obtain⟨K,hT,hK⟩:=fc hE'
  simp only[gF,r8,xd,xe,xg,u6,xc,xh,vO,ui,r7] at hr
  split at hr
  rotate_left
  ·exact hr.elim
  rename_i r i vv h1 h2 h3
  have e1:=cZ hx hE h1
  have e2:=eP hk hE h2
  have e3:=aV hv hE h3
  first|unfold uk at hr|unfold ug at hr|unfold vz at hr|unfold wz at hr|unfold u7 at hr|unfold sH at hr|unfold vr at hr|unfold uG at hr|unfold uH at hr|unfold uj at hr
  split at hr
  rotate_left
  ·exact hr.elim
  rename_i x0 hob
  obtain⟨p1,p2,hq⟩:=hr
  obtain⟨g0,es,c,g1,g2⟩:=h.ob.o r _ hob
  unfold Oper.wp execOp
  rw[ho]
  rcases tX hT hK g1 g2.int i (a.eval v) with⟨q1,q2⟩|⟨j,e0,q1,q2,q3⟩
  ·obtain⟨k1,k2⟩:=h.turn (g0 p1) (cJ g1) (h.ob.o.turnMap g1 (λ_=>g0 p1) (g2.push q2 p2 (e3.flat p2)) (λy _ _ _ hy=>hy.push q2 _)) (by rw[hob];simp) (λc hc hn=>hc.turn hn)
   simp only[e1,e2,q1,Sem.run_bind,Result.andThen_ok,Sem.run_pure,Oper.upon]
   exact hn _ _ _ _ hq (.u _) k1 k2
  ·obtain⟨k1,k2⟩:=h.turn (g0 p1) (cJ g1) (h.ob.o.turnMap g1 (λ_=>g0 p1) (g2.modify q1 q2 p2 (e3.flat p2)) (λy _ _ _ hy=>hy.same (iW q1 q2))) (by rw[hob];simp) (λc hc hn=>hc.turn hn)
   simp only[e1,e2,q3,Sem.run_bind,Result.andThen_ok,Sem.run_pure,Oper.upon]
   exact hn _ _ _ _ hq (.u _) k1 k2
 ·
  rename_i t x k v ho
  obtain⟨E,hE',hm⟩:=Option.bind_eq_some_iff.1 hm
  obtain⟨x',hx,hm⟩:=Option.bind_eq_some_iff.1 hm
  obtain⟨k',hk,hm⟩:=Option.bind_eq_some_iff.1 hm
  obtain⟨v',hv,rfl⟩:=Option.map_eq_some_iff.1 hm
  obtain⟨K,hT,hK⟩:=fc hE'
  simp only[gF,r8,xd,xe,xg,u6,xc,xh,vO,ui,r7] at hr
  split at hr
  rotate_left
  ·exact hr.elim
  rename_i r i vv h1 h2 h3
  have e1:=cZ hx hE h1
  have e2:=eP hk hE h2
  have e3:=aV hv hE h3
  first|unfold uk at hr|unfold ug at hr|unfold vz at hr|unfold wz at hr|unfold u7 at hr|unfold sH at hr|unfold vr at hr|unfold uG at hr|unfold uH at hr|unfold uj at hr
  split at hr
  rotate_left
  ·exact hr.elim
  rename_i x0 hob
  obtain⟨p1,p2,hq⟩:=hr
  obtain⟨g0,es,c,g1,g2⟩:=h.ob.o r _ hob
  unfold Oper.wp execOp
  rw[ho]
  rcases tX hT hK g1 g2.int i (a.eval v) with⟨q1,q2⟩|⟨j,e0,q1,q2,q3⟩
  ·obtain⟨k1,k2⟩:=h.turn (g0 p1) (cJ g1) (h.ob.o.turnMap g1 (λ_=>g0 p1) (g2.push q2 p2 (e3.flat p2)) (λy _ _ _ hy=>hy.push q2 _)) (by rw[hob];simp) (λc hc hn=>hc.turn hn)
   simp only[e1,e2,q1,Sem.run_bind,Result.andThen_ok,Sem.run_pure,Oper.upon]
   exact hn _ _ _ _ hq (.u _) k1 k2
  ·obtain⟨k1,k2⟩:=h.turn (g0 p1) (cJ g1) (h.ob.o.turnMap g1 (λ_=>g0 p1) (g2.modify q1 q2 p2 (e3.flat p2)) (λy _ _ _ hy=>hy.same (iW q1 q2))) (by rw[hob];simp) (λc hc hn=>hc.turn hn)
   simp only[e1,e2,q3,Sem.run_bind,Result.andThen_ok,Sem.run_pure,Oper.upon]
   exact hn _ _ _ _ hq (.u _) k1 k2
 ·
  rename_i t x k ho
  obtain⟨E,hE',hm⟩:=Option.bind_eq_some_iff.1 hm
  obtain⟨x',hx,hm⟩:=Option.bind_eq_some_iff.1 hm
  obtain⟨k',hk,hm⟩:=Option.bind_eq_some_iff.1 hm
  obtain⟨z,hz,rfl⟩:=Option.map_eq_some_iff.1 hm
  obtain⟨K,hT,hK⟩:=fc hE'
  obtain⟨zu,hz1,hz2,hz3⟩:=mj hz w
  simp only[gF,r8,xd,xe,xg,u6,xc,xh,vO,ui,r7] at hr
  split at hr
  rotate_left
  ·exact hr.elim
  rename_i r i h1 h2
  have e1:=cZ hx hE h1
  have e2:=eP hk hE h2
  first|unfold uk at hr|unfold ug at hr|unfold vz at hr|unfold wz at hr|unfold u7 at hr|unfold sH at hr|unfold vr at hr|unfold uG at hr|unfold uH at hr|unfold uj at hr
  split at hr
  rotate_left
  ·exact hr.elim
  rename_i x0 hob
  obtain⟨p1,hq⟩:=hr
  obtain⟨g0,es,c,g1,g2⟩:=h.ob.o r _ hob
  unfold Oper.wp execOp
  rw[ho]
  have stp:∀{v:AV} {es':Array MapEntry} {c':Nat} {s:Int},rT (x0.put i v) es' c'->(∃e ∈ es'.toList,(e.born:Int)=s/\e.key= .int .i64 i)->rT {x0.put i v with stp:=some (s,i)} es' c':=λhm he=>⟨hm.cnt,hm.ent,hm.dom,hm.one,λs' k' hs=>by cases hs;exact he⟩
  rcases Bw hT hK g1 g2.int i hz1 with⟨q1,q2⟩|⟨j,e0,q1,q2,q3⟩
  ·have hv:(x0.get i).getD z=z:=by rw[g2.miss q2];rfl
   simp only[fW.ask,hv] at hq
   obtain⟨k1,k2⟩:=h.turn (g0 p1) (cJ g1) (h.ob.o.turnMap g1 (λ_=>g0 p1) (stp (s:=(c:Int)) (g2.push q2 hz2 (hz3 _)) ⟨qM i zu c,by rw[Array.toList_push];exact List.mem_append_right _ (List.mem_singleton.2 rfl),rfl,rfl⟩) (λy _ _ _ hy=>hy.push q2 _)) (by rw[hob];simp) (λc hc hn=>hc.turn hn)
   simp only[e1,e2,q1,Sem.run_bind,Result.andThen_ok,Sem.run_pure,Oper.upon]
   exact hn _ _ _ _ (hq (c:Int)) (((a8.nil.cons (.n .i64 (c:Int))).cons (hz3 σ)).tup) k1 k2
  ·have he0:e0 ∈ es.toList:=List.mem_of_getElem? (by rw[Array.getElem?_toList];exact q1)
   obtain⟨v,b1,b2,b3⟩:=g2.hit he0 q2
   have hv:(x0.get i).getD z=v:=by rw[b1];rfl
   simp only[fW.ask,hv] at hq
   have hmm:=iW (u:=e0.val) q1 q2
   obtain⟨e',a1,a2,a3⟩:=dR hmm he0
   obtain⟨k1,k2⟩:=h.turn (g0 p1) (cJ g1) (h.ob.o.turnMap g1 (λ_=>g0 p1) (stp (s:=(e0.born:Int)) (g2.modify q1 q2 b2 b3) ⟨e',a1,by rw[a3],by rw[a2,q2]⟩) (λy _ _ _ hy=>hy.same hmm)) (by rw[hob];simp) (λc hc hn=>hc.turn hn)
   simp only[e1,e2,q3,Sem.run_bind,Result.andThen_ok,Sem.run_pure,Oper.upon]
   exact hn _ _ _ _ (hq (e0.born:Int)) (((a8.nil.cons (.n .i64 (e0.born:Int))).cons (b3.flat b2)).tup) k1 k2
 ·
  rename_i t x s v ho
  obtain⟨x',hx,hm⟩:=Option.bind_eq_some_iff.1 hm
  obtain⟨s',hs,hm⟩:=Option.bind_eq_some_iff.1 hm
  obtain⟨v',hv,rfl⟩:=Option.map_eq_some_iff.1 hm
  simp only[gF,r8,xd,xe,xg,u6,xc,xh,vO,ui,r7] at hr
  split at hr
  rotate_left
  ·exact hr.elim
  rename_i r i vv h1 h2 h3
  have e1:=cZ hx hE h1
  have e2:=eP hs hE h2
  have e3:=aV hv hE h3
  first|unfold uk at hr|unfold ug at hr|unfold vz at hr|unfold wz at hr|unfold u7 at hr|unfold sH at hr|unfold vr at hr|unfold uG at hr|unfold uH at hr|unfold uj at hr
  split at hr
  rotate_left
  ·exact hr.elim
  rename_i x0 hob
  obtain⟨p1,p2,k,p3,hq⟩:=hr
  obtain⟨g0,es,c,g1,g2⟩:=h.ob.o r _ hob
  obtain⟨e0,b1,b2,b3⟩:=g2.stp _ _ p3
  obtain⟨j,q1,q2⟩:=xH (P:=P) (T:=t) g1 g2.one b1 b3 (a.eval v)
  obtain⟨k1,k2⟩:=h.turn (g0 p1) (cJ g1) (h.ob.o.turnMap g1 (λ_=>g0 p1) (g2.modify q1 b3 p2 (e3.flat p2)) (λy _ _ _ hy=>hy.same (iW q1 b3))) (by rw[hob];simp) (λc hc hn=>hc.turn hn)
  unfold Oper.wp execOp
  rw[ho]
  rw[b2] at q2
  simp only[e1,e2,q2,Sem.run_bind,Result.andThen_ok,Sem.run_pure,Oper.upon]
  exact hn _ _ _ _ hq (.u _) k1 k2
 ·
  rename_i t x ho
  obtain⟨E,hE',hm⟩:=Option.bind_eq_some_iff.1 hm
  obtain⟨x',hx,rfl⟩:=Option.map_eq_some_iff.1 hm
  obtain⟨K,hT,hK⟩:=fc hE'
  simp only[gF,r8,xd,xe,xg,u6,xc,xh,vO,ui,r7] at hr
  split at hr
  ·rename_i h1
   have e1:=cZ hx hE h1
   have hrun:(Instr.range t (.map none)).run P w= .ok (.pointer (some ⟨w.heap.size,0,none⟩)) (w.alloc (.mapIter none 0 #[] 0)):=by
    simp[Instr.range,run_underlying hT,Result.andThen]
   obtain⟨k1,k2⟩:=h.make (o:= .mapIter none 0 #[] 0) (ob:=λr'=>if r'=w.heap.size then some (.fix (.mapIter none 0 #[] 0)) else H.ob r') ((h.ob.o.alloc _).more ⟨h.hB,heap_alloc_new w _,λcs t fr e=>by cases e⟩) (λc hc hn=>hn.more (Nat.ne_of_lt hc) λy e=>by cases e)
   unfold Oper.wp execOp
   rw[ho]
   simp only[e1,hrun,Sem.run_bind,Result.andThen_ok,Sem.run_pure,Oper.upon]
   exact hn _ _ _ _ (hr w.heap.size h.ob.o.free) (.cv _ rfl) k1 k2
  rotate_left
  ·exact hr.elim
  rename_i r h1
  have e1:=cZ hx hE h1
  first|unfold uk at hr|unfold ug at hr|unfold vz at hr|unfold wz at hr|unfold u7 at hr|unfold sH at hr|unfold vr at hr|unfold uG at hr|unfold uH at hr|unfold uj at hr
  split at hr
  rotate_left
  ·exact hr.elim
  rename_i x0 hob
  obtain⟨g0,es,c,g1,g2⟩:=h.ob.o r _ hob
  have hrun:(Instr.range t (.map (some r))).run P w= .ok (.pointer (some ⟨w.heap.size,0,none⟩)) (w.alloc (.mapIter (some r) c #[] c)):=by
   simp[Instr.range,run_underlying hT,MapKept.run_getObj_map g1,Result.andThen]
  have hlt:=(Array.getElem?_eq_some_iff.1 g1).1
  have hir:wW ⟨r,λk=>(x0.get k).isSome,λ_=>false,none⟩ es c c #[] c:=by
   refine⟨λe he k hk=>(by simp),λe he k hk=>?_,λk hk=>?_,λk hk=>(by cases hk),λb hb=>(by simp at hb),Nat.le_refl _,Nat.le_refl _,λk v hk=>(by cases hk)⟩
   ·obtain⟨v,b1,_⟩:=g2.hit he hk
    obtain⟨_,_,_,_,_,_,b5⟩:=g2.ent e he
    simp[b1,b5]
   ·obtain⟨v,hv⟩:=Option.isSome_iff_exists.1 hk
    exact g2.dom k v hv
  obtain⟨k1,k2⟩:=h.make (o:= .mapIter (some r) c #[] c) (ob:=λr'=>if r'=w.heap.size then some (.it ⟨r,λk=>(x0.get k).isSome,λ_=>false,none⟩) else H.ob r') ((h.ob.o.alloc _).more ⟨h.hB,c,#[],c,es,c,heap_alloc_new w _,by rw[Below.heap_alloc _ _ _ hlt];exact g1,hir,x0,g2⟩) (λc hc hn=>hn.more (Nat.ne_of_lt hc) λy e=>by cases e;exact λe=>by have h0:=hn.1;rw[<-e] at h0;rw[hob] at h0;cases h0)
  unfold Oper.wp execOp
  rw[ho]
  simp only[e1,hrun,Sem.run_bind,Result.andThen_ok,Sem.run_pure,Oper.upon]
  exact hn _ _ _ _ (hr w.heap.size h.ob.o.free) (.cv _ rfl) k1 k2
 ·
  rename_i x ho
  obtain⟨x',hx,rfl⟩:=Option.map_eq_some_iff.1 hm
  simp only[gF,r8,xd,xe,xg,u6,xc,xh,vO,ui,r7] at hr
  split at hr
  rotate_left
  ·exact hr.elim
  rename_i t h1
  have e1:=cZ hx hE h1
  first|unfold uk at hr|unfold ug at hr|unfold vz at hr|unfold wz at hr|unfold u7 at hr|unfold sH at hr|unfold vr at hr|unfold uG at hr|unfold uH at hr|unfold uj at hr
  split at hr
  rotate_left
  ·rename_i s1 s2 s3 hob
   obtain⟨_,hh,_⟩:=h.ob.o t _ hob
   have hrun:(Instr.next (.pointer (some ⟨t,0,none⟩)) false o.type).run P w= .ok (.tuple #[.bool false]) w:=by
    simp[Instr.next,getObj,Sem.run,hh,Result.andThen]
   unfold Oper.wp execOp
   rw[ho]
   simp only[e1,hrun,Sem.run_bind,Result.andThen_ok,Sem.run_pure,Oper.upon]
   exact hn _ _ _ _ hr ((a8.nil.cons (.b false)).tup) h (Fr.refl h)
  ·exact hr.elim
  rename_i y hob
  first|unfold uk at hr|unfold ug at hr|unfold vz at hr|unfold wz at hr|unfold u7 at hr|unfold sH at hr|unfold vr at hr|unfold uG at hr|unfold uH at hr|unfold uj at hr
  split at hr
  rotate_left
  ·exact hr.elim
  rename_i x0 hob2
  obtain⟨hq0,hq1,hq2⟩:=hr
  obtain⟨b0,since,seen,last,es,c,b1,b2,b3,xm,b4⟩:=h.ob.o t _ hob
  obtain⟨g0,es',c',g1,g2⟩:=h.ob.o y.m _ hob2
  rw[b2] at g1
  cases g1
  have hold:∀x ∈ es.toList,x.born<since:=λx hx=>by
   obtain⟨k,v,d1,d2,_⟩:=g2.ent x hx
   exact(b3.od x hx k d1).1 (hq0 k v d2)
  unfold Oper.wp execOp
  rw[ho]
  rcases run_next_at (P:=P) w o.type t y.m since last seen es c b1 b2 hold b3.sl with⟨q1,q2⟩|⟨e0,q1,w1,q2,q3⟩
  ·simp only[e1,q2,Sem.run_bind,Result.andThen_ok,Sem.run_pure,Oper.upon]
   refine hn _ _ _ _ (hq2 λk hk=>?_) ((a8.nil.cons (.b false)).tup) h (Fr.refl h)
   obtain⟨e1',c1,c2⟩:=b3.in1 k hk
   by_cases hs:y.seen k=true
   ·exact hs
   ·exfalso
    have hnot:¬e1'.born ∈ seen.toList:=λhin=>hs ((b3.sn e1' c1 k c2).2 hin)
    have:e1' ∈ leftOf es seen:=by
     unfold leftOf
     simp only[Array.mem_filter]
     exact⟨by simpa using c1,by simpa using hnot⟩
    have h0:leftOf es seen= #[]:=Array.eq_empty_of_size_eq_zero q1
    rw[h0] at this
    simp at this
  ·have q1':e0 ∈ es.toList/\¬e0.born ∈ seen.toList:=by
    unfold leftOf at q1
    simp only[Array.mem_toList_iff,Array.mem_filter] at q1
    exact⟨by simpa using q1.1,by simpa using q1.2⟩
   obtain⟨k,v,d1,d2,d3,d4,d5⟩:=g2.ent e0 q1'.1
   have hns:y.seen k=false:=by
    cases hs:y.seen k with
    |false=>rfl
    |true=>exact absurd ((b3.sn e0 q1'.1 k d1).1 hs) q1'.2
   have hw1:w1.heap=w.heap/\HR B σ H w1/\Fr B σ σ H H w w1:=by
    rcases q2 with rfl|rfl
    ·exact⟨rfl,h,Fr.refl h⟩
    ·exact⟨rfl,⟨h.new,h.newl,h.old,h.small,h.hB,h.nil,h.nilp,h.blk,h.szs,h.inj,h.frz,h.ob.of_eq rfl⟩,⟨λ_ _=>rfl,σ.le_refl,Nat.le_refl _,Nat.le_refl _,(Below.refl _ _).drew,λc hc=> .inl rfl,λb c oc hb hs=>by rw[h.new b hb] at hs;cases hs⟩⟩
   obtain⟨hw0,hw2,hw3⟩:=hw1
   have hob3:OR B (λr'=>if r'=t then some (.it {y with seen:=λq=>decide (q=k)||y.seen q,cur:=some (k,v)}) else H.ob r') {w1 with heap:=w1.heap.setIfInBounds t (.mapIter (some y.m) since (seen.push e0.born) c)}:=by
    have htm:t≠y.m:=λe=>by rw[<-e,b1] at b2;cases b2
    have hlt:=(Array.getElem?_eq_some_iff.1 b1).1
    have hne:∀r',r'≠t->(w1.heap.setIfInBounds t (.mapIter (some y.m) since (seen.push e0.born) c))[r']? =w.heap[r']? :=λr' hr'=>by
     rw[Array.getElem?_setIfInBounds_ne (Ne.symm hr'),hw0]
    have hself:(w1.heap.setIfInBounds t (.mapIter (some y.m) since (seen.push e0.born) c))[t]? =some (.mapIter (some y.m) since (seen.push e0.born) c):=by
     rw[Array.getElem?_setIfInBounds_self_of_lt (by rw[hw0];exact hlt)]
    intro r' z hz
    have hz:(if r'=t then some (OB.it {y with seen:=λq=>decide (q=k)||y.seen q,cur:=some (k,v)}) else H.ob r')=some z:=hz
    by_cases e:r'=t
    ·subst e
     rw[if_pos rfl] at hz
     cases hz
     refine⟨b0,since,seen.push e0.born,c,es,c,hself,(hne _ (Ne.symm htm)).trans b2,?_,xm,b4⟩
     refine⟨λx hx q hq=>?_,b3.od,b3.in1,λq hq=>?_,λb hb=>?_,Nat.le_trans b3.sl b3.lst,Nat.le_refl _,λq v' hq=>?_⟩
     ·rw[Array.toList_push,List.mem_append,List.mem_singleton]
      simp only[Bool.or_eq_true,decide_eq_true_eq]
      constructor
      ·rintro (e|e)
       ·right
        subst e
        obtain⟨j1,c1⟩:=List.mem_iff_getElem?.1 hx
        obtain⟨j2,c2⟩:=List.mem_iff_getElem?.1 q1'.1
        rw[Array.getElem?_toList] at c1 c2
        by_cases hj:j1=j2
        ·subst hj
         rw[c1] at c2
         cases c2
         rfl
        ·exact absurd (by rw[hq,d1]) (jQ g2.one c1 c2 hj).1
       ·exact .inl ((b3.sn x hx q hq).1 e)
      ·rintro (e|e)
       ·exact .inr ((b3.sn x hx q hq).2 e)
       ·left
        obtain⟨j1,c1⟩:=List.mem_iff_getElem?.1 hx
        obtain⟨j2,c2⟩:=List.mem_iff_getElem?.1 q1'.1
        rw[Array.getElem?_toList] at c1 c2
        by_cases hj:j1=j2
        ·subst hj
         rw[c1] at c2
         cases c2
         rw[hq] at d1
         cases d1
         rfl
        ·exact absurd e (jQ g2.one c1 c2 hj).2
     ·simp only[Bool.or_eq_true,decide_eq_true_eq] at hq
      rcases hq with rfl|hq
      ·exact⟨e0,q1'.1,d1⟩
      ·exact b3.in2 q hq
     ·rw[Array.toList_push,List.mem_append,List.mem_singleton] at hb
      rcases hb with hb|rfl
      ·exact b3.bnd b hb
      ·exact d5
     ·cases hq
      exact⟨rfl,d3,e0,q1'.1,seen,rfl,d1,d4⟩
    ·rw[if_neg e] at hz
     have h9:=h.ob.o r' z hz
     cases z with
     |mp x=>
      obtain⟨p0,es1,c1,p1,p2⟩:=h9
      exact⟨p0,es1,c1,(hne _ e).trans p1,p2⟩
     |it y1=>
      obtain⟨p0,s1,se1,l1,es1,c1,p1,p2,p3⟩:=h9
      exact⟨p0,s1,se1,l1,es1,c1,(hne _ e).trans p1,(hne _ (λe=>by rw[e,b1] at p2;cases p2)).trans p2,p3⟩
     |fix o=>exact⟨h9.1,(hne _ e).trans h9.2.1,h9.2.2⟩
   have hnc:cP w1.heap[t]? :=by rw[hw0];exact sJ b1
   obtain⟨k1,k2⟩:=hw2.turn (H:=H) b0 hnc hob3 (by rw[hob];simp) (λc hc hn=>hc.more hn λy' e=>by cases e;exact hc.2 t y hob)
   simp only[e1,q3,Sem.run_bind,Result.andThen_ok,Sem.run_pure,Oper.upon]
   refine hn _ _ _ _ (hq1 k v d2 hns) (((a8.nil.cons (d4.flat d3)).cons (by rw[d1];exact .n .i64 k)).cons (.b true)).tup k1 (hw3.trans k2 hw2)
 ·
  rename_i x ho
  obtain⟨x',hx,rfl⟩:=Option.map_eq_some_iff.1 hm
  simp only[gF,r8,xd,xe,xg,u6,xc,xh,vO,ui,r7] at hr
  split at hr
  rotate_left
  ·exact hr.elim
  rename_i t h1
  have e1:=cZ hx hE h1
  first|unfold uk at hr|unfold ug at hr|unfold vz at hr|unfold wz at hr|unfold u7 at hr|unfold sH at hr|unfold vr at hr|unfold uG at hr|unfold uH at hr|unfold uj at hr
  split at hr
  rotate_left
  ·exact hr.elim
  rename_i y hob
  first|unfold uk at hr|unfold ug at hr|unfold vz at hr|unfold wz at hr|unfold u7 at hr|unfold sH at hr|unfold vr at hr|unfold uG at hr|unfold uH at hr|unfold uj at hr
  split at hr
  rotate_left
  ·exact hr.elim
  rename_i k v hcur
  obtain⟨b0,since,seen,last,es,c,b1,b2,b3,xm,b4⟩:=h.ob.o t _ hob
  obtain⟨rfl,c2,e0,c3,s0,rfl,c4,c5⟩:=b3.cu k v hcur
  obtain⟨b2',b3'⟩:∃es',w.heap[y.m]? =some (.map es' last)/\es'=es:=⟨es,b2,rfl⟩
  have hnd:(es.toList.map (·.born)).Nodup:=List.pairwise_map.2 (b4.one.imp λh=>by omega)
  have hrun:=run_entry_at (P:=P) w t y.m since s0 es last e0 b1 b2 c3 hnd
  unfold Oper.wp execOp
  rw[ho]
  simp only[e1,hrun,Sem.run_bind,Result.andThen_ok,Sem.run_pure,Oper.upon]
  refine hn _ _ _ _ hr (((a8.nil.cons (c5.flat c2)).cons (by rw[c4];exact .n .i64 k)).tup) h (Fr.refl h)
 ·
  rename_i x t ho
  obtain⟨E,hE',hm⟩:=Option.bind_eq_some_iff.1 hm
  obtain⟨x',hx,rfl⟩:=Option.map_eq_some_iff.1 hm
  obtain⟨K,hT,hK⟩:=fc hE'
  simp only[gF,r8,xd,xe,xg,u6,xc,xh,vO,ui,r7] at hr
  split at hr
  ·rename_i h1
   have e1:=cZ hx hE h1
   have hb:(Builtin.len_ #[t] o.type #[Value.map none]).run P w= .ok (.int .i64 0) w:=by
    simp[Builtin.len_,run_underlying hT,goInt,Result.andThen]
   unfold Oper.wp execOp
   rw[ho]
   simp only[resolve,invoke,builtin,Sem.run_bind,Sem.run_pure,Result.andThen_ok,List.map_toArray,List.map_cons,List.map_nil,e1,hb,Oper.upon]
   exact hn _ _ _ _ hr (.n .i64 0) h (Fr.refl h)
  ·rename_i r h1
   have e1:=cZ hx hE h1
   first|unfold uk at hr|unfold ug at hr|unfold vz at hr|unfold wz at hr|unfold u7 at hr|unfold sH at hr|unfold vr at hr|unfold uG at hr|unfold uH at hr|unfold uj at hr
   split at hr
   rotate_left
   ·exact hr.elim
   rename_i x0 hob
   obtain⟨g0,es,c,g1,g2⟩:=h.ob.o r _ hob
   have hb:(Builtin.len_ #[t] o.type #[Value.map (some r)]).run P w= .ok (.int .i64 x0.cnt) w:=by
    simp[Builtin.len_,run_underlying hT,goInt,Result.andThen,MapKept.run_getObj_map g1,g2.cnt]
   unfold Oper.wp execOp
   rw[ho]
   simp only[resolve,invoke,builtin,Sem.run_bind,Sem.run_pure,Result.andThen_ok,List.map_toArray,List.map_cons,List.map_nil,e1,hb,Oper.upon]
   exact hn _ _ _ _ hr (.n .i64 _) h (Fr.refl h)
  ·exact hr.elim
 ·
  rename_i x y ats ho
  obtain⟨x',hx,hm⟩:=Option.bind_eq_some_iff.1 hm
  obtain⟨y',hy,rfl⟩:=Option.map_eq_some_iff.1 hm
  simp only[gF,r7] at hr
  split at hr
  ·rename_i i j h1 h2
   have e1:=eP hx hE h1
   have e2:=eP hy hE h2
   have hb:(Builtin.max_ ats o.type #[Value.int .i64 i,Value.int .i64 j]).run P w= .ok (.int .i64 (if i<j then j else i)) w:=by
    simp[Builtin.max_,Builtin.max2,List.foldlM]
   unfold Oper.wp execOp
   rw[ho]
   simp only[resolve,invoke,builtin,Sem.run_bind,Sem.run_pure,Result.andThen_ok,List.map_toArray,List.map_cons,List.map_nil,e1,e2,hb,Oper.upon]
   exact hn _ _ _ _ hr (.n .i64 _) h (Fr.refl h)
  ·rename_i i j h1 h2
   have e1:=eP hx hE h1
   have e2:=eP hy hE h2
   have hb:(Builtin.max_ ats o.type #[Value.int .u32 i,Value.int .u32 j]).run P w= .ok (.int .u32 (if i<j then j else i)) w:=by
    simp[Builtin.max_,Builtin.max2,List.foldlM]
   unfold Oper.wp execOp
   rw[ho]
   simp only[resolve,invoke,builtin,Sem.run_bind,Sem.run_pure,Result.andThen_ok,List.map_toArray,List.map_cons,List.map_nil,e1,e2,hb,Oper.upon]
   exact hn _ _ _ _ hr (.n .u32 _) h (Fr.refl h)
  ·exact hr.elim
 ·
  split at hm
  ·rename_i x y t t' ho _ _ el el' e1 e2
   obtain⟨i0,hi,hm⟩:=Option.bind_eq_some_iff.1 hm
   obtain⟨x',hx,hm⟩:=Option.bind_eq_some_iff.1 hm
   obtain⟨y',hy,rfl⟩:=Option.map_eq_some_iff.1 hm
   have hr':W0 Q' (wI H i0.size ((x'.ev e).bind oY) ((y'.ev e).bind oY)):=hr
   cases hc:wI H i0.size ((x'.ev e).bind oY) ((y'.ev e).bind oY) with
   |none=>rw[hc] at hr';exact hr'.elim
   |some q=>
    obtain⟨v,H'⟩:=q
    rw[hc] at hr'
    exact JZ ho e1 hi hx hy hE h hc (λu w' g1 g2 g3=>hn v H' u w' hr' g1 g2 g3)
  ·cases hm
 ·rename_i x y ats ho
  obtain⟨x',hx,hm⟩:=Option.bind_eq_some_iff.1 hm
  obtain⟨y',hy,rfl⟩:=Option.map_eq_some_iff.1 hm
  simp only[gF,BV] at hr
  split at hr
  ·rename_i i j h1 h2
   have e1:=eP hx hE h1
   have e2:=eP hy hE h2
   have hb:(Builtin.min_ ats o.type #[Value.int .i64 i,Value.int .i64 j]).run P w= .ok (.int .i64 (if j<i then j else i)) w:=by
    simp[Builtin.min_,Builtin.min2,List.foldlM]
   unfold Oper.wp execOp
   rw[ho]
   simp only[resolve,invoke,builtin,Sem.run_bind,Sem.run_pure,Result.andThen_ok,List.map_toArray,List.map_cons,List.map_nil,e1,e2,hb,Oper.upon]
   exact hn _ _ _ _ hr (.n .i64 _) h (Fr.refl h)
  ·rename_i i j h1 h2
   have e1:=eP hx hE h1
   have e2:=eP hy hE h2
   have hb:(Builtin.min_ ats o.type #[Value.int .u32 i,Value.int .u32 j]).run P w= .ok (.int .u32 (if j<i then j else i)) w:=by
    simp[Builtin.min_,Builtin.min2,List.foldlM]
   unfold Oper.wp execOp
   rw[ho]
   simp only[resolve,invoke,builtin,Sem.run_bind,Sem.run_pure,Result.andThen_ok,List.map_toArray,List.map_cons,List.map_nil,e1,e2,hb,Oper.upon]
   exact hn _ _ _ _ hr (.n .u32 _) h (Fr.refl h)
  ·exact hr.elim
 ·rename_i t x yt ho
  exact ue hn hE h hr hm (.inl ⟨rfl,rfl⟩) ho
 ·rename_i t x yt ho
  exact ue hn hE h hr hm (.inr ⟨rfl,rfl⟩) ho
 ·cases hm
end
end Go.Proofs.YtdpkgnmmikebdaaGreat
namespace Go.Proofs.YtdpkgnmmikebdaaGreat
open Go.RowKit
structure gV(B:Nat)(σ σ':Sg):Prop where
 eq:∀c,c<B->σ'.fz c=σ.fz c
 le:∀c fs,σ.fz c=some fs->∃fs',σ'.fz c=some fs'/\gS fs fs'
theorem gV.refl(B:Nat)(σ:Sg):gV B σ σ:=⟨λ_ _=>rfl,λc fs h=>⟨fs,h,gS.refl _⟩⟩
theorem gV.trans{B:Nat}{σ σ1 σ2:Sg}(h:gV B σ σ1)(h':gV B σ1 σ2):gV B σ σ2:=⟨λc hc=>(h'.eq c hc).trans (h.eq c hc),λc fs hf=>by
 obtain⟨f1,e1,p1⟩:=h.le c fs hf
 obtain⟨f2,e2,p2⟩:=h'.le c f1 e1
 exact⟨f2,e2,p1.trans p2⟩⟩
theorem gV.of_eq{B:Nat}{σ σ1:Sg}(h:σ1.fz=σ.fz):gV B σ σ1:=⟨λc _=>by rw[h],λc fs hf=>⟨fs,by rw[h];exact hf,gS.refl _⟩⟩
def WJ(B:Nat)(σ:Sg)(H:AH)(w:World)(Q:AV->AH->Prop):Ending->World->Prop
 |.returned u,w'=>∃v H' σ',Q v H'/\VR σ' v u/\HR B σ' H' w'/\Fr B σ σ' H H' w w'/\gV B σ σ'
 |_,_=>False
def nN(P:Program)(g:FuncId):Prop:=∃fn,P.funcs[g]? =some fn/\(fn.name== "runtime.NumGoroutine")=false/\fn.body.isNone=false
def ko(P:Program)(g:FuncId)(args:List AV)(H:AH)(Q:AV->AH->Prop):Prop:=
 nN P g/\∀(B:Nat) (σ:Sg) (w:World) (args':Array Value),HR B σ H w->a8 σ args args'.toList->Calls P g args' w (WJ B σ H w Q)
def gK(P:Program)(e:Tr AV)(H:AH)(k:AK)(Q:AV->AH->Prop):Prop:=match k with
 |.ap x=>match x.run e H with
  |some (v,H')=>Q v H'
  |none=>False
 |.cl f args=>match f.ev e,r9 e args with
  |some (.f g first cap),some vs=>ko P g (first++vs++cap) H Q
  |_,_=>False
 |.sn neg x=>match x.ev e with
  |some (.fs _ n _)=>∀t,(t=(!neg)->n=0)->Q (.b t) H
  |some .sl0=>∀t,Q (.b t) H
  |_=>False
 |.mo x=>gF e H Q x
theorem nJ{P:Program}{op:BinOp}{t:TypeId}{y:Operand}{neg:Bool}(h:Ie P op t y=some neg)(a:Act)(w:World)(ad:Option Addr)(n c:Nat):
  (binOp op t (.slice ad n c) (a.eval y)).run P w= .ok (.bool (ad.isNone== !neg)) w:=by
 unfold Ie at h
 split at h
 ·rename_i el h1
  cases h
  show(binOp .eql t (.slice ad n c) (.slice none 0 0)).run P w=_
  rw[run_eql_slice_nil w t _ ad n c h1]
  cases ad<;>rfl
 ·rename_i el h1
  cases h
  show(binOp .neq t (.slice ad n c) (.slice none 0 0)).run P w=_
  rw[run_neq_slice_nil w t _ ad n c h1]
  cases ad<;>rfl
 ·cases h
def gm(P:Program):List AO->Tr AV->AH->(Tr AV->AH->Prop)->Prop
 |[],e,H,Q=>Q e H
 |o::l,e,H,Q=>match bq e o.gd with
  |some t=>(t=true->gK P e H o.k (λv H'=>gm P l (aN e o.dst v) H' Q))/\(t=false->gm P l (aN e o.dst (.tup [])) H Q)
  |none=>False
def bS(H0:AH)(m:Nat)(nc:Bool)(e:Tr AV):AK->Prop
 |.ap (.ld _ _ x)=>match x.ev e with
  |some (.p b _)=>b<m/\(H0.at b).isSome=true
  |some (.fp _ _ _)=>nc=true
  |_=>False
 |_=>False
def cE:AK->Bool
 |.ap x=>x.kind==2
 |_=>false
def eu:AK->Bool
 |.cl _ _=>true
 |_=>false
def eT(P:Program)(H0:AH)(m:Nat):Bool->List (Nat×AO)->Tr AV->AH->(Tr AV->AH->Prop)->Prop
 |_,[],e,H,Q=>Q e H
 |nc,(k,o)::l,e,H,Q=>match bq e o.gd with
  |some t=>
   (t=true->if k=1 then bS H0 m nc e o.k/\gK P e H o.k (λv H'=>eT P H0 m nc l (aN e o.dst v) H' Q)
    else if k=2 then cE o.k=true/\gK P e H o.k (λv H'=>eT P H0 m nc l (aN e o.dst v) H' Q)
    else gK P e H o.k (λv H'=>(k=3\/m<=H'.low)/\eT P H0 m (nc&& !eu o.k) l (aN e o.dst v) H' Q))/\
   (t=false->(k=0->m<=H.low)/\eT P H0 m nc l (aN e o.dst (.tup [])) H Q)
  |none=>False
def ek(P:Program)(m:Nat):AT->Tr AV->AH->(Tr AV->AH->Prop)->Prop
 |.fin,e,H,Q=>Q e H
 |.none,_,_,_=>True
 |.alt o r more,e,H,Q=>(match bq e o.gd with
   |some t=>(t=true->gK P e H o.k (λv H'=>m<=H'.low/\ek P m r (aN e o.dst v) H' Q))/\(t=false->m<=H.low/\ek P m r (aN e o.dst (.tup [])) H Q)
   |none=>False)/\ek P m more e H Q
def bI(H:AH):Nat->Nat->Prop
 |_,0=>True
 |m,k+1=>(match H.at m with
  |some x=>x.fzn=0
  |none=>False)/\bI H (m+1) k
theorem bI.get{H:AH}:∀(k m:Nat),bI H m k->∀b,m<=b->b<m+k->∃x,H.at b=some x/\x.fzn=0
 |0,m,_,b,h1,h2=>by omega
 |k+1,m,h,b,h1,h2=>by
  obtain⟨h3,h4⟩:=h
  by_cases e:b=m
  ·subst e
   split at h3
   ·rename_i x hx;exact⟨x,hx,h3⟩
   ·exact h3.elim
  ·exact bI.get k (m+1) h4 b (by omega) (by omega)
def bt(m:Nat)(σ0:Sg)(H0:AH)(w0:World)(w':World):Prop:=
 ∀(c:Nat),(∃(cs:Array Value) (t:TypeId) (fr:Nat×Nat),w0.heap[c]? =some (Obj.cells cs t fr))->(∀b o,m<=b->b<H0.next->σ0 b≠some (c,o))->w'.heap[c]? =w0.heap[c]?
theorem bt.of_fr{B m:Nat}{σ0 σ:Sg}{H0 H:AH}{w0 w:World}(h:Fr B σ0 σ H0 H w0 w)(hl:m<=H.low):bt m σ0 H0 w0 w:=λc hc hn=>by
 obtain⟨cs,t,fr,hc⟩:=hc
 rcases h.old c (Array.getElem?_eq_some_iff.1 hc).1 with e|⟨b,o,h1,h2,h3⟩|hn2
 ·exact e
 ·exact absurd h2 (hn b o (by omega) h1)
 ·exact absurd hc (hn2 _ _ _)
theorem bt.refl(m:Nat)(σ0:Sg)(H0:AH)(w0:World):bt m σ0 H0 w0 w0:=λ_ _ _=>rfl
section
variable {P:Program} {B n:Nat} {σ:Sg} {e:Tr AV} {a:Act} {H:AH} {w:World} {o:Oper} {ops:Array Oper} {Q:Exit->Act->World->Prop}
theorem kc{k:AK}(hc:je P o.op=some k)(hE:ER σ e a)(h:HR B σ H w){Q':AV->AH->Prop}(hr:gK P e H k Q'){next:Act->World->Prop}
  (hn:∀v H' u w' σ',Q' v H'->VR σ' v u->HR B σ' H' w'->Fr B σ σ' H H' w w'->gV B σ σ'->(eu k=false->σ'.fz=σ.fz)->next (a.put o.dst u) w'):o.wp P a w next Q:=by
 have fin:∀ap,kP P o.op=some ap->k= .ap ap->o.wp P a w next Q:=by
  rintro ap hap rfl
  simp only[gK] at hr
  split at hr
  rotate_left
  ·exact hr.elim
  rename_i v H' hrun'
  obtain⟨r,w',σ',hrun,hnr,h1,h2,h3⟩:=Wz hap hE h hrun'
  unfold Oper.wp
  rw[hrun]
  rcases hnr with⟨u,rfl,hu⟩|⟨rfl,rfl⟩
  ·exact hn v H' u w' σ' hr hu h1 h2 (.of_eq h3) (λ_=>h3)
  ·exact hn _ H' undef w' σ' hr (.u _) h1 h2 (.of_eq h3) (λ_=>h3)
 unfold je at hc
 split at hc
 ·rename_i m hm
  cases hc
  exact V7 hm hE h hr (λv H' u w' q1 q2 q3 q4=>hn v H' u w' σ q1 q2 q3 q4 (gV.refl _ _) (λ_=>rfl))
 unfold nC at hc
 split at hc
 ·rename_i op t x y t' ho
  split at hc
  ·rename_i neg hsn
   obtain⟨x',hx,rfl⟩:=Option.map_eq_some_iff.1 hc
   simp only[gK] at hr
   have key:∀(N:Prop),(∀t,(t=(!neg)->N)->Q' (.b t) H)->∀(ad:Option Addr) (n c:Nat),a.eval x= .slice ad n c->(ad=none->N)->o.wp P a w next Q:=by
    intro N hr ad n c hu h0
    unfold Oper.wp execOp
    rw[ho]
    have hg:∀b:Value,(eqGuard op t x y (.slice ad n c) b).run P w= .ok () w:=λb=>by
     unfold eqGuard
     cases op<;>rfl
    simp only[hu,Sem.run_bind,hg,nJ hsn a w ad n c,Result.andThen_ok,Sem.run_pure,Oper.upon]
    have hd:(ad.isNone== !neg)= !neg->N:=λhe=>h0 (by
     clear hn hr fin hc h0
     cases ad with
     |none=>rfl
     |some x=>cases neg<;>simp at he)
    have:=hn (.b (ad.isNone== !neg)) H _ w σ (hr _ hd) (.b _) h (Fr.refl h) (gV.refl _ _) (λ_=>rfl)
    exact this
   split at hr
   ·rename_i esz n0 row hv
    have hval:=aV hx hE hv
    generalize hu:a.eval x=u at hval
    cases hval with
    |fs0 esz row ad cap=>exact key _ hr _ _ _ hu (λ_=>rfl)
    |fs hz hb h1 h2 cap hcap=>exact key _ hr _ _ _ hu (λe=>by cases e)
   ·rename_i hv
    have hval:=aV hx hE hv
    generalize hu:a.eval x=u at hval
    cases hval with
    |sl0 ad=>exact key True (λt _=>hr t) _ _ _ hu (λ_=>trivial)
   ·exact hr.elim
  ·obtain⟨ap,hap,rfl⟩:=Option.map_eq_some_iff.1 hc
   exact fin ap (by rw[ho];exact hap) rfl
 ·rename_i c ho
  split at hc
  ·rename_i f hf
   obtain⟨f',hf',hc⟩:=Option.bind_eq_some_iff.1 hc
   obtain⟨l',hl,rfl⟩:=Option.map_eq_some_iff.1 hc
   simp only[gK] at hr
   split at hr
   rotate_left
   ·exact hr.elim
   rename_i g first cap vs hfe hvs
   obtain⟨c1,c2,hev,g1,g2⟩:=zF hf' hE hfe
   obtain⟨⟨fn,k1,k2,k3⟩,hcall⟩:=hr
   have hargs:a8 σ (first++vs++cap) (c1++c.args.map a.eval++c2).toList:=by
    have:=(g1.app (fN hl hE hvs)).app g2
    simpa using this
   have hcl:=hcall B σ w _ h hargs
   unfold Oper.wp execOp
   rw[ho]
   simp only[Sem.run_bind,resolve,hf,hev,Deferred.ofValue,Sem.run_pure,Result.andThen_ok,invoke,fF k1 k2 k3,Oper.upon]
   refine Calls.mono hcl (λen w' hp=>?_)
   cases en with
   |returned u=>obtain⟨v,H',σ',q0,q1,q2,q3,q4⟩:=hp;exact hn v H' u w' σ' q0 q1 q2 q3 q4 (λhh=>by cases hh)
   |panicked c=>exact hp.elim
   |outgrown=>exact hp.elim
  ·obtain⟨ap,hap,rfl⟩:=Option.map_eq_some_iff.1 hc
   exact fin ap (by rw[ho];exact hap) rfl
 ·obtain⟨ap,hap,rfl⟩:=Option.map_eq_some_iff.1 hc
  exact fin ap hap rfl
theorem lS:∀(l:List Oper) (l':List AO) {σ:Sg} {e:Tr AV} {H:AH} {a:Act} {w:World} {Q':Tr AV->AH->Prop},fh P n ops l=some l'->gm P l' e H Q'->EN n σ e a->HR B σ H w->∀{σb:Sg},gV B σb σ->
  (∀e' H' a' w' σ',Q' e' H'->EN n σ' e' a'->HR B σ' H' w'->Fr B σ σ' H H' w w'->gV B σb σ'->Q .normal a' w')->wpList P ops Q l a w
 |[],l',σ,e,H,a,w,Q',hl,hr,hE,h,σb,hz,hQ=>by
  simp only[fh,Option.some.injEq] at hl
  subst hl
  exact hQ e H a w σ hr hE h (Fr.refl h) hz
 |o::l,l',σ,e,H,a,w,Q',hl,hr,hE,h,σb,hz,hQ=>by
  simp only[fh] at hl
  obtain⟨x,hx,hl⟩:=Option.bind_eq_some_iff.1 hl
  obtain⟨r,hl2,rfl⟩:=Option.map_eq_some_iff.1 hl
  unfold jC at hx
  split at hx
  rotate_left
  ·cases hx
  rename_i hd
  obtain⟨g,hg,hx⟩:=Option.bind_eq_some_iff.1 hx
  obtain⟨k,hk,rfl⟩:=Option.map_eq_some_iff.1 hx
  simp only[gm] at hr
  unfold wpList
  split at hr
  rotate_left
  ·exact hr.elim
  rename_i t hw
  cases t
  rotate_left
  ·replace hr:=hr.1 rfl
   rw[cd hE.er hg hw,if_pos rfl]
   refine .inl (kc hk hE.er h hr λv H1 u w1 σ1 q0 q1 q2 q3 q4 _=>?_)
   exact lS l r hl2 q0 ((hE.mono q3.ext).put q1 hd) q2 (hz.trans q4) (λe' H' a' w' σ' p0 p1 p2 p3 p4=>hQ e' H' a' w' σ' p0 p1 p2 (q3.trans p3 q2) p4)
  ·replace hr:=hr.2 rfl
   rw[cd hE.er hg hw,if_neg (by simp)]
   exact lS l r hl2 hr (hE.put (u:=undef) (.tup rfl (λi v h=>by simp at h)) hd) h hz hQ
end
section
variable {P:Program} {B n m:Nat} {σ0:Sg} {H0:AH} {w0:World} {ops:Array Oper} {fl:List Nat} {Q:Exit->Act->World->Prop}
theorem gl(h0:HR B σ0 H0 w0)(htop:bI H0 m (H0.next-m))(hp:∀c a w,¬Q (.panic c) a w):∀(pl:List (Nat×Nat)) (l':List (Nat×AO)) {nc:Bool} {σ:Sg} {e:Tr AV} {H:AH} {a:Act} {w:World} {Q':Tr AV->AH->Prop},dT P n ops fl pl=some l'->eT P H0 m nc l' e H Q'->EN n σ e a->HR B σ H w->
  Fr B σ0 σ H0 H w0 w->(bt m σ0 H0 w0 w\/pl.all (·.1 != 1)=true)->(nc=true->σ.fz=σ0.fz)->gV B σ0 σ->
  (∀e' H' a' w' σ',Q' e' H'->EN n σ' e' a'->HR B σ' H' w'->Fr B σ0 σ' H0 H' w0 w'->gV B σ0 σ'->Q .normal a' w')->au P .any ops Q (bt m σ0 H0 w0) fl (aq ops (pl.map cg)) a w
 |[],l',nc,σ,e,H,a,w,Q',hl,hr,hE,h,hF,hG,hz,hzb,hQ=>by
  simp only[dT,Option.some.injEq] at hl
  subst hl
  show au P .any ops Q (bt m σ0 H0 w0) fl [] a w
  exact eF (hQ e H a w σ hr hE h hF hzb)
 |(k,j)::pl,l',nc,σ,e,H,a,w,Q',hl,hr,hE,h,hF,hG,hz,hzb,hQ=>by
  simp only[dT] at hl
  split at hl
  rotate_left
  ·cases hl
  rename_i o ho
  obtain⟨x,hx,hl⟩:=Option.bind_eq_some_iff.1 hl
  split at hl
  rotate_left
  ·cases hl
  rename_i hk3
  obtain⟨hk3,hsee⟩:=hk3
  obtain⟨r,hl2,rfl⟩:=Option.map_eq_some_iff.1 hl
  unfold jC at hx
  split at hx
  rotate_left
  ·cases hx
  rename_i hd
  obtain⟨g,hg,hx⟩:=Option.bind_eq_some_iff.1 hx
  obtain⟨ak,hk,rfl⟩:=Option.map_eq_some_iff.1 hx
  have hgp:aq ops (((k,j)::pl).map cg)=((cg (k,j)).1,j,o)::aq ops (pl.map cg):=by
   have:cg (k,j)=((cg (k,j)).1,j):=by unfold cg;split<;>first|rfl|(rename_i heq;cases heq;rfl)
   rw[List.map_cons,this]
   simp[aq,ho]
  rw[hgp]
  have hG':bt m σ0 H0 w0 w\/pl.all (·.1 != 1)=true:=hG.imp id (λq=>by simp only[List.all_cons,Bool.and_eq_true] at q;exact q.2)
  simp only[eT] at hr
  split at hr
  rotate_left
  ·exact hr.elim
  rename_i t hw
  cases t
  rotate_left
  ·replace hr:=hr.1 rfl
   have hwant:=cd hE.er hg hw
   split at hr
   ·
    rename_i hk1
    subst hk1
    obtain⟨hearly,hr⟩:=hr
    cases ak with
    |cl f args=>exact hearly.elim
    |sn neg x=>exact hearly.elim
    |mo x=>exact hearly.elim
    |ap ap0=>
     cases ap0<;>try exact hearly.elim
     rename_i nn row xx
     simp only[gK] at hr
     split at hr
     rotate_left
     ·exact hr.elim
     rename_i v H1 hrun
     obtain⟨q1,_,_,_,c,u,q2,q34,q5,q6⟩:=pT (kj hk) rfl hE.er h hrun
     subst q1
     cases q2
     have hgw:bt m σ0 H0 w0 w:=by
      rcases hG with q|q
      ·exact q
      ·simp at q
     have htop':=bI.get _ _ htop
     have hclt:(∃(cs:Array Value) (t:TypeId) (fr:Nat×Nat),w0.heap[c]? =some (Obj.cells cs t fr))/\∀b o,m<=b->b<H0.next->σ0 b≠some (c,o):=by
      rcases q34 with⟨b,off,oc,q3,q4⟩|⟨_,_,_,fs,q3,q4,q40⟩
      ·simp only[bS,q3] at hearly
       obtain⟨hbm,hearly⟩:=hearly
       obtain⟨xb,hxb⟩:=Option.isSome_iff_exists.1 hearly
       have hc0:σ b=σ0 b:=hF.dom b (AH.at_lt h0 hxb)
       rw[hc0] at q4
       obtain⟨cs0,p2,p3,p4⟩:=h0.blk b xb c oc hxb q4
       refine⟨⟨_,_,_,p3⟩,λb' o' h1 h2 h3=>?_⟩
       obtain⟨x',hx',_⟩:=htop' b' h1 (by omega)
       have:=h0.inj b b' xb x' c oc o' hxb hx' q4 h3
       omega
      ·simp only[bS,q3] at hearly
       rw[hz hearly] at q4
       refine⟨by obtain⟨cs',t',fr',m1,_⟩:=h0.frz c fs q4;exact⟨_,_,_,m1⟩,λb' o' h1 h2 h3=>?_⟩
       obtain⟨x',hx',hx0⟩:=htop' b' h1 (by omega)
       obtain⟨cs',t',fr',_,_,m3⟩:=h0.frz c fs q4
       have:=m3 b' x' o' hx' h3
       omega
     have hcell:∀{w':World},bt m σ0 H0 w0 w'->∀i,w'.cell? ⟨c,i,none⟩=w0.cell? ⟨c,i,none⟩:=λhw' i=>by
      have:=hw' c hclt.1 hclt.2
      simp only[World.cell?,this]
     show au P .any ops Q (bt m σ0 H0 w0) fl ((1,j,o)::aq ops (pl.map cg)) a w
     unfold au
     rw[if_pos hwant]
     refine⟨u,λw' hw'=>q6 w' (λi=>(hcell hw' i).trans (hcell hgw i).symm),?_⟩
     exact gl h0 htop hp pl r hl2 hr (hE.put q5 hd) h hF hG' hz hzb hQ
   ·split at hr
    ·
     rename_i hk1 hk2
     subst hk2
     obtain⟨hpure,hr⟩:=hr
     cases ak with
     |cl f args=>cases hpure
     |sn neg x=>cases hpure
     |mo x=>cases hpure
     |ap xx=>
      have hkind:xx.kind=2:=by simpa [cE] using hpure
      simp only[gK] at hr
      split at hr
      rotate_left
      ·exact hr.elim
      rename_i v H1 hrun
      obtain⟨q1,u,q2,q3⟩:=nA (kj hk) hkind hE.er h hrun
      subst q1
      show au P .any ops Q (bt m σ0 H0 w0) fl ((2,j,o)::aq ops (pl.map cg)) a w
      unfold au
      rw[if_pos hwant]
      exact⟨u,q3,gl h0 htop hp pl r hl2 hr (hE.put q2 hd) h hF hG' hz hzb hQ⟩
    ·rename_i hk1 hk2
     have hu0:(cg (k,j)).1=0:=by
      have:k=0\/k=3:=by omega
      rcases this with rfl|rfl<;>rfl
     rw[hu0]
     have hz':∀{σ1:Sg},(eu ak=false->σ1.fz=σ.fz)->(nc&& !eu ak)=true->σ1.fz=σ0.fz:=λh1 h2=>by
      simp only[Bool.and_eq_true,Bool.not_eq_true'] at h2
      rw[h1 h2.2,hz h2.1]
     by_cases hk0:k=3
     ·subst hk0
      obtain⟨s1,s2⟩:=hsee rfl
      refine da s1 (co hwant ?_)
      refine kc hk hE.er h hr λv H1 u w1 σ1 q0 q1 q2 q3 q5 q4=>?_
      exact gl h0 htop hp pl r hl2 q0.2 ((hE.mono q3.ext).put q1 hd) q2 (hF.trans q3 h) (.inr s2) (hz' q4) (hzb.trans q5) hQ
     ·refine eV (co hwant ?_)
      refine kc hk hE.er h hr λv H1 u w1 σ1 q0 q1 q2 q3 q5 q4=>?_
      have hlow':m<=H1.low:=q0.1.resolve_left hk0
      have hF1:=hF.trans q3 h
      have hg1:=bt.of_fr hF1 hlow'
      exact⟨hg1,gl h0 htop hp pl r hl2 q0.2 ((hE.mono q3.ext).put q1 hd) q2 hF1 (.inl hg1) (hz' q4) (hzb.trans q5) hQ⟩
  ·replace hr:=hr.2 rfl
   obtain⟨hlow,hr⟩:=hr
   have hwant:=cd hE.er hg hw
   have hput:=hE.put (u:=undef) (v:= .tup []) (.tup rfl (λi v h=>by simp at h)) hd
   have next:=gl h0 htop hp pl r hl2 hr hput h hF hG' hz hzb hQ
   have:(cg (k,j)).1=0\/(cg (k,j)).1=1\/(cg (k,j)).1=2:=by
    have:k=0\/k=1\/k=2\/k=3:=by omega
    rcases this with rfl|rfl|rfl|rfl<;>simp[cg]
   rcases this with q|q|q<;>rw[q]
   ·have hskip:∀R:Exit->Act->World->Prop,R .normal (a.put o.dst undef) w->wpList P ops R [o] a w:=λR hR=>by
     unfold wpList
     rw[hwant,if_neg (by simp)]
     exact hR
    unfold au
    split
    ·exact hskip _ next
    ·rename_i hs
     refine hskip _ ⟨?_,next⟩
     have:k=0\/k=1\/k=2\/k=3:=by omega
     rcases this with rfl|rfl|rfl|rfl
     ·exact bt.of_fr hF (hlow rfl)
     ·simp[cg] at q
     ·simp[cg] at q
     ·exact absurd (hsee rfl).1 hs
   ·unfold au
    rw[hwant,if_neg (by simp)]
    exact next
   ·unfold au
    rw[hwant,if_neg (by simp)]
    exact next
end
theorem kU{P:Program}{ops:Array Oper}{o:Oper}{a:Act}{w:World}{R:Exit->Act->World->Prop}(hw:Region.wanted o (yielded ops a.tmps)=false)(h:R .normal (a.put o.dst undef) w):wpList P ops R [o] a w:=by
 unfold wpList
 rw[hw,if_neg (by simp)]
 exact h
section
variable {P:Program} {B n m:Nat} {σ0:Sg} {H0:AH} {w0:World} {ops:Array Oper} {Q:Exit->Act->World->Prop}
theorem kb(h0:HR B σ0 H0 w0)(hp:∀c a w,¬Q (.panic c) a w):∀(T:PT) (T':AT) {σ:Sg} {e:Tr AV} {H:AH} {a:Act} {w:World} {Q':Tr AV->AH->Prop},nR P n ops T=some T'->ek P m T' e H Q'->EN n σ e a->HR B σ H w->Fr B σ0 σ H0 H w0 w->gV B σ0 σ->
  (∀e' H' a' w' σ',Q' e' H'->EN n σ' e' a'->HR B σ' H' w'->Fr B σ0 σ' H0 H' w0 w'->gV B σ0 σ'->Q .normal a' w')->fm P ops Q (bt m σ0 H0 w0) T a w
 |.fin,T',σ,e,H,a,w,Q',hT,hr,hE,h,hF,hzb,hQ=>by
  simp only[nR,Option.some.injEq] at hT
  subst hT
  exact hQ e H a w σ hr hE h hF hzb
 |.none,T',σ,e,H,a,w,Q',hT,hr,hE,h,hF,hzb,hQ=>trivial
 |.alt j r more,T',σ,e,H,a,w,Q',hT,hr,hE,h,hF,hzb,hQ=>by
  simp only[nR] at hT
  split at hT
  rotate_left
  ·cases hT
  rename_i o ho
  obtain⟨x,hx,hT⟩:=Option.bind_eq_some_iff.1 hT
  obtain⟨r',hr',hT⟩:=Option.bind_eq_some_iff.1 hT
  obtain⟨m',hm',rfl⟩:=Option.map_eq_some_iff.1 hT
  unfold jC at hx
  split at hx
  rotate_left
  ·cases hx
  rename_i hd
  obtain⟨g,hg,hx⟩:=Option.bind_eq_some_iff.1 hx
  obtain⟨ak,hk,rfl⟩:=Option.map_eq_some_iff.1 hx
  obtain⟨hr1,hr2⟩:=hr
  refine⟨?_,kb h0 hp more m' hm' hr2 hE h hF hzb hQ⟩
  rw[ho]
  simp only
  split at hr1
  rotate_left
  ·exact hr1.elim
  rename_i t hw
  have hwant:=cd hE.er hg hw
  cases t
  rotate_left
  ·replace hr1:=hr1.1 rfl
   refine co hwant (kc hk hE.er h hr1 λv H1 u w1 σ1 q0 q1 q2 q3 q5 q4=>?_)
   have hF1:=hF.trans q3 h
   exact⟨bt.of_fr hF1 q0.1,kb h0 hp r r' hr' q0.2 ((hE.mono q3.ext).put q1 hd) q2 hF1 (hzb.trans q5) hQ⟩
  ·replace hr1:=hr1.2 rfl
   refine kU hwant ?_
   exact⟨bt.of_fr hF hr1.1,kb h0 hp r r' hr' hr1.2 (hE.put (u:=undef) (.tup rfl (λi v h=>by simp at h)) hd) h hF hzb hQ⟩
end
/-! ### code-/
def GW(P:Program)(n:Nat)(c:Code)(e:Tr AV)(H:AH)(Q:AE->Tr AV->AH->Prop):Prop:=
 ∀(B:Nat) (σ:Sg) (a:Act) (w:World) (R:Exit->Act->World->Prop),EN n σ e a->HR B σ H w->(∀c a w,¬R (.panic c) a w)->
  (∀x e' H' a' w' σ',Q x e' H'->EN n σ' e' a'->HR B σ' H' w'->Below B w w'->gV B σ σ'->R x.to a' w')->c.wp P R a w
def GA(P:Program)(n:Nat)(hints:bu)(ac:AC)(e:Tr AV)(H:AH)(Q:AE->Tr AV->AH->Prop):Prop:=∀c,cA P n hints c=some ac->GW P n c e H Q
def Wk(n:Nat)(e:Tr AV)(H:AH)(e2:Tr AV)(H2:AH):Prop:=∀(B:Nat) (σ:Sg) (a:Act) (w:World),EN n σ e a->HR B σ H w->∃σ2,EN n σ2 e2 a/\HR B σ2 H2 w/\gV B σ σ2
section
variable {P:Program} {n:Nat} {hints:bu} {e:Tr AV} {H:AH} {Q:AE->Tr AV->AH->Prop}
theorem Wk.refl:Wk n e H e H:=λB σ a w h1 h2=>⟨σ,h1,h2,.refl _ _⟩
theorem Wk.trans{e1 e2:Tr AV}{H1 H2:AH}(h:Wk n e H e1 H1)(h':Wk n e1 H1 e2 H2):Wk n e H e2 H2:=λB σ a w h1 h2=>by
 obtain⟨σ1,k1,k2,k3⟩:=h B σ a w h1 h2
 obtain⟨σ2,m1,m2,m3⟩:=h' B σ1 a w k1 k2
 exact⟨σ2,m1,m2,k3.trans m3⟩
theorem GA.wk{ac:AC}{e2:Tr AV}{H2:AH}(hw:Wk n e H e2 H2)(h:GA P n hints ac e2 H2 Q):GA P n hints ac e H Q:=λc hc B σ a w R hE hH hp hR=>by
 obtain⟨σ2,k1,k2,k3⟩:=hw B σ a w hE hH
 exact h c hc B σ2 a w R k1 k2 hp (λx e' H' a' w' σ' q m1 m2 m3 m4=>hR x e' H' a' w' σ' q m1 m2 m3 (k3.trans m4))
theorem GA.mono{ac:AC}{Q':AE->Tr AV->AH->Prop}(h:GA P n hints ac e H Q)(hq:∀x e H,Q x e H->Q' x e H):GA P n hints ac e H Q':=λc hc B σ a w R hE hH hp hR=>
 h c hc B σ a w R hE hH hp (λx e' H' a' w' σ' q=>hR x e' H' a' w' σ' (hq _ _ _ q))
def WC(P:Program)(n:Nat)(hints:bu)(c:Code)(ac:AC):Prop:=match ac with
 |.skip=>c= .skip
 |.exit id=>c= .exit id
 |.ret=>c= .ret
 |.seq x y=>∃a b,c= .seq a b/\cA P n hints a=some x/\cA P n hints b=some y
 |.cond cc x y=>∃o a b,c= .cond o a b/\aG o=some cc/\cA P n hints a=some x/\cA P n hints b=some y
 |.block id x=>∃b,c= .block id b/\cA P n hints b=some x
 |.loop x=>∃b,c= .loop b/\cA P n hints b=some x
 |.reg l=>∃id ops,c= .region id ops false/\fh P n ops ops.toList=some l
 |.mix l=>∃id ops fl pu pl,c= .region id ops true/\sM .any ops fl pu (pl.map cg)=true/\dT P n ops fl pl=some l
 |.frk l T'=>∃id ops fl pu pl T,c= .region id ops true/\uy .any ops fl pu pl T=true/\pl.all (λp=>p.1==1||p.1==2)=true/\dT P n ops fl pl=some l/\nR P n ops T=some T'
 |.rf g p1 p2 x y=>∃go asg body,c= .rangeFunc go #[p1,p2] asg body/\aG go=some g/\cA P n hints asg=some x/\cA P n hints body=some y/\p1<n/\p2<n
 |.mxl _=>True
 |.dfr l f as=>∃id ops,c= .region id ops false/\Wu P n ops ops.toList=some (l,f,as)
 |.die=>True
theorem bp{c:Code}{ac:AC}(h:cA P n hints c=some ac):WC P n hints c ac:=by
 cases c with
 |skip=>simp only[cA,Option.some.injEq] at h;subst h;exact rfl
 |exit id=>simp only[cA,Option.some.injEq] at h;subst h;exact rfl
 |ret=>simp only[cA,Option.some.injEq] at h;subst h;exact rfl
 |region id ops dr=>
  simp only[cA,Option.some.injEq] at h
  cases hc0:qB P n hints id ops dr with
  |none=>rw[hc0] at h;subst h;exact True.intro
  |some ac0=>
  rw[hc0] at h
  have e0:ac0=ac:=h
  subst e0
  clear h
  have h:=hc0
  clear hc0
  unfold qB at h
  split at h
  ·rename_i hd
   subst hd
   split at h
   ·rename_i fl pu pl hh
    split at h
    rotate_left
    ·cases h
    rename_i hB
    split at h
    ·rename_i l' hl
     cases h
     exact⟨id,ops,fl,pu,pl,rfl,hB,hl⟩
    ·obtain⟨l',hl,rfl⟩:=Option.map_eq_some_iff.1 h
     exact True.intro
   ·rename_i fl pu pl T hh
    split at h
    rotate_left
    ·cases h
    rename_i hB
    obtain⟨l',hl,h⟩:=Option.bind_eq_some_iff.1 h
    obtain⟨T',hT,rfl⟩:=Option.map_eq_some_iff.1 h
    exact⟨id,ops,fl,pu,pl,T,rfl,hB.1,hB.2,hl,hT⟩
   ·cases h
  ·rename_i hd
   have:dr=false:=by simpa using hd
   subst this
   split at h
   ·rename_i l' hl
    cases h
    exact⟨id,ops,rfl,hl⟩
   ·obtain⟨⟨l',f,as⟩,hl,rfl⟩:=Option.map_eq_some_iff.1 h
    exact⟨id,ops,rfl,hl⟩
 |seq a b=>
  simp only[cA] at h
  obtain⟨x,h1,h⟩:=Option.bind_eq_some_iff.1 h
  obtain⟨y,h2,rfl⟩:=Option.map_eq_some_iff.1 h
  exact⟨a,b,rfl,h1,h2⟩
 |cond o a b=>
  simp only[cA] at h
  obtain⟨cc,h0,h⟩:=Option.bind_eq_some_iff.1 h
  obtain⟨x,h1,h⟩:=Option.bind_eq_some_iff.1 h
  obtain⟨y,h2,rfl⟩:=Option.map_eq_some_iff.1 h
  exact⟨o,a,b,rfl,h0,h1,h2⟩
 |block id b=>
  simp only[cA] at h
  obtain⟨x,h1,rfl⟩:=Option.map_eq_some_iff.1 h
  exact⟨b,rfl,h1⟩
 |loop b=>
  simp only[cA] at h
  obtain⟨x,h1,rfl⟩:=Option.map_eq_some_iff.1 h
  exact⟨b,rfl,h1⟩
 |rangeFunc g ps asg body=>
  simp only[cA] at h
  obtain⟨g1,h1,h⟩:=Option.bind_eq_some_iff.1 h
  obtain⟨x1,h2,h⟩:=Option.bind_eq_some_iff.1 h
  obtain⟨y1,h3,h⟩:=Option.bind_eq_some_iff.1 h
  unfold ZN at h
  split at h
  ·split at h
   ·rename_i hp
    cases h
    exact⟨g,asg,body,rfl,h1,h2,h3,hp.1,hp.2⟩
   ·cases h
  ·cases h
 |_=>simp[cA] at h
theorem GA.skip(h:Q .normal e H):GA P n hints .skip e H Q:=λc hc B σ a w R hE hH hp hR=>by
 obtain rfl:=bp hc
 exact wp_skip (hR .normal e H a w σ h hE hH (Below.refl _ _) (.refl _ _))
theorem GA.exit{i:Nat}(h:Q (.exit i) e H):GA P n hints (.exit i) e H Q:=λc hc B σ a w R hE hH hp hR=>by
 obtain rfl:=bp hc
 exact wp_exit (hR (.exit i) e H a w σ h hE hH (Below.refl _ _) (.refl _ _))
theorem GA.ret(h:Q .ret e H):GA P n hints .ret e H Q:=λc hc B σ a w R hE hH hp hR=>by
 obtain rfl:=bp hc
 exact wp_ret (hR .ret e H a w σ h hE hH (Below.refl _ _) (.refl _ _))
def gD(K:Tr AV->AH->Prop)(Q:AE->Tr AV->AH->Prop):AE->Tr AV->AH->Prop
 |.normal,e,H=>K e H
 |x,e,H=>Q x e H
theorem GA.seq{x y:AC}(h:GA P n hints x e H (gD (λe' H'=>GA P n hints y e' H' Q) Q)):GA P n hints (.seq x y) e H Q:=λc hc B σ a w R hE hH hp hR=>by
 obtain⟨ca,cb,rfl,h1,h2⟩:=bp hc
 refine wp_seq ?_
 refine h ca h1 B σ a w _ hE hH (λc a w hq=>hp c a w hq) (λx' e' H' a' w' σ' q k1 k2 k3 k4=>?_)
 cases x' with
 |normal=>exact q cb h2 B σ' a' w' R k1 k2 hp (λx e' H' a'' w'' σ'' q' m1 m2 m3 m4=>hR x e' H' a'' w'' σ'' q' m1 m2 (k3.trans m3) (k4.trans m4))
 |exit i=>exact hR (.exit i) e' H' a' w' σ' q k1 k2 k3 k4
 |ret=>exact hR .ret e' H' a' w' σ' q k1 k2 k3 k4
theorem GA.cond{cc:AX}{x y:AC}{t:Bool}(hc:cc.ev e=some (.b t))(h1:t=true->GA P n hints x e H Q)(h2:t=false->GA P n hints y e H Q):GA P n hints (.cond cc x y) e H Q:=λc hcc B σ a w R hE hH hp hR=>by
 obtain⟨o,ca,cb,rfl,h0,g1,g2⟩:=bp hcc
 cases t with
 |true=>exact wp_cond_true (zG h0 hE.er hc) (h1 rfl ca g1 B σ a w R hE hH hp hR)
 |false=>exact wp_cond_false (zG h0 hE.er hc) (h2 rfl cb g2 B σ a w R hE hH hp hR)
def jA(id:Nat)(Q:AE->Tr AV->AH->Prop):AE->Tr AV->AH->Prop
 |.exit i,e,H=>if i=id then Q .normal e H else Q (.exit i) e H
 |x,e,H=>Q x e H
theorem GA.block{id:Nat}{x:AC}(h:GA P n hints x e H (jA id Q)):GA P n hints (.block id x) e H Q:=λc hc B σ a w R hE hH hp hR=>by
 obtain⟨b,rfl,h1⟩:=bp hc
 refine wp_block ?_
 refine h b h1 B σ a w _ hE hH (λc a w hq=>hp c a w hq) (λx' e' H' a' w' σ' q k1 k2 k3 k4=>?_)
 cases x' with
 |normal=>exact hR .normal e' H' a' w' σ' q k1 k2 k3 k4
 |exit i=>
  show if i=id then R .normal a' w' else R (.exit i) a' w'
  by_cases hi:i=id
  ·rw[if_pos hi]
   refine hR .normal e' H' a' w' σ' ?_ k1 k2 k3 k4
   have q':if i=id then Q .normal e' H' else Q (.exit i) e' H':=q
   rwa [if_pos hi] at q'
  ·rw[if_neg hi]
   refine hR (.exit i) e' H' a' w' σ' ?_ k1 k2 k3 k4
   have q':if i=id then Q .normal e' H' else Q (.exit i) e' H':=q
   rwa [if_neg hi] at q'
 |ret=>exact hR .ret e' H' a' w' σ' q k1 k2 k3 k4
theorem GA.reg{l:List AO}(h:gm P l e H (λe' H'=>Q .normal e' H')):GA P n hints (.reg l) e H Q:=λc hc B σ a w R hE hH hp hR=>by
 obtain⟨id,ops,rfl,hl⟩:=bp hc
 refine wp_region_list (lS _ _ hl h hE hH (.refl _ σ) (λe' H' a' w' σ' q k1 k2 k3 k4=>hR .normal e' H' a' w' σ' q k1 k2 k3.bel k4))
theorem GA.mix(hm:P.follows .mixedOrders=true)(m:Nat){l:List (Nat×AO)}(htop:bI H m (H.next-m))(h:eT P {H with low:=2^40} m true l e {H with low:=2^40} (λe' H'=>Q .normal e' {H' with low:=min H.low H'.low})):GA P n hints (.mix l) e H Q:=λc hc B σ a w R hE hH hp hR=>by
 obtain⟨id,ops,fl,pu,pl,rfl,hB,hl⟩:=bp hc
 have hops:ops=ops.toList.toArray:=by simp
 rw[hops]
 rw[hops] at hB
 have hd:HR B σ {H with low:=2^40} w.drew:=⟨hH.new,hH.newl,hH.old,hH.small,hH.hB,hH.nil,hH.nilp,hH.blk,hH.szs,hH.inj,hH.frz,hH.ob.of_eq rfl⟩
 refine fk (bt m σ {H with low:=2^40} w.drew) fl pu (pl.map cg) hm hB (λc a d v w hq=>(hp _ _ _ hq).elim) (bt.refl _ _ _ _) ?_
 rw[<-hops]
 have htop':bI {H with low:=2^40} m (AH.next {H with low:=2^40}-m):=by
  have key:∀(k m:Nat),bI H m k->bI {H with low:=2^40} m k:=by
   intro k
   induction k with
   |zero=>intro m _;trivial
   |succ k ih=>intro m h;exact⟨h.1,ih _ h.2⟩
  exact key _ _ htop
 refine gl hd htop' hp pl l hl h hE hd (Fr.refl hd) (.inl (bt.refl _ _ _ _)) (λ_=>rfl) (.refl _ _) (λe' H' a' w' σ' q q1 q2 q3 q4=>?_)
 exact hR .normal e' _ a' w' σ' q q1 (q2.relow _) ((Below.refl _ _).drew.trans q3.bel) q4
theorem GA.frk(hm:P.follows .mixedOrders=true)(m:Nat){l:List (Nat×AO)}{T:AT}(htop:bI H m (H.next-m))(h:eT P {H with low:=2^40} m true l e {H with low:=2^40} (λe' H'=>ek P m T e' H' (λe' H'=>Q .normal e' {H' with low:=min H.low H'.low}))):GA P n hints (.frk l T) e H Q:=λc hc B σ a w R hE hH hp hR=>by
 obtain⟨id,ops,fl,pu,pl,T0,rfl,hB,hk,hl,hT⟩:=bp hc
 have hops:ops=ops.toList.toArray:=by simp
 rw[hops]
 rw[hops] at hB
 have hd:HR B σ {H with low:=2^40} w.drew:=⟨hH.new,hH.newl,hH.old,hH.small,hH.hB,hH.nil,hH.nilp,hH.blk,hH.szs,hH.inj,hH.frz,hH.ob.of_eq rfl⟩
 have hunk:pl.map cg=pl:=by
  have:∀p ∈ pl,cg p=p:=λp hp=>by
   have:=List.all_eq_true.1 hk p hp
   obtain⟨k,j⟩:=p
   simp only[Bool.or_eq_true,beq_iff_eq] at this
   rcases this with rfl|rfl<;>rfl
  rw[List.map_congr_left this,List.map_id']
 refine gC (bt m σ {H with low:=2^40} w.drew) fl pu pl T0 hm hB (λc a d v w hq=>(hp _ _ _ hq).elim) (bt.refl _ _ _ _) ?_
 rw[<-hops,<-hunk]
 have htop':bI {H with low:=2^40} m (AH.next {H with low:=2^40}-m):=by
  have key:∀(k m:Nat),bI H m k->bI {H with low:=2^40} m k:=by
   intro k
   induction k with
   |zero=>intro m _;trivial
   |succ k ih=>intro m h;exact⟨h.1,ih _ h.2⟩
  exact key _ _ htop
 refine gl (Q:=Exit.then (fm P ops R (bt m σ {H with low:=2^40} w.drew) T0) R) hd htop' (λc a w hq=>hp c a w hq) pl l hl h hE hd (Fr.refl hd) (.inl (bt.refl _ _ _ _)) (λ_=>rfl) (.refl _ _) (λe' H' a' w' σ' q q1 q2 q3 q4=>?_)
 refine kb hd hp T0 T hT q q1 q2 q3 q4 (λe' H' a' w' σ' q q1 q2 q3 q4=>?_)
 exact hR .normal e' _ a' w' σ' q q1 (q2.relow _) ((Below.refl _ _).drew.trans q3.bel) q4
def xO(n:Nat)(I:Nat->Tr AV->AH->Prop)(Q:AE->Tr AV->AH->Prop)(m:Nat):AE->Tr AV->AH->Prop
 |.normal,e,H=>∃m' e2 H2,m'<m/\Wk n e H e2 H2/\I m' e2 H2
 |x,e,H=>Q x e H
theorem GA.loop{x:AC}(I:Nat->Tr AV->AH->Prop){m:Nat}{e0:Tr AV}{H0:AH}(hw:Wk n e H e0 H0)(hi:I m e0 H0)(h:∀m e H,I m e H->GA P n hints x e H (xO n I Q m)):GA P n hints (.loop x) e H Q:=λc hc B σ a w R hE hH hp hR=>by
 obtain⟨b,rfl,h1⟩:=bp hc
 refine wp_loop_rounds (m+1) ?_
 have key:∀(k m:Nat) {e:Tr AV} {H:AH} {e0:Tr AV} {H0:AH} {σ:Sg} {a:Act} {w:World},m<k->Wk n e H e0 H0->I m e0 H0->EN n σ e a->HR B σ H w->
   (∀x e' H' a' w' σ',Q x e' H'->EN n σ' e' a'->HR B σ' H' w'->Below B w w'->gV B σ σ'->R x.to a' w')->Code.rounds P b R k a w:=by
  intro k
  induction k with
  |zero=>intro m e H e0 H0 σ a w hlt;omega
  |succ k ih=>
   intro m e H e0 H0 σ a w hlt hw hi hE hH hR
   rw[rounds_succ]
   obtain⟨σ2,k1,k2,k3⟩:=hw B σ a w hE hH
   refine h m e0 H0 hi b h1 B σ2 a w _ k1 k2 (λc a w hq=>hp c a w hq) (λx' e' H' a' w' σ' q m1 m2 m3 m4=>?_)
   cases x' with
   |normal=>
    obtain⟨m',e2,H2,hlt2,hw2,hi2⟩:=q
    exact ih m' (by omega) hw2 hi2 m1 m2 (λx e' H' a'' w'' σ'' q' p1 p2 p3 p4=>hR x e' H' a'' w'' σ'' q' p1 p2 (m3.trans p3) ((k3.trans m4).trans p4))
   |exit i=>exact hR (.exit i) e' H' a' w' σ' q m1 m2 m3 (k3.trans m4)
   |ret=>exact hR .ret e' H' a' w' σ' q m1 m2 m3 (k3.trans m4)
 exact key (m+1) m (by omega) hw hi hE hH hR
end
abbrev o1(d:Nat)(x:AP):AO:=⟨some d,none,.ap x⟩
abbrev o2(d:Nat)(g:FuncId)(l:List AX):AO:=⟨some d,none,.cl (.c (.f g [] [])) l⟩
abbrev o3(x:AP):AO:=⟨none,none,.ap x⟩
abbrev o4(d g:Nat)(x:AP):AO:=⟨some d,some (g,false),.ap x⟩
abbrev o5(d g:Nat)(x:AP):AO:=⟨some d,some (g,true),.ap x⟩
abbrev mt(d s:Nat):AO:=⟨some d,none,.ap (.mv (.t s))⟩
abbrev ci(n:Int):AX:= .c (.n .i64 n)
end Go.Proofs.YtdpkgnmmikebdaaGreat
namespace Go.Proofs.YtdpkgnmmikebdaaGreat
open Go.RowKit
/-! ### values without names-/
theorem a8.map{σ σ':Sg}{l:List AV}{cs:List Value}(h:a8 σ l cs)(hm:∀v ∈ l,∀u,VR σ v u->VR σ' v u):a8 σ' l cs:=
 ⟨h.1,λi v hv=>hm v (List.mem_of_getElem? hv) _ (h.2 i v hv)⟩
theorem VR.pure{σ:Sg}:∀(k:Nat) {v:AV} {x:Value},v.pu k=true->VR σ v x->VR σ.bare v x
 |k,v,x,hp,h=>by
  cases h with
  |u _=>cases k<;>simp[AV.pu] at hp
  |b x=>exact .b x
  |n k x=>exact .n k x
  |s x=>exact .s x
  |p0=>exact .p0
  |p h=>cases k<;>simp[AV.pu] at hp
  |sl0 a=>exact .sl0 a
  |sl h=>cases k<;>simp[AV.pu] at hp
  |slo h hc h0=>cases k<;>simp[AV.pu] at hp
  |f0=>exact .f0
  |f n1 h1 n2 h2=>
   cases k with
   |zero=>simp[AV.pu] at hp
   |succ k=>
    simp only[AV.pu,Bool.and_eq_true,List.all_eq_true] at hp
    exact .f n1 (λi v hv=>VR.pure k (hp.1 v (List.mem_of_getElem? hv)) (h1 i v hv)) n2 (λi v hv=>VR.pure k (hp.2 v (List.mem_of_getElem? hv)) (h2 i v hv))
  |agg hl hh=>
   cases k with
   |zero=>simp[AV.pu] at hp
   |succ k=>
    simp only[AV.pu,List.all_eq_true] at hp
    exact .agg hl (λi v hv=>VR.pure k (hp v (List.mem_of_getElem? hv)) (hh i v hv))
  |cv _ hv=>exact .cv _ hv
  |tup hl hh=>
   cases k with
   |zero=>simp[AV.pu] at hp
   |succ k=>
    simp only[AV.pu,List.all_eq_true] at hp
    exact .tup hl (λi v hv=>VR.pure k (hp v (List.mem_of_getElem? hv)) (hh i v hv))
  |fs0 esz row a cap=>exact .fs0 esz row a cap
  |fs hz hb h1 h2 cap hcap=>exact .fs (σ:=σ.bare) hz hb h1 h2 cap hcap
  |fp hz hb h1 h2 j=>exact .fp (σ:=σ.bare) hz hb h1 h2 j
  |bx hz hb h1 h2=>exact .bx (σ:=σ.bare) hz hb h1 h2
  |ow h=>exact .ow h
  |fw0 esz row a cap=>exact .fw0 esz row a cap
  |fw hz hb h1 h2 cap=>exact .fw (σ:=σ.bare) hz hb h1 h2 cap
  |mh h=>cases k<;>simp[AV.pu] at hp
  |os0 h a=>cases k<;>simp[AV.pu] at hp
  |os h hl=>cases k<;>simp[AV.pu] at hp
theorem VR.cell{σ:Sg}{v:AV}{u:Value}(hp:v.cell=true)(h:VR σ v u):VR σ.bare v u:=by
 simp only[AV.cell,Bool.and_eq_true] at hp
 exact h.pure 3 hp.1
/-! ### freezing-/
def AH.mark(H:AH)(b:Nat):AH:=match H.at b with
 |some x=>{H with blks:=Tr.set 48 H.blks b {x with fzn:=max x.size x.fzn}}
 |none=>H
def bj(H:AH):List Nat->AH
 |[]=>H
 |b::l=>bj (H.mark b) l
theorem AH.mark_next(H:AH)(b:Nat):(H.mark b).next=H.next:=by unfold AH.mark;split<;>rfl
theorem AH.mark_ob(H:AH)(b:Nat):(H.mark b).ob=H.ob:=by unfold AH.mark;split<;>rfl
theorem AH.mark_mp(H:AH)(b:Nat):(H.mark b).mp=H.mp:=by unfold AH.mark;split<;>rfl
theorem AH.mark_low(H:AH)(b:Nat):(H.mark b).low=H.low:=by unfold AH.mark;split<;>rfl
theorem AH.at_mark{H:AH}{b b':Nat}(hb:b<2^40):(H.mark b).at b'=if b'=b then(H.at b).map (λx=>{x with fzn:=max x.size x.fzn}) else H.at b':=by
 unfold AH.mark
 cases hx:H.at b with
 |none=>
  simp only
  by_cases e:b'=b
  ·subst e;rw[if_pos rfl,hx];rfl
  ·rw[if_neg e]
 |some x=>
  have hl:x.live=true:=by
   unfold AH.at at hx
   split at hx
   ·split at hx
    ·rename_i hl;cases hx;exact hl
    ·cases hx
   ·cases hx
  simp only
  rw[AH.at_put _ _ _ _ _ _ _ _ hb]
  by_cases e:b'=b
  ·rw[if_pos e,if_pos e];simp[hl]
  ·rw[if_neg e,if_neg e]
def pX(σ:Sg)(H:AH)(w:World)(b:Nat):Prop:=∀x c o,H.at b=some x->σ b=some (c,o)->∃cs fs,w.heap[c]? =some (.cells cs x.ty (0,0))/\σ.fz c=some fs/\gS fs cs/\x.size<=fs.size
theorem HR.markE{B:Nat}{σ:Sg}{H:AH}{w:World}(h:HR B σ H w)(b:Nat):
  ∃σ2,(∀c,(∀b o,σ b≠some (c,o))->σ2.fz c=σ.fz c)/\σ.le σ2/\σ2.nm=σ.nm/\σ2.nl=σ.nl/\gV B σ σ2/\(∀c,w.heap.size<=c->σ2.fz c=σ.fz c)/\HR B σ2 (H.mark b) w/\pX σ2 H w b:=by
 cases hx:H.at b with
 |none=>
  have e:H.mark b=H:=by unfold AH.mark;rw[hx]
  rw[e]
  exact⟨σ,λ_ _=>rfl,σ.le_refl,rfl,rfl,.refl _ _,λ_ _=>rfl,h,λx c o hx'=>by rw[hx] at hx';cases hx'⟩
 |some x=>
  have hbn:=AH.at_lt h hx
  have hsm:=h.small
  have hat:∀b' y,(H.mark b).at b'=some y->∃y0,H.at b'=some y0/\y.size=y0.size/\y.esz=y0.esz/\y.ty=y0.ty/\y.opn=y0.opn/\(∀i,y.get i=y0.get i)/\y0.fzn<=y.fzn/\(b'=b->y.fzn=max x.size x.fzn):=by
   intro b' y hy
   rw[AH.at_mark (by omega)] at hy
   by_cases e:b'=b
   ·subst e
    rw[if_pos rfl,hx] at hy
    simp only[Option.map_some,Option.some.injEq] at hy
    subst hy
    exact⟨x,hx,rfl,rfl,rfl,rfl,λ_=>rfl,Nat.le_max_right _ _,λ_=>rfl⟩
   ·rw[if_neg e] at hy
    exact⟨y,hy,rfl,rfl,rfl,rfl,λ_=>rfl,Nat.le_refl _,λe'=>absurd e' e⟩
  have base:∀σ2:Sg,σ.le σ2->σ2.nm=σ.nm->σ2.nl=σ.nl->(∀c fs,σ2.fz c=some fs->∃cs t fr,w.heap[c]? =some (.cells cs t fr)/\gS fs cs/\∀b' y o,(H.mark b).at b'=some y->σ b'=some (c,o)->fs.size<=y.fzn)->HR B σ2 (H.mark b) w:=by
   intro σ2 hle hnm hnl hfz
   refine⟨λb' hb'=>?_,λb' hb'=>?_,λb' hb'=>?_,by rw[AH.mark_next];exact h.small,h.hB,λb' y hy hs=>?_,λb' hb'=>?_,λb' y c o hy hs=>?_,λb' y hy=>?_,λb1 b2 y1 y2 c o1 o2 k1 k2 k3 k4=>?_,λc fs hf=>?_,by rw[AH.mark_ob,AH.mark_mp];exact h.ob.mono hle⟩
   ·rw[AH.mark_next] at hb';rw[hnm];exact h.new b' hb'
   ·rw[AH.mark_next] at hb';rw[hnl];exact h.newl b' hb'
   ·rw[AH.mark_next] at hb'
    cases hy:(H.mark b).at b' with
    |none=>rfl
    |some y=>
     obtain⟨y0,e1,_⟩:=hat b' y hy
     rw[h.old b' hb'] at e1;cases e1
   ·obtain⟨y0,e1,e2,e3,e4,e5,e6,e7,_⟩:=hat b' y hy
    rw[hnm] at hs
    obtain⟨p1,p2,p3⟩:=h.nil b' y0 e1 hs
    exact⟨by rw[e2];exact p1,by rw[e5];exact p2,by rw[hnl];exact p3⟩
   ·rw[hnl] at hb';rw[hnm];exact h.nilp b' hb'
   ·obtain⟨y0,e1,e2,e3,e4,e5,e6,e7,_⟩:=hat b' y hy
    rw[hnm] at hs
    obtain⟨cs,p1,p2,p3⟩:=h.blk b' y0 c o e1 hs
    refine⟨cs,p1,by rw[e4];exact p2,⟨by rw[e2];exact p3.sz,λq=>by rw[e2];exact p3.ex q,λk hk=>by rw[e3];exact p3.op k hk,by rw[e5];exact p3.ob,λi hi=>?_⟩⟩
    rw[e6]
    exact(p3.cell i (by rw[<-e2];exact hi)).mono hle
   ·obtain⟨y0,e1,e2,_⟩:=hat b' y hy
    rw[e2];exact h.szs b' y0 e1
   ·obtain⟨y01,e1,_⟩:=hat b1 y1 k1
    obtain⟨y02,e2,_⟩:=hat b2 y2 k2
    rw[hnm] at k3 k4
    exact h.inj b1 b2 y01 y02 c o1 o2 e1 e2 k3 k4
   ·obtain⟨cs,t,fr,p1,p2,p3⟩:=hfz c fs hf
    exact⟨cs,t,fr,p1,p2,λb' y o hy hs=>p3 b' y o hy (by rw[hnm] at hs;exact hs)⟩
  have keepz:∀c fs,σ.fz c=some fs->∃cs t fr,w.heap[c]? =some (.cells cs t fr)/\gS fs cs/\∀b' y o,(H.mark b).at b'=some y->σ b'=some (c,o)->fs.size<=y.fzn:=λc fs hf=>by
   obtain⟨cs,t,fr,p1,p2,p3⟩:=h.frz c fs hf
   refine⟨cs,t,fr,p1,p2,λb' y o hy hs=>?_⟩
   obtain⟨y0,e1,_,_,_,_,_,e7,_⟩:=hat b' y hy
   have:=p3 b' y0 o e1 hs
   omega
  cases hs:σ b with
  |none=>
   refine⟨σ,λ_ _=>rfl,σ.le_refl,rfl,rfl,.refl _ _,λ_ _=>rfl,base σ σ.le_refl rfl rfl keepz,λx' c o hx' hs'=>by rw[hs] at hs';cases hs'⟩
  |some p=>
   obtain⟨c,o⟩:=p
   obtain⟨cs,p1,p2,p3⟩:=h.blk b x c o hx hs
   have hclt:c<w.heap.size:=(Array.getElem?_eq_some_iff.1 p2).1
   let m:=max x.size x.fzn
   let σ2:Sg:={σ with fz:=λk=>if k=c then some (cs.extract 0 m) else σ.fz k}
   have hpre:gS (cs.extract 0 m) cs:=⟨by rw[Array.size_extract];omega,λi hi=>by
    rw[Array.getElem?_extract]
    simp at hi
    simp
    omega⟩
   have hle:σ.le σ2:=⟨λ_ _ hh=>hh,λ_ hh=>hh,λk fs hf=>by
    by_cases e:k=c
    ·subst e
     obtain⟨cs',t',fr',q1,q2,q3⟩:=h.frz k fs hf
     rw[p2] at q1
     cases q1
     have hfs:=q3 b x o hx hs
     refine⟨cs.extract 0 m,if_pos rfl,?_,λi hi=>?_⟩
     ·have:=q2.1
      simp[m];omega
     ·rw[<-q2.2 i hi,Array.getElem?_extract]
      have:fs.size<=m:=by simp[m];omega
      simp;omega
    ·exact⟨fs,by show(if k=c then _ else σ.fz k)=_;rw[if_neg e];exact hf,gS.refl _⟩⟩
   refine⟨σ2,λk hk=>if_neg (λe=>hk b o (by rw[e];exact hs)),hle,rfl,rfl,⟨λk hk=>if_neg (by omega),hle.fz⟩,λk hk=>if_neg (by omega),base σ2 hle rfl rfl (λk fs hf=>?_),λx' c' o' hx' hs'=>?_⟩
   ·have hf':(if k=c then some (cs.extract 0 m) else σ.fz k)=some fs:=hf
    by_cases e:k=c
    ·subst e
     rw[if_pos rfl] at hf'
     cases hf'
     refine⟨cs,x.ty,(0,0),p2,hpre,λb' y o1 hy hs1=>?_⟩
     obtain⟨y0,e1,_,_,_,_,_,_,e8⟩:=hat b' y hy
     have hb:b'=b:=h.inj b' b y0 x k o1 o e1 hx hs1 hs
     rw[e8 hb]
     simp only[Array.size_extract]
     exact Nat.le_trans (Nat.sub_le _ _) (Nat.min_le_left _ _)
    ·rw[if_neg e] at hf'
     exact keepz k fs hf'
   ·rw[hx] at hx'
    cases hx'
    have hs'':σ b=some (c',o'):=hs'
    rw[hs] at hs''
    cases hs''
    refine⟨cs,cs.extract 0 m,p2,if_pos rfl,hpre,?_⟩
    have:=p3.sz
    simp[m];omega
theorem HR.mark{B:Nat}{σ:Sg}{H:AH}{w:World}(h:HR B σ H w)(b:Nat):
  ∃σ2,σ.le σ2/\σ2.nm=σ.nm/\σ2.nl=σ.nl/\gV B σ σ2/\(∀c,w.heap.size<=c->σ2.fz c=σ.fz c)/\HR B σ2 (H.mark b) w/\pX σ2 H w b:=by
 obtain⟨σ2,_,r⟩:=h.markE b
 exact⟨σ2,r⟩
theorem HR.marksE{B:Nat}{w:World}:∀(M:List Nat) {σ:Sg} {H:AH},HR B σ H w->
  ∃σ2,(∀c,(∀b o,σ b≠some (c,o))->σ2.fz c=σ.fz c)/\σ.le σ2/\σ2.nm=σ.nm/\σ2.nl=σ.nl/\gV B σ σ2/\(∀c,w.heap.size<=c->σ2.fz c=σ.fz c)/\HR B σ2 (bj H M) w/\∀b ∈ M,pX σ2 H w b
 |[],σ,H,h=>⟨σ,λ_ _=>rfl,σ.le_refl,rfl,rfl,.refl _ _,λ_ _=>rfl,h,λb hb=>by cases hb⟩
 |b::M,σ,H,h=>by
  obtain⟨σ1,q0,q1,q2,q3,q4,q4',q5,q6⟩:=h.markE b
  obtain⟨σ2,p0,p1,p2,p3,p4,p4',p5,p6⟩:=HR.marksE M q5
  have hsm:=h.small
  refine⟨σ2,λc hc=>(p0 c (λb o=>by rw[q2];exact hc b o)).trans (q0 c hc),q1.trans p1,p2.trans q2,p3.trans q3,q4.trans p4,λc hc=>(p4' c hc).trans (q4' c hc),p5,λb' hb'=>?_⟩
  have up:pX σ1 H w b'->pX σ2 H w b':=λhh x c o hx hs=>by
   rw[p2] at hs
   obtain⟨cs,fs,e1,e2,e3,e4⟩:=hh x c o hx hs
   obtain⟨fs',e5,e6⟩:=p1.fz c fs e2
   obtain⟨cs',t',fr',m1,m2,_⟩:=p5.frz c fs' e5
   rw[e1] at m1
   cases m1
   exact⟨cs,fs',e1,e5,m2,Nat.le_trans e4 e6.1⟩
  rcases List.mem_cons.1 hb' with rfl|hb'
  ·exact up q6
  ·intro x c o hx hs
   by_cases hbn:b<2^40
   ·have hx1:∃y,(H.mark b).at b'=some y/\y.size=x.size/\y.ty=x.ty:=by
     rw[AH.at_mark hbn]
     by_cases e:b'=b
     ·subst e;rw[if_pos rfl,hx];exact⟨_,rfl,rfl,rfl⟩
     ·rw[if_neg e];exact⟨x,hx,rfl,rfl⟩
    obtain⟨y,hy,e1,e2⟩:=hx1
    have:=p6 b' hb' y c o hy hs
    rw[e1,e2] at this
    exact this
   ·have:H.mark b=H:=by
     unfold AH.mark
     cases hb0:H.at b with
     |none=>rfl
     |some z=>have:=AH.at_lt h hb0;omega
    have h6:=p6 b' hb'
    rw[this] at h6
    exact h6 x c o hx hs
theorem HR.marks{B:Nat}{w:World}(M:List Nat){σ:Sg}{H:AH}(h:HR B σ H w):
  ∃σ2,σ.le σ2/\σ2.nm=σ.nm/\σ2.nl=σ.nl/\gV B σ σ2/\(∀c,w.heap.size<=c->σ2.fz c=σ.fz c)/\HR B σ2 (bj H M) w/\∀b ∈ M,pX σ2 H w b:=by
 obtain⟨σ2,_,r⟩:=h.marksE M
 exact⟨σ2,r⟩
theorem cY:∀(M:List Nat) (H:AH),(bj H M).next=H.next
 |[],_=>rfl
 |b::M,H=>(cY M _).trans (AH.mark_next H b)
theorem mI:∀(M:List Nat) (H:AH),(bj H M).ob=H.ob
 |[],H=>rfl
 |b::l,H=>by rw[bj,mI l,AH.mark_ob]
theorem iX:∀(M:List Nat) (H:AH),(bj H M).low=H.low
 |[],_=>rfl
 |b::M,H=>(iX M _).trans (AH.mark_low H b)
inductive Cv(M:List Nat)(H:AH):AV->AV->Prop where
 |ow {v:AV} (h:v.one=true):Cv M H v .ow
 |rfl {v:AV} (h:v.pu 3=true):Cv M H v v
 |sl0 (esz:Nat) (row:Nat->Nat->AV):Cv M H .sl0 (.fs esz 0 row)
 |sl00 (b o cap esz:Nat) (row:Nat->Nat->AV):Cv M H (.sl b o 0 cap) (.fs esz 0 row)
 |os {b n esz:Nat} {x:AB} {row:Nat->Nat->AV} (hm:b ∈ M) (hx:H.at b=some x) (hn:n*esz<=x.size) (hr:∀i j,i<n->j<esz->x.get (i*esz+j)=row i j) (hc:∀i j,i<n->j<esz->(row i j).cell=true):Cv M H (.os b n) (.fs esz n row)
 |sl {b o n cap esz:Nat} {x:AB} {row:Nat->Nat->AV} (hm:b ∈ M) (hx:H.at b=some x) (hn:o+n*esz<=x.size) (hcap:n<=cap) (h0:0<x.size) (hr:∀i j,i<n->j<esz->x.get (o+i*esz+j)=row i j) (hc:∀i j,i<n->j<esz->(row i j).cell=true):Cv M H (.sl b o n cap) (.fs esz n row)
 |osw {b n esz:Nat} {x:AB} {row:Nat->Nat->AV} (hm:b ∈ M) (hx:H.at b=some x) (hn:n*esz<=x.size) (hr:∀i j,i<n->j<esz->Cv M H (x.get (i*esz+j)) (row i j)) (hc:∀i j,i<n->j<esz->(row i j).cell=true):Cv M H (.os b n) (.fs esz n row)
 |slw {b o n cap esz:Nat} {x:AB} {row:Nat->Nat->AV} (hm:b ∈ M) (hx:H.at b=some x) (hn:o+n*esz<=x.size) (hcap:n<=cap) (hr:∀i j,i<n->j<esz->Cv M H (x.get (o+i*esz+j)) (row i j)) (hc:∀i j,i<n->j<esz->(row i j).cell=true):Cv M H (.sl b o n cap) (.fs esz n row)
 |fs {esz n:Nat} {row row2:Nat->Nat->AV} (hr:∀i j,i<n->j<esz->row i j=row2 i j):Cv M H (.fs esz n row) (.fs esz n row2)
 |bx {b n:Nat} {x:AB} {row:Nat->AV} (hm:b ∈ M) (hx:H.at b=some x) (hn:n<=x.size) (h0:0<x.size) (hr:∀q,q<n->x.get q=row q) (hc:∀q,q<n->(row q).cell=true):Cv M H (.p b 0) (.bx n row)
 |p {b o esz j:Nat} {x:AB} {row:Nat->AV} (hm:b ∈ M) (hx:H.at b=some x) (hn:o+esz<=x.size) (h0:0<x.size) (hr:∀q,q<esz->x.get (o+q)=row q) (hc:∀q,q<esz->(row q).cell=true):Cv M H (.p b (o+j)) (.fp esz row j)
 |f {g:FuncId} {l1 l2 l1' l2':List AV} (n1:l1.length=l1'.length) (n2:l2.length=l2'.length) (h1:∀(i:Nat) (v v':AV),l1[i]? =some v->l1'[i]? =some v'->Cv M H v v') (h2:∀(i:Nat) (v v':AV),l2[i]? =some v->l2'[i]? =some v'->Cv M H v v'):Cv M H (.f g l1 l2) (.f g l1' l2')
 |agg {l l':List AV} (n1:l.length=l'.length) (h1:∀(i:Nat) (v v':AV),l[i]? =some v->l'[i]? =some v'->Cv M H v v'):Cv M H (.agg l) (.agg l')
 |tup {l l':List AV} (n1:l.length=l'.length) (h1:∀(i:Nat) (v v':AV),l[i]? =some v->l'[i]? =some v'->Cv M H v v'):Cv M H (.tup l) (.tup l')
theorem Cv.ok{M:List Nat}{B:Nat}{σ σ2:Sg}{H:AH}{w:World}(h:HR B σ H w)(hle:σ.le σ2)(hnm:σ2.nm=σ.nm)(hM:∀b ∈ M,pX σ2 H w b){v v2:AV}(hc:Cv M H v v2):∀{u:Value},VR σ v u->VR σ2.bare v2 u:=by
 induction hc with
 |ow h1=>intro u hu;exact .ow (AV.one_cell hu h1)
 |rfl hp=>intro u hu;exact(hu.pure 3 hp).mono hle.bare
 |sl0 esz row=>
  intro u hu
  cases hu with
  |sl0 a=>exact .fs0 _ _ _ _
 |sl00 b o cap esz row=>
  intro u hu
  cases hu with
  |sl hh=>exact .fs0 _ _ _ _
  |slo hh hc h0=>exact .fs0 _ _ _ _
 |@os b n esz x row hm hx hn hr hcl=>
  intro u hu
  cases hu with
  |os0 hh a=>exact .fs0 _ _ _ _
  |@os _ _ _ c k hh hl=>
   have hh2:σ2 b=some (c,some k):=by show σ2.nm b=_;rw[hnm];exact hh
   obtain⟨cs,fs,e1,e2,e3,e4⟩:=hM _ hm _ _ _ hx hh2
   obtain⟨cs',p1,p2,p3⟩:=h.blk _ _ _ _ hx hh
   rw[e1] at p2
   cases p2
   refine .fs (σ:=σ2.bare) (off:=0) (c:=c) e2 (by omega) hcl (λi j hi hj=>?_) k hl
   have hlt:=fv hi hj
   rw[Nat.zero_add,<-hr i j hi hj,<-e3.getD (by omega)]
   refine((VR.cell ?_ (p3.cell _ (by omega))).mono hle.bare)
   rw[hr i j hi hj];exact hcl i j hi hj
 |@sl b o n cap esz x row hm hx hn hcap h0 hr hcl=>
  intro u hu
  have key:∀c oc cap',σ b=some (c,oc)->cap<=cap'->VR σ2.bare (.fs esz n row) (.slice (some ⟨c,o,none⟩) n cap'):=by
   intro c oc cap' hh hcc
   have hh2:σ2 b=some (c,oc):=by show σ2.nm b=_;rw[hnm];exact hh
   obtain⟨cs,fs,e1,e2,e3,e4⟩:=hM _ hm _ _ _ hx hh2
   obtain⟨cs',p1,p2,p3⟩:=h.blk _ _ _ _ hx hh
   rw[e1] at p2
   cases p2
   refine .fs (σ:=σ2.bare) (off:=o) (c:=c) e2 (by omega) hcl (λi j hi hj=>?_) _ (by omega)
   have hlt:=fv hi hj
   rw[<-hr i j hi hj,<-e3.getD (by omega)]
   refine((VR.cell ?_ (p3.cell _ (by omega))).mono hle.bare)
   rw[hr i j hi hj];exact hcl i j hi hj
  cases hu with
  |sl hh=>exact key _ _ _ hh (Nat.le_refl _)
  |slo hh hc h0=>exact key _ _ _ hh hc
 |@osw b n esz x row hm hx hn hr hcl ih=>
  intro u hu
  cases hu with
  |os0 hh a=>exact .fs0 _ _ _ _
  |@os _ _ _ c k hh hl=>
   have hh2:σ2 b=some (c,some k):=by show σ2.nm b=_;rw[hnm];exact hh
   obtain⟨cs,fs,e1,e2,e3,e4⟩:=hM _ hm _ _ _ hx hh2
   obtain⟨cs',p1,p2,p3⟩:=h.blk _ _ _ _ hx hh
   rw[e1] at p2
   cases p2
   refine .fs (σ:=σ2.bare) (off:=0) (c:=c) e2 (by omega) hcl (λi j hi hj=>?_) k hl
   have hlt:=fv hi hj
   rw[Nat.zero_add,<-e3.getD (by omega)]
   exact ih i j hi hj (p3.cell _ (by omega))
 |@slw b o n cap esz x row hm hx hn hcap hr hcl ih=>
  intro u hu
  have key:∀c oc cap',σ b=some (c,oc)->cap<=cap'->VR σ2.bare (.fs esz n row) (.slice (some ⟨c,o,none⟩) n cap'):=by
   intro c oc cap' hh hcc
   have hh2:σ2 b=some (c,oc):=by show σ2.nm b=_;rw[hnm];exact hh
   obtain⟨cs,fs,e1,e2,e3,e4⟩:=hM _ hm _ _ _ hx hh2
   obtain⟨cs',p1,p2,p3⟩:=h.blk _ _ _ _ hx hh
   rw[e1] at p2
   cases p2
   refine .fs (σ:=σ2.bare) (off:=o) (c:=c) e2 (by omega) hcl (λi j hi hj=>?_) _ (by omega)
   have hlt:=fv hi hj
   rw[<-e3.getD (by omega)]
   exact ih i j hi hj (p3.cell _ (by omega))
  cases hu with
  |sl hh=>exact key _ _ _ hh (Nat.le_refl _)
  |slo hh hc h0=>exact key _ _ _ hh hc
 |@fs esz n row row2 hr=>
  intro u hu
  cases hu with
  |fs0=>exact .fs0 _ _ _ _
  |fs hz hb h1 h2 cap hcap=>
   obtain⟨fs',e1,e2⟩:=hle.fz _ _ hz
   refine .fs (σ:=σ2.bare) e1 (Nat.le_trans hb e2.1) (λi j hi hj=>by rw[<-hr i j hi hj];exact h1 i j hi hj) (λi j hi hj=>?_) cap hcap
   have hlt:=fv hi hj
   rw[<-hr i j hi hj,e2.getD (by omega)]
   exact(h2 i j hi hj).mono hle.bare
 |@bx b n x row hm hx hn h0 hr hcl=>
  intro u hu
  cases hu with
  |@p _ _ _ c oc hh=>
   have hh2:σ2 b=some (c,oc):=by show σ2.nm b=_;rw[hnm];exact hh
   obtain⟨cs,fs,e1,e2,e3,e4⟩:=hM _ hm _ _ _ hx hh2
   obtain⟨cs',p1,p2,p3⟩:=h.blk _ _ _ _ hx hh
   rw[e1] at p2
   cases p2
   refine .bx (σ:=σ2.bare) (c:=c) e2 (by omega) hcl (λq hq=>?_)
   rw[<-hr q hq,<-e3.getD (by omega)]
   refine((VR.cell ?_ (p3.cell _ (by omega))).mono hle.bare)
   rw[hr q hq];exact hcl q hq
 |@p b o esz j x row hm hx hn h0 hr hcl=>
  intro u hu
  cases hu with
  |@p _ _ _ c oc hh=>
   have hh2:σ2 b=some (c,oc):=by show σ2.nm b=_;rw[hnm];exact hh
   obtain⟨cs,fs,e1,e2,e3,e4⟩:=hM _ hm _ _ _ hx hh2
   obtain⟨cs',p1,p2,p3⟩:=h.blk _ _ _ _ hx hh
   rw[e1] at p2
   cases p2
   refine .fp (σ:=σ2.bare) (off:=o) (c:=c) e2 (by omega) hcl (λq hq=>?_) j
   rw[<-hr q hq,<-e3.getD (by omega)]
   refine((VR.cell ?_ (p3.cell _ (by omega))).mono hle.bare)
   rw[hr q hq];exact hcl q hq
 |@f g l1 l2 l1' l2' n1 n2 h1 h2 i1 i2=>
  intro u hu
  cases hu with
  |f m1 k1 m2 k2=>
   refine .f (by omega) (λi v' hv'=>?_) (by omega) (λi v' hv'=>?_)
   ·have hlt:i<l1.length:=by rw[n1];exact(List.getElem?_eq_some_iff.1 hv').1
    exact i1 i _ v' (List.getElem?_eq_getElem hlt) hv' (k1 i _ (List.getElem?_eq_getElem hlt))
   ·have hlt:i<l2.length:=by rw[n2];exact(List.getElem?_eq_some_iff.1 hv').1
    exact i2 i _ v' (List.getElem?_eq_getElem hlt) hv' (k2 i _ (List.getElem?_eq_getElem hlt))
 |@agg l l' n1 h1 i1=>
  intro u hu
  cases hu with
  |agg m1 k1=>
   refine .agg (by omega) (λi v' hv'=>?_)
   have hlt:i<l.length:=by rw[n1];exact(List.getElem?_eq_some_iff.1 hv').1
   exact i1 i _ v' (List.getElem?_eq_getElem hlt) hv' (k1 i _ (List.getElem?_eq_getElem hlt))
 |@tup l l' n1 h1 i1=>
  intro u hu
  cases hu with
  |tup m1 k1=>
   refine .tup (by omega) (λi v' hv'=>?_)
   have hlt:i<l.length:=by rw[n1];exact(List.getElem?_eq_some_iff.1 hv').1
   exact i1 i _ v' (List.getElem?_eq_getElem hlt) hv' (k1 i _ (List.getElem?_eq_getElem hlt))
end Go.Proofs.YtdpkgnmmikebdaaGreat