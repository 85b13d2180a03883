/- A part of the proof of CostLimits. No condition. -/
import Derived.Defers
import Derived.Lib.LazyBuf
import Derived.Test.YtdpkgnmmikebdaaGreatGi12
set_option linter.unusedSimpArgs false
set_option linter.unusedVariables false
set_option linter.constructorNameAsVariable false
set_option maxRecDepth 100000
set_option maxHeartbeats 4000000
namespace Go.Proofs.YtdpkgnmmikebdaaGreat
open Go.RowKit
structure AF where
 nt:Nat
 code:AC
 res:List AP
def sZ(P:Program):List ResultVar->Option (List AP)
 |[]=>some []
 |.tmp t::l=>(sZ P l).map λr=> .mv (.t t)::r
 |.cell t ty::l=>(P.info? ty).bind λi=>(P.underlying ty).bind λd=>(sZ P l).map λr=> .ld i.size d.isRow (.t t)::r
def fB(P:Program)(hints:gN)(f:FuncId):Option AF:=(P.funcs[f]?).bind λfn=>fn.body.bind λc=>(ji P fn.ntmps hints c).bind λac=>(sZ P fn.results.toList).bind λr=>
 if(fn.name== "runtime.NumGoroutine")=false/\fn.ntmps<2^40 then some ⟨fn.ntmps,ac,r⟩ else none
def lK(e:Tr AV)(H:AH):List AP->Option (List AV)
 |[]=>some []
 |x::l=>match x.run e H with
  |some (v,_)=>(lK e H l).map (v:: ·)
  |none=>none
def gD:List AV->AV
 |[v]=>v
 |l=> .tup l
def AE.ends:AE->Bool
 |.exit _=>false
 |_=>true
class IdleOK (P:Program):Prop where
 fn:∀f n,vW f=some n->∃fn,P.funcs[f]? =some fn/\(fn.name== "runtime.NumGoroutine")=false/\fn.body.isNone=false
 run:∀f n,vW f=some n->∀(args:Array Value) (w:World),args.size=n->CallsD P f args .returning w λe u' w'=>e= .returned (.tuple #[])/\u'= .returning/\w'=w
def BW(P:Program)(fn:Func)(R:Ending->World->Prop):Exit->Act->World->Prop
 |.panic _,_,_=>False
 |e,a,w=>bodyPostD P fn R e a w
theorem lW{P:Program}{f:FuncId}{fn:Func}{c:Code}{args:Array Value}{w:World}{R:Ending->World->Prop}(hf:P.funcs[f]? =some fn)(hb:fn.body=some c)
  (h:c.wp P (BW P fn R) {tmps:=args++Array.replicate (fn.ntmps-args.size) undef,defers:=[]} w):Calls P f args w R:=
 calls_of_wp_defers hf hb (λb k cs=>by
  obtain⟨e,a',w',q,r⟩:=h b k cs;refine⟨e,a',w',?_,r⟩;cases e<;>first|exact q|exact q.elim)
theorem mz{P:Program}[hI:IdleOK P]{fn:Func}{tmps:Array Value}{R:Ending->World->Prop}{w:World}{v:Value}(hr:(results fn tmps).run P w= .ok v w)(hR:R (.returned v) w):
  ∀ds:List Deferred,(∀d ∈ ds,u7 d)->Leaves P fn tmps R ds .returning w
 |[],_=>⟨v,hr,hR⟩
 |⟨tg,as⟩::ds,h=>by
  obtain⟨f,cap,ht,hn⟩:=h _ (aps ..);cases ht;obtain⟨fn',k1,k2,k3⟩:=hI.fn f _ hn;refine leaves_cons ae (by simp only[invoke];exact mU k1 k2 k3 _ _) ((hI.run f _ hn _ w rfl).mono (λe u' w' hp=>?_))
  obtain⟨rfl,rfl,rfl⟩:=hp;exact mz hr hR ds (λd hd=>h d (apx _ hd))
section
variable {P:Program} {B n:Nat} {σ:Sg} {e:Tr AV} {a:Act} {H:AH} {w:World}
def lN(a:Act):ResultVar->Sem Value
 |.tmp t=>pure (a.tmps.getD t undef)
 |.cell ad t=>do loadVar t (<-asAddr (a.tmps.getD ad undef))
theorem ra(hE:ER σ e a)(h:HR B σ H w):∀(l:List ResultVar) (l':List AP) (vs:List AV),sZ P l=some l'->lK e H l'=some vs->
  ∃us:List Value,(l.mapM (lN a)).run P w= .ok us w/\gn σ vs us
 |[],l',vs,hl,hr=>by
  simp only[sZ,apn] at hl;subst hl;simp only[lK,apn] at hr;subst hr;exact⟨[],rfl,gn.nil⟩
 |.tmp t::l,l',vs,hl,hr=>by
  simp only[sZ] at hl;obtain⟨r,h1,rfl⟩:=apc.1 hl;simp only[lK,AP.run,fW,aqn] at hr;split at hr;rotate_left
  ·cases hr
  rename_i v H1 hv;obtain⟨vs',h2,rfl⟩:=apc.1 hr;obtain⟨v',h3,h4⟩:=apc.1 hv;cases h4;obtain⟨us,g1,g2⟩:=ra hE h l r vs' h1 h2;refine⟨a.tmps.getD t undef::us,?_,g2.cons (hE.get t v h3)⟩;rw[List.mapM_cons];simp only[lN,Sem.run_bind,Sem.run_pure,Result.andThen_ok,g1]
 |.cell t ty::l,l',vs,hl,hr=>by
  simp only[sZ] at hl;obtain⟨i,hi,hl⟩:=bM.1 hl;obtain⟨d,hd,hl⟩:=bM.1 hl;obtain⟨r,h1,rfl⟩:=apc.1 hl;simp only[lK] at hr;split at hr;rotate_left
  ·cases hr
  rename_i v H1 hv;obtain⟨vs',h2,rfl⟩:=apc.1 hr;obtain⟨us,g1,g2⟩:=ra hE h l r vs' h1 h2;let o:Oper:={(default:Oper) with op:= .load ty (.tmp t)};obtain⟨_,n1,row1,x1,c,u,heq,q34,q5,q6⟩:=MS (o:=o) (x:= .tmp t) rfl rfl hi hd hE h hv;obtain⟨cc,off,hev⟩:∃cc off,a.tmps.getD t undef= .pointer (some ⟨cc,off,none⟩):=by
   cases heq;rcases q34 with⟨b',off',oc,q3,q4⟩|⟨_,_,_,_,q3,_⟩
   ·exact aqI
   ·exact aqI
  have hx:=q6 w (λ_=>rfl);have hx2:((loadVar ty ⟨cc,off,none⟩).run P w).andThen (λv w=> .ok (.value v) w)=(.ok (.value u) w:Result Next):=by
   have e1:a.eval (.tmp t)= .pointer (some ⟨cc,off,none⟩):=hev;unfold execOp at hx;simp only[o,e1,Instr.loadAt,Instr.sureAddr,Sem.run_bind,Sem.run_pure,Result.andThen_ok] at hx;exact hx
  have hload:(loadVar ty ⟨cc,off,none⟩).run P w= .ok u w:=by
   generalize (loadVar ty ⟨cc,off,none⟩).run P w=r at hx2;cases r<;>simp[Result.andThen] at hx2;obtain⟨rfl,rfl⟩:=hx2;rfl
  refine⟨u::us,?_,g2.cons q5⟩;rw[List.mapM_cons];simp only[lN,hev,asAddr,Sem.run_bind,Sem.run_pure,Result.andThen_ok,hload,g1]
theorem sw{args:List AV}{args':Array Value}{nt:Nat}(h:gn σ args args'.toList)(hn:args.length<=nt)(hs:nt<2^40):
  EN nt σ (oh args) {tmps:=args'++Array.replicate (nt-args'.size) undef,defers:=[]}:=by
 have hl:args.length=args'.size:=by have:=h.1;rwa [apX] at this
 refine⟨⟨λd hd=>by simp at hd,λt v hv=>?_⟩,by simp;omega,hs⟩
 rw[mT args t aa] at hv;have hlt:t<args.length:=by
  by_cases hh:t<args.length
  ·exact hh
  ·rw[apI aa] at hv;cases hv
 have:=h.2 t v hv;rw[apd,apC] at this;rw[apA,Array.getElem?_append_left aa];exact this
theorem HR.emptyAt{φ:Fz}{B:Nat}(w:World)(hB:B<=w.heap.size)(hφ:∀c fs,φ c=some fs->∃cs t fr,w.heap[c]? =some (.cells cs t fr)/\oq fs cs):HR B ⟨λ_=>none,λ_=>False,φ⟩ ⟨.nil,0,2^40,λ_=>none,[]⟩ w:=
 ⟨λ_ _=>rfl,λ_ _ h=>h,λb _=>by simp[AH.at,Tr.get_nil],ae,hB,λb x hx=>by simp[AH.at,Tr.get_nil] at hx,λ_ h=>h.elim,λb x c o hx=>by simp[AH.at,Tr.get_nil] at hx,λb x hx=>by simp[AH.at,Tr.get_nil] at hx,
  λb b' x x' c o o' hx=>by simp[AH.at,Tr.get_nil] at hx,λc fs hc=>by
   obtain⟨cs,t,fr,h1,h2⟩:=hφ c fs hc;exact⟨cs,t,fr,h1,h2,λb x o hx=>by simp[AH.at,Tr.get_nil] at hx⟩,.none λr x hr=>by cases hr⟩
theorem HR.empty{φ:Fz}(w:World)(hφ:∀c fs,φ c=some fs->∃cs t fr,w.heap[c]? =some (.cells cs t fr)/\oq fs cs):HR w.heap.size ⟨λ_=>none,λ_=>False,φ⟩ ⟨.nil,0,2^40,λ_=>none,[]⟩ w:=HR.emptyAt w (bL _) hφ
end
end Go.Proofs.YtdpkgnmmikebdaaGreat
namespace Go.Proofs.YtdpkgnmmikebdaaGreat
open Go.RowKit Go.MapKept
section
variable {v:AV}{Q':AV->AH->Prop}{next:Act->World->Prop}{es:Array MapEntry}{seen:Array Nat}{y:Dn}{k:Int}{m:MO}{c last r since:Nat}{ob:Nat->Option OB}{t:TypeId}{u:Value}{x:nG}
def uC(ob:Nat->Option OB)(r:Nat)(x:OB):Nat->Option OB:=λr'=>if r'=r then some x else ob r'
def AH.setOb(H:AH)(r:Nat)(x:OB):AH:={H with ob:=uC H.ob r x}
def Mh(ob:Nat->Option OB):Nat->Option OB:=λr=>(ob r).map OB.clr
def AH.clr(H:AH):AH:={H with ob:=Mh H.ob}
def nG.put(x:nG)(k:Int)(v:AV):nG:={x with get:=λq=>if q=k then some v else x.get q,cnt:=if(x.get k).isSome=true then x.cnt else x.cnt+1}
def uc(ok:Bool)(v:AV)(b:Bool):AV:=if ok=true then .tup [v,.b b] else v
def nG.look(x:nG)(ok:Bool)(z:AV)(k:Int):AV:=match x.get k with
 |some v=>uc ok v true
 |none=>uc ok z false
/-! what must hold for an operation on a map-/
def mmP(H:AH)(Q:AV->AH->Prop):Prop:=∀r,H.ob r=none->Q (.cv (.map (some r))) (H.setOb r (.mp ⟨true,λ_=>none,0,none⟩))
def AZ(H:AH)(Q:AV->AH->Prop)(z:AV)(ok:Bool)(i:Int):Option OB->Prop
 |some (.mp m)=>Q (m.look ok z i) H
 |_=>False
def yO(H:AH)(Q:AV->AH->Prop)(z:AV)(ok:Bool):Option AV->Option AV->Prop
 |some (.cv (.map none)),some (.n .i64 _)=>Q (uc ok z false) H
 |some (.cv (.map (some r))),some (.n .i64 i)=>AZ H Q z ok i (H.ob r)
 |_,_=>False
def AN(H:AH)(Q:AV->AH->Prop)(r:Nat)(i:Int)(v:AV):Option OB->Prop
 |some (.mp x)=>x.own=true/\v.flat=true/\Q .u (H.clr.setOb r (.mp (x.put i v)))
 |_=>False
def Dj(H:AH)(Q:AV->AH->Prop):Option AV->Option AV->Option AV->Prop
 |some (.cv (.map (some r))),some (.n .i64 i),some v=>AN H Q r i v (H.ob r)
 |_,_,_=>False
def nG.ask(x:nG)(z:AV)(i s:Int):nG:={x.put i ((x.get i).getD z) with stp:=some (s,i)}
def Ce(H:AH)(Q:AV->AH->Prop)(z:AV)(r:Nat)(i:Int):Option OB->Prop
 |some (.mp x)=>x.own=true/\∀s:Int,Q (.tup [(x.get i).getD z,.n .i64 s]) (H.clr.setOb r (.mp (x.ask z i s)))
 |_=>False
def Dk(H:AH)(Q:AV->AH->Prop)(z:AV):Option AV->Option AV->Prop
 |some (.cv (.map (some r))),some (.n .i64 i)=>Ce H Q z r i (H.ob r)
 |_,_=>False
def CT(H:AH)(Q:AV->AH->Prop)(r:Nat)(s:Int)(v:AV):Option OB->Prop
 |some (.mp x)=>x.own=true/\v.flat=true/\∃k,x.stp=some (s,k)/\Q .u (H.clr.setOb r (.mp (x.put k v)))
 |_=>False
def Dl(H:AH)(Q:AV->AH->Prop):Option AV->Option AV->Option AV->Prop
 |some (.cv (.map (some r))),some (.n .i64 s),some v=>CT H Q r s v (H.ob r)
 |_,_,_=>False
def BP(H:AH)(Q:AV->AH->Prop)(r:Nat):Option OB->Prop
 |some (.mp m)=>∀t,H.ob t=none->Q (.cv (.pointer (some ⟨t,0,none⟩))) (H.setOb t (.it ⟨r,λk=>(m.get k).isSome,λ_=>false,none⟩))
 |_=>False
def BO(H:AH)(Q:AV->AH->Prop):Option AV->Prop
 |some (.cv (.map none))=>∀t,H.ob t=none->Q (.cv (.pointer (some ⟨t,0,none⟩))) (H.setOb t (.fix (.mapIter none 0 #[] 0)))
 |some (.cv (.map (some r)))=>BP H Q r (H.ob r)
 |_=>False
def Dn.at(y:Dn)(k:Int)(v:AV):Dn:={y with seen:=λq=>decide (q=k)||y.seen q,cur:=some (k,v)}
def B9(H:AH)(Q:AV->AH->Prop)(t:Nat)(y:Dn):Option OB->Prop
 |some (.mp m)=>(∀k v,m.get k=some v->y.old k=true)/\(∀k v,m.get k=some v->y.seen k=false->Q (.tup [.b true,.n .i64 k,v]) (H.setOb t (.it (y.at k v))))/\
   ((∀k,y.old k=true->y.seen k=true)->Q (.tup [.b false]) H)
 |_=>False
def zp(H:AH)(Q:AV->AH->Prop)(t:Nat):Option OB->Prop
 |some (.it y)=>B9 H Q t y (H.ob y.m)
 |some (.fix (.mapIter none _ _ _))=>Q (.tup [.b false]) H
 |_=>False
def Di(H:AH)(Q:AV->AH->Prop):Option AV->Prop
 |some (.cv (.pointer (some ⟨t,0,none⟩)))=>zp H Q t (H.ob t)
 |_=>False
def Bm(H:AH)(Q:AV->AH->Prop):Option (Int×AV)->Prop
 |some (k,v)=>Q (.tup [.n .i64 k,v]) H
 |none=>False
def Bl(H:AH)(Q:AV->AH->Prop):Option OB->Prop
 |some (.it y)=>Bm H Q y.cur
 |_=>False
def Dm(H:AH)(Q:AV->AH->Prop):Option AV->Prop
 |some (.cv (.pointer (some ⟨t,0,none⟩)))=>Bl H Q (H.ob t)
 |_=>False
def AY(H:AH)(Q:AV->AH->Prop):Option OB->Prop
 |some (.mp m)=>Q (.n .i64 m.cnt) H
 |_=>False
def Cp(H:AH)(Q:AV->AH->Prop):Option AV->Prop
 |some (.cv (.map none))=>Q (.n .i64 0) H
 |some (.cv (.map (some r)))=>AY H Q (H.ob r)
 |_=>False
def AQ(H:AH)(Q:AV->AH->Prop)(neg:Bool):Option AV->Prop
 |some (.cv (.map none))=>Q (.b (!neg)) H
 |some (.cv (.map (some _)))=>Q (.b neg) H
 |_=>False
def iK(H:AH)(Q:AV->AH->Prop):Option AV->Option AV->Prop
 |some (.n .i64 i),some (.n .i64 j)=>Q (.n .i64 (if i<j then j else i)) H
 |some (.n .u32 i),some (.n .u32 j)=>Q (.n .u32 (if i<j then j else i)) H
 |_,_=>False
def iW(H:AH)(Q:AV->AH->Prop):Option AV->Option AV->Prop
 |some (.n .i64 i),some (.n .i64 j)=>Q (.n .i64 (if j<i then j else i)) H
 |some (.n .u32 i),some (.n .u32 j)=>Q (.n .u32 (if j<i then j else i)) H
 |_,_=>False
def cpP(Q:AV->AH->Prop):Option (AV×AH)->Prop
 |some (v,H')=>Q v H'
 |none=>False
def cuP(H:AH)(Q:AV->AH->Prop)(esz:Nat):Option AV->Option AV->Option AV->Prop
 |some v,some (.n _ i),some (.n _ j)=>cpP Q (cuD H esz i j v)
 |_,_,_=>False
def gV(e:Tr AV)(H:AH)(Q:AV->AH->Prop):MO->Prop
 |.mm=>mmP H Q
 |.lk z ok x k=>yO H Q z ok (x.ev e) (k.ev e)
 |.mu m k v=>Dj H Q (m.ev e) (k.ev e) (v.ev e)
 |.me z m k=>Dk H Q z (m.ev e) (k.ev e)
 |.es m s v=>Dl H Q (m.ev e) (s.ev e) (v.ev e)
 |.rg x=>BO H Q (x.ev e)
 |.nx x=>Di H Q (x.ev e)
 |.en x=>Dm H Q (x.ev e)
 |.ln x=>Cp H Q (x.ev e)
 |.mn neg x=>AQ H Q neg (x.ev e)
 |.mx x y=>iK H Q (x.ev e) (y.ev e)
 |.mi x y=>iW H Q (x.ev e) (y.ev e)
 |.lz z ok x k=>yO H Q z ok (x.ev e) (k.ev e)
 |.cp esz x y=>cpP Q (C1 H esz ((x.ev e).bind vj) ((y.ev e).bind vj))
 |.cu esz x hi mx=>cuP H Q esz (x.ev e) (hi.ev e) (mx.ev e)
theorem VR.flat0{σ σ':Sg}(h:v.flat0=true)(hu:VR σ v u):VR σ' v u:=by
 cases hu with
 |@f _ g l1 l2 c1 c2 n1 h1 n2 h2=>
  cases l1 with
  |cons a l=>cases h
  |nil=>
   cases l2 with
   |cons a l=>cases h
   |nil=>exact .f n1 (λi v hv=>by simp at hv) n2 (λi v hv=>by simp at hv)
 |_=>first|(cases h;done)|(constructor;done)|(constructor;assumption)
theorem VR.flat{σ σ':Sg}(h:v.flat=true)(hu:VR σ v u):VR σ' v u:=by
 cases v with
 |agg l=>
  cases hu with
  |agg hl hh=>exact .agg hl λi v hv=>VR.flat0 (apr.1 h v (apB hv)) (hh i v hv)
 |_=>exact VR.flat0 h hu
section
variable {P:Program} {B:Nat} {σ:Sg} {e:Tr AV} {a:Act} {H:AH} {w:World} {o:Oper} {Q:Exit->Act->World->Prop}
theorem HR.make(h:HR B σ H w){o:Obj}(hob:OR B ob (w.alloc o))(hsub:∀c,c<w.heap.size->te H.ob c->te ob c):HR B σ {H with ob:=ob} (w.alloc o)/\Fr B σ σ H {H with ob:=ob} w (w.alloc o):=by
 obtain⟨h1,h2⟩:=h.junk o;exact⟨⟨h1.new,h1.newl,h1.old,h1.small,h1.hB,h1.nil,h1.nilp,h1.blk,h1.szs,h1.inj,h1.frz,⟨hob,λb d hb=>by
  obtain⟨c,es,clock,k1,k2,k3,k4,k5⟩:=h.ob.m b d hb;have hlt:=(apo.1 k3).1;exact⟨c,es,clock,k1,k2,by rw[Below.heap_alloc _ _ _ hlt];exact k3,hsub c hlt k4,k5⟩,h.ob.i⟩⟩,⟨h2.dom,h2.ext,h2.nxt,h2.low,h2.bel,h2.old,h2.new⟩⟩
theorem OR.more(h:OR B ob w){x:OB}(hx:MY B w r x):OR B (λr'=>if r'=r then some x else ob r') w:=λr' y hy=>by
 have hy:(if r'=r then some x else ob r')=some y:=hy
 by_cases e:r'=r
 ·subst e;rw[if_pos rfl] at hy;cases hy;exact hx
 ·rw[if_neg e] at hy;exact h r' y hy
theorem anA(ho:o.op= .makeMap t none)(h:HR B σ H w)(hr:gV e H Q' .mm)
  (hn:∀v H' u w',Q' v H'->VR σ v u->HR B σ H' w'->Fr B σ σ H H' w w'->next (a.put o.dst u) w'):o.wp P a w next Q:=by
 have hq:=hr w.heap.size h.ob.o.free;obtain⟨h1,h2⟩:=h.make (o:= .map #[] 0) (ob:=λr'=>if r'=w.heap.size then some (.mp ⟨true,λ_=>none,0,none⟩) else H.ob r') ((h.ob.o.alloc _).more ⟨λ_=>h.hB,#[],0,heap_alloc_new w _,⟨rfl,ae,(λk v hk=>by cases hk),ae,(λs k hs=>by cases hs)⟩⟩) (λc hc hn=>hn.more (Nat.ne_of_lt hc) λy e=>by cases e)
 unfold Oper.wp execOp;rw[ho];simp only[Option.map_none,run_makeMap,Sem.run_bind,Result.andThen_ok,Sem.run_pure,Oper.upon];exact hn _ _ _ _ hq (.cv _ rfl) h1 h2
/-! ### the entries-/
theorem yG.int(h:yG x es c):∀e ∈ es.toList,∃n,e.key= .int .i64 n:=λe he=>by
 obtain⟨k,v,h1,_⟩:=h.ent e he;exact⟨k,h1⟩
theorem yG.miss(h:yG x es c)(hk:∀e ∈ es.toList,e.key≠ .int .i64 k):x.get k=none:=by
 cases hx:x.get k with
 |none=>rfl
 |some v=>
  obtain⟨e,h1,h2⟩:=h.dom k v hx;exact absurd h2 (hk e h1)
theorem yG.hit(h:yG x es c){e:MapEntry}(he:e ∈ es.toList)(hk:e.key= .int .i64 k):∃v,x.get k=some v/\v.flat=true/\VR .zero v e.val:=by
 obtain⟨k',v,h1,h2,h3,h4,_⟩:=h.ent e he;rw[hk] at h1;cases h1;exact⟨v,h2,h3,h4⟩
/-! ### an entry more,an entry written to-/
theorem yG.push(h:yG x es c)(hk:∀e ∈ es.toList,e.key≠ .int .i64 k)(hf:v.flat=true)(hu:VR .zero v u):yG (x.put k v) (es.push (xF k u c)) (c+1):=by
 have hn:=h.miss hk;have hput:∀q,(x.put k v).get q=if q=k then some v else x.get q:=λq=>rfl
 refine⟨?_,λe he=>?_,λq y hq=>?_,?_,λs q hs=>?_⟩
 ·show(es.push _).size=if(x.get k).isSome=true then x.cnt else x.cnt+1
  rw[hn,if_neg ae,Array.size_push,h.cnt]
 ·rw[apR] at he;rcases apS.1 he with he|he
  ·obtain⟨q,y,h1,h2,h3,h4,h5⟩:=h.ent e he;refine⟨q,y,h1,?_,h3,h4,aa⟩;rw[hput,if_neg (λe'=>hk e he (by rw[h1,e']))];exact h2
  ·rw[apy.1 he];exact⟨k,v,rfl,by rw[hput,if_pos rfl],hf,hu,apG c⟩
 ·rw[hput] at hq;rw[apR];by_cases e:q=k
  ·exact aqD
  ·exact aqE
 ·rw[apR,List.pairwise_append];refine⟨h.one,List.pairwise_singleton _ _,λa ha b hb=>?_⟩;rw[apy.1 hb];obtain⟨_,_,_,_,_,_,h5⟩:=h.ent a ha;exact⟨hk a ha,h5⟩
 ·obtain⟨e0,h1,h2,h3⟩:=h.stp s q hs;exact⟨e0,by rw[apR];exact List.mem_append_left _ h1,h2,h3⟩
theorem yG.modify(h:yG x es c){i:Nat}{e0:MapEntry}(h0:es[i]? =some e0)(hk:e0.key= .int .i64 k)(hf:v.flat=true)(hu:VR .zero v u):yG (x.put k v) (es.modify i (qX k u)) c:=by
 have hm:=pc (u:=u) h0 hk;have he0:e0 ∈ es.toList:=apB (by rw[apC];exact h0)
 obtain⟨v0,g1,_,_⟩:=h.hit he0 hk;have hput:∀q,(x.put k v).get q=if q=k then some v else x.get q:=λq=>rfl
 refine⟨?_,λe he=>?_,λq y hq=>?_,?_,λs q hs=>?_⟩
 ·show(es.modify _ _).size=if(x.get k).isSome=true then x.cnt else x.cnt+1
  rw[g1,Array.size_modify,h.cnt];rfl
 ·rcases Eu he with⟨e1,q1,rfl⟩|⟨j,hj,q1⟩
  ·rw[h0] at q1;cases q1;obtain⟨_,_,_,_,_,_,h5⟩:=h.ent e0 he0;exact⟨k,v,rfl,by rw[hput,if_pos rfl],hf,hu,h5⟩
  ·have he':e ∈ es.toList:=apB (by rw[apC];exact q1)
   obtain⟨q,y,h1,h2,h3,h4,h5⟩:=h.ent e he';refine⟨q,y,h1,?_,h3,h4,h5⟩;rw[hput,if_neg (λe'=>(qs h.one q1 h0 hj).1 (by rw[h1,hk,e']))];exact h2
 ·rw[hput] at hq;by_cases e:q=k
  ·exact dP
  ·exact dQ
 ·exact aqH
 ·obtain⟨e1,h1,h2,h3⟩:=h.stp s q hs;obtain⟨e',a1,a2,a3⟩:=kJ hm h1;exact⟨e',a1,by rw[a3];exact h2,by rw[a2];exact h3⟩
theorem De.push(h:De y es c since seen last)(hk:∀e ∈ es.toList,e.key≠ .int .i64 k)(u:Value):De {y with cur:=none} (es.push (xF k u c)) (c+1) since seen last:=by
 refine⟨λe he q hq=>?_,λe he q hq=>?_,λq hq=>?_,λq hq=>?_,λb hb=>Nat.lt_succ_of_lt (h.bnd b hb),h.sl,Nat.le_succ_of_le h.lst,λq v hq=>by cases hq⟩
 ·rw[apR] at he;rcases apS.1 he with he|he
  ·exact h.sn e he q hq
  ·rw[apy.1 he] at hq ⊢;cases hq;constructor
   ·intro hs;obtain⟨e1,h1,h2⟩:=h.in2 k hs;exact absurd h2 (hk e1 h1)
   ·intro hs;have:=h.bnd _ hs;exact absurd this (apJ _)
 ·rw[apR] at he;rcases apS.1 he with he|he
  ·exact h.od e he q hq
  ·rw[apy.1 he] at hq ⊢;cases hq;constructor
   ·intro hs;obtain⟨e1,h1,h2⟩:=h.in1 k hs;exact absurd h2 (hk e1 h1)
   ·intro hs;have h1:=h.sl;have h2:=h.lst;have:c<since:=hs;omega
 ·obtain⟨e1,h1,h2⟩:=h.in1 q hq;exact⟨e1,by rw[apR];exact List.mem_append_left _ h1,h2⟩
 ·obtain⟨e1,h1,h2⟩:=h.in2 q hq;exact⟨e1,by rw[apR];exact List.mem_append_left _ h1,h2⟩
theorem De.same{es':Array MapEntry}(h:De y es c since seen last)(hm:es'.toList.map (λe=>(e.key,e.born))=es.toList.map (λe=>(e.key,e.born))):De {y with cur:=none} es' c since seen last:=by
 refine⟨λe he q hq=>?_,λe he q hq=>?_,λq hq=>?_,λq hq=>?_,h.bnd,h.sl,h.lst,λq v hq=>by cases hq⟩
 ·obtain⟨e1,h1,h2,h3⟩:=kJ hm.symm he;rw[<-h3];exact h.sn e1 h1 q (by rw[h2,hq])
 ·obtain⟨e1,h1,h2,h3⟩:=kJ hm.symm he;rw[<-h3];exact h.od e1 h1 q (by rw[h2,hq])
 ·obtain⟨e1,h1,h2⟩:=h.in1 q hq;obtain⟨e',a1,a2,_⟩:=kJ hm h1;exact⟨e',a1,by rw[a2,h2]⟩
 ·obtain⟨e1,h1,h2⟩:=h.in2 q hq;obtain⟨e',a1,a2,_⟩:=kJ hm h1;exact⟨e',a1,by rw[a2,h2]⟩
theorem De.nocur(h:De y es c since seen last):De {y with cur:=none} es c since seen last:=h.same rfl
theorem OR.turnMap(h:OR B ob w){es':Array MapEntry}{c':Nat}{x':nG}(hr:w.heap[r]? =some (.map es c))(hB:x'.own=true->B<=r)(hm:yG x' es' c')
  (hI:∀(y:Dn) since seen last,De y es c since seen last->De {y with cur:=none} es' c' since seen last):
  OR B (λr'=>if r'=r then some (.mp x') else(ob r').map OB.clr) {w with heap:=w.heap.setIfInBounds r (.map es' c')}:=λr' y hy=>by
 have hy:(if r'=r then some (OB.mp x') else(ob r').map OB.clr)=some y:=hy
 have hlt:=(apo.1 hr).1;have hself:(w.heap.setIfInBounds r (.map es' c'))[r]? =some (.map es' c'):=by rw[Array.getElem?_setIfInBounds_self_of_lt hlt]
 by_cases e:r'=r
 ·subst e;rw[if_pos rfl] at hy;cases hy;exact⟨hB,es',c',hself,hm⟩
 ·rw[if_neg e] at hy;obtain⟨z,hz,rfl⟩:=apc.1 hy;have hne:(w.heap.setIfInBounds r (.map es' c'))[r']? =w.heap[r']? :=aqd (Ne.symm e);have h1:=h r' z hz;cases z with
  |mp x=>
   obtain⟨q,es1,c1,h2,h3⟩:=h1;exact⟨q,es1,c1,hne.trans h2,h3⟩
  |it y=>
   obtain⟨q,since,seen,last,es1,c1,h2,h3,h4,h5⟩:=h1;by_cases em:y.m=r
   ·rw[em,hr] at h3;cases h3;exact⟨q,since,seen,last,es',c',hne.trans h2,by show(w.heap.setIfInBounds r _)[y.m]? =_;rw[em];exact hself,hI y _ _ _ h4,x',hm⟩
   ·exact⟨q,since,seen,last,es1,c1,hne.trans h2,(aqd (Ne.symm em)).trans h3,h4.nocur,h5⟩
  |fix o=>exact⟨h1.1,hne.trans h1.2.1,h1.2.2⟩
section
variable {T K E:TypeId} (hT:P.underlying T=some (.map K E)) (hK:P.underlying K=some (.int .i64))
include hT hK
theorem Lb(hr:w.heap[r]? =some (.map es c))(hi:∀e ∈ es.toList,∃n,e.key= .int .i64 n)(k:Int){z:Value}(hz:(zeroValue E).run P w= .ok z w):
  ((Instr.mapEntry T (.map (some r)) (.int .i64 k)).run P w= .ok (.tuple #[z,.int .i64 c]) {w with heap:=w.heap.setIfInBounds r (.map (es.push (xF k z c)) (c+1))}/\∀e ∈ es.toList,e.key≠ .int .i64 k)\/
  ∃i e,es[i]? =some e/\e.key= .int .i64 k/\(Instr.mapEntry T (.map (some r)) (.int .i64 k)).run P w= .ok (.tuple #[e.val,.int .i64 e.born]) {w with heap:=w.heap.setIfInBounds r (.map (es.modify i (qX k e.val)) c)}:=by
 have hc:MapKept.IsKey (.int .i64) (.int .i64 k):=by simp[MapKept.IsKey]
 rcases nU k es.toList 0 hi with⟨h1,h2⟩|⟨i,e,h1,h2,h3⟩
 ·refine .inl ⟨?_,h2⟩;simp[Instr.mapEntry,run_underlying hT,MapKept.run_getObj_map hr,MapKept.run_checkKey hK hc,MapKept.run_findKey hK h1,MapKept.run_setObj_map _ hr,Result.andThen,xF,hz,goInt]
 ·rw[apz] at h1;rw[apC] at h2;refine .inr ⟨i,e,h2,h3,?_⟩;have hmod:(es.modify i λe=>{e with key:= .int .i64 k})=es.modify i (qX k e.val):=by
   apply Array.ext_getElem?;intro j;simp only[apN];by_cases q:i=j
   ·subst q;rw[if_pos rfl,if_pos rfl,h2];simp[qX]
   ·rw[if_neg q,if_neg q]
  simp[Instr.mapEntry,run_underlying hT,MapKept.run_getObj_map hr,MapKept.run_checkKey hK hc,MapKept.run_findKey hK h1,MapKept.run_setObj_map _ hr,Result.andThen,h2,h3,MapKept.run_keyThatStays hc,goInt,hmod]
end
theorem DN{T:TypeId}(hr:w.heap[r]? =some (.map es c))(ho:es.toList.Pairwise λa b=>a.key≠b.key/\a.born<b.born){e0:MapEntry}(he:e0 ∈ es.toList)(hk:e0.key= .int .i64 k)(u:Value):
  ∃i,es[i]? =some e0/\(Instr.entryStore T (.map (some r)) (.int .i64 e0.born) u).run P w= .ok () {w with heap:=w.heap.setIfInBounds r (.map (es.modify i (qX k u)) c)}:=by
 obtain⟨i,hi⟩:=aqk.1 he;rw[apC] at hi;refine⟨i,hi,?_⟩;obtain⟨hlt,hge⟩:=apo.1 hi;have hf:es.findIdx? (λe=>(e.born:Int)==(e0.born:Int))=some i:=by
  rw[Array.findIdx?_eq_some_iff_getElem];refine⟨hlt,by simp[hge],λj hj=>?_⟩
  have hj':j<es.size:=Nat.lt_trans hj hlt;have:=(qs ho (a:=j) (b:=i) (x:=es[j]) (y:=e0) (ap7 hj') hi aa).2;simp;omega
 have hmod:(es.modify i λe=>{e with val:=u})=es.modify i (qX k u):=by
  apply Array.ext_getElem?;intro j;simp only[apN];by_cases q:i=j
  ·subst q;rw[if_pos rfl,if_pos rfl,hi];simp[qX,hk]
  ·rw[if_neg q,if_neg q]
 simp[Instr.entryStore,MapKept.run_getObj_map hr,asInt,asIntOf,Result.andThen,hf,MapKept.run_setObj_map _ hr,hmod]
theorem po{k el:TypeId}(h:P.underlying t=some (.map k el))(d:Nat)(w:World)(r:Option Nat):(Op.equalIn (d+1) t (.map r) (.map none)).run P w= .ok r.isNone w:=by
 cases r<;>simp[Op.equalIn,run_underlying h]
theorem sW{op:BinOp}{neg:Bool}(hop:op= .eql/\neg=false\/op= .neq/\neg=true){k el:TypeId}(h:P.underlying t=some (.map k el))(w:World)(r:Option Nat):
  (binOp op t (.map r) (.map none)).run P w= .ok (.bool (r.isNone != neg)) w:=by
 have key:(Op.equal t (.map r) (.map none)).run P w= .ok r.isNone w:=po h 9999 w r;rcases hop with⟨rfl,rfl⟩|⟨rfl,rfl⟩
 ·simp[binOp,key]
 ·simp[binOp,key]
theorem AL{op:BinOp}{neg:Bool}{yt:TypeId}{x:Operand}
  (hn:∀v H' u w',Q' v H'->VR σ v u->HR B σ H' w'->Fr B σ σ H H' w w'->next (a.put o.dst u) w') (hE:ER σ e a) (h:HR B σ H w) (hr:gV e H Q' m)
  (hm:((r7 P t).bind λ_=>(fF x).map (MO.mn neg))=some m) (hop:op= .eql/\neg=false\/op= .neq/\neg=true) (ho:o.op= .binOp op t x (.const (.map none)) yt):o.wp P a w next Q:=by
 obtain⟨E,hE',hm⟩:=bM.1 hm;obtain⟨x',hx,rfl⟩:=apc.1 hm;obtain⟨K,hT,hK⟩:=my hE';have hg:∀v:Option Nat,(eqGuard op t x (.const (.map none)) (.map v) (.map none)).run P w= .ok () w:=λv=>by
  unfold eqGuard;rcases hop with⟨rfl,_⟩|⟨rfl,_⟩<;>rfl
 have hc:a.eval (.const (.map none))= .map none:=rfl;have fin:∀r:Option Nat,a.eval x= .map r->Q' (.b (r.isNone != neg)) H->o.wp P a w next Q:=λr e1 hq=>by
  unfold Oper.wp execOp;rw[ho];simp only[e1,hc,Sem.run_bind,hg,sW hop hT w r,Result.andThen_ok,Sem.run_pure,Oper.upon];exact hn _ _ _ _ hq (.b _) h (Fr.refl h)
 simp only[gV,AQ] at hr;split at hr
 ·rename_i h1;refine fin none (jX hx hE h1) ?_;cases neg<;>exact hr
 ·rename_i r h1;refine fin (some r) (jX hx hE h1) ?_;cases neg<;>exact hr
 ·exact hr.elim
theorem anz(hnc:m.isCu=false)(hm:zv P o.op=some m)(hE:ER σ e a)(h:HR B σ H w)(hr:gV e H Q' m)
  (hn:∀v H' u w',Q' v H'->VR σ v u->HR B σ H' w'->Fr B σ σ H H' w w'->next (a.put o.dst u) w'):o.wp P a w next Q:=by
 unfold zv at hm;split at hm
 ·rename_i t ho;cases hm;exact anA ho h hr hn
 ·
  rename_i t x k ok ho;obtain⟨E,hE',hm⟩:=bM.1 hm;obtain⟨x',hx,hm⟩:=bM.1 hm;obtain⟨k',hk,hm⟩:=bM.1 hm;obtain⟨K,hT,hK⟩:=my hE';have key:∃z zu,(zeroValue E).run P w= .ok zu w/\(∀σ:Sg,VR σ z zu)/\yO H Q' z ok (x'.ev e) (k'.ev e):=by
   split at hm
   ·rename_i z hz;cases hm;obtain⟨zu,h1,_,h3⟩:=sV hz w;exact⟨z,zu,h1,h3,hr⟩
   ·obtain⟨z,hz,rfl⟩:=apc.1 hm;obtain⟨zu,h1,h3⟩:=BG hz w;exact⟨z,zu,h1,h3,hr⟩
  clear hr;obtain⟨z,zu,hz1,hz3,hr⟩:=key;have ret:∀(v:AV) (u:Value) (b:Bool),VR σ v u->VR σ (uc ok v b) (if ok=true then .tuple #[u,.bool b] else u):=λv u b hu=>by
   unfold uc;cases ok
   ·exact hu
   ·exact((gn.nil.cons (.b b)).cons hu).tup
  simp only[gV,yO,Dj,Dk,Dl,BO,Di,Dm,Cp,AQ,iK] at hr;split at hr
  ·rename_i i h1 h2;have e1:=jX hx hE h1;have e2:=lU hk hE h2;unfold Oper.wp execOp;rw[ho];simp only[e1,e2,vq hT hK i ok hz1,Sem.run_bind,Result.andThen_ok,Sem.run_pure,Oper.upon];exact hn _ _ _ _ hr (ret _ _ _ (hz3 σ)) h (Fr.refl h)
  ·rename_i r i h1 h2;have e1:=jX hx hE h1;have e2:=lU hk hE h2
   first|unfold AZ at hr|unfold AN at hr|unfold Ce at hr|unfold CT at hr|unfold BP at hr|unfold zp at hr|unfold B9 at hr|unfold Bl at hr|unfold Bm at hr|unfold AY at hr
   split at hr;rotate_left
   ·exact hr.elim
   rename_i x0 hob;obtain⟨_,es,c,g1,g2⟩:=h.ob.o r _ hob;unfold Oper.wp execOp;rw[ho];rcases wZ hT hK g1 g2.int i ok hz1 with⟨q1,q2⟩|⟨e0,q1,q2,q3⟩
   ·simp only[e1,e2,q1,Sem.run_bind,Result.andThen_ok,Sem.run_pure,Oper.upon];refine hn _ _ _ _ hr ?_ h (Fr.refl h);unfold nG.look;rw[g2.miss q2];exact ret _ _ _ (hz3 σ)
   ·simp only[e1,e2,q3,Sem.run_bind,Result.andThen_ok,Sem.run_pure,Oper.upon];refine hn _ _ _ _ hr ?_ h (Fr.refl h);obtain⟨v,p1,p2,p3⟩:=g2.hit q1 q2;unfold nG.look;rw[p1];exact ret _ _ _ (p3.flat p2)
  ·exact hr.elim
 ·
  rename_i t x k v ho;obtain⟨E,hE',hm⟩:=bM.1 hm;obtain⟨x',hx,hm⟩:=bM.1 hm;obtain⟨k',hk,hm⟩:=bM.1 hm;obtain⟨v',hv,rfl⟩:=apc.1 hm;obtain⟨K,hT,hK⟩:=my hE';simp only[gV,yO,Dj,Dk,Dl,BO,Di,Dm,Cp,AQ,iK] at hr;split at hr;rotate_left
  ·exact hr.elim
  rename_i r i vv h1 h2 h3;have e1:=jX hx hE h1;have e2:=lU hk hE h2;have e3:=gb hv hE h3
  first|unfold AZ at hr|unfold AN at hr|unfold Ce at hr|unfold CT at hr|unfold BP at hr|unfold zp at hr|unfold B9 at hr|unfold Bl at hr|unfold Bm at hr|unfold AY at hr
  split at hr;rotate_left
  ·exact hr.elim
  rename_i x0 hob;obtain⟨p1,p2,hq⟩:=hr;obtain⟨g0,es,c,g1,g2⟩:=h.ob.o r _ hob;unfold Oper.wp execOp;rw[ho];rcases Aq hT hK g1 g2.int i (a.eval v) with⟨q1,q2⟩|⟨j,e0,q1,q2,q3⟩
  ·obtain⟨k1,k2⟩:=h.turn (g0 p1) (jw g1) (h.ob.o.turnMap g1 (λ_=>g0 p1) (g2.push q2 p2 (e3.flat p2)) (λy _ _ _ hy=>hy.push q2 _)) (by rw[hob];simp) (λc hc hn=>hc.turn hn)
   simp only[e1,e2,q1,Sem.run_bind,Result.andThen_ok,Sem.run_pure,Oper.upon];exact aqJ
  ·obtain⟨k1,k2⟩:=h.turn (g0 p1) (jw g1) (h.ob.o.turnMap g1 (λ_=>g0 p1) (g2.modify q1 q2 p2 (e3.flat p2)) (λy _ _ _ hy=>hy.same (pc q1 q2))) (by rw[hob];simp) (λc hc hn=>hc.turn hn)
   simp only[e1,e2,q3,Sem.run_bind,Result.andThen_ok,Sem.run_pure,Oper.upon];exact aqJ
 ·
  rename_i t x k v ho;obtain⟨E,hE',hm⟩:=bM.1 hm;obtain⟨x',hx,hm⟩:=bM.1 hm;obtain⟨k',hk,hm⟩:=bM.1 hm;obtain⟨v',hv,rfl⟩:=apc.1 hm;obtain⟨K,hT,hK⟩:=my hE';simp only[gV,yO,Dj,Dk,Dl,BO,Di,Dm,Cp,AQ,iK] at hr;split at hr;rotate_left
  ·exact hr.elim
  rename_i r i vv h1 h2 h3;have e1:=jX hx hE h1;have e2:=lU hk hE h2;have e3:=gb hv hE h3
  first|unfold AZ at hr|unfold AN at hr|unfold Ce at hr|unfold CT at hr|unfold BP at hr|unfold zp at hr|unfold B9 at hr|unfold Bl at hr|unfold Bm at hr|unfold AY at hr
  split at hr;rotate_left
  ·exact hr.elim
  rename_i x0 hob;obtain⟨p1,p2,hq⟩:=hr;obtain⟨g0,es,c,g1,g2⟩:=h.ob.o r _ hob;unfold Oper.wp execOp;rw[ho];rcases Aq hT hK g1 g2.int i (a.eval v) with⟨q1,q2⟩|⟨j,e0,q1,q2,q3⟩
  ·obtain⟨k1,k2⟩:=h.turn (g0 p1) (jw g1) (h.ob.o.turnMap g1 (λ_=>g0 p1) (g2.push q2 p2 (e3.flat p2)) (λy _ _ _ hy=>hy.push q2 _)) (by rw[hob];simp) (λc hc hn=>hc.turn hn)
   simp only[e1,e2,q1,Sem.run_bind,Result.andThen_ok,Sem.run_pure,Oper.upon];exact aqJ
  ·obtain⟨k1,k2⟩:=h.turn (g0 p1) (jw g1) (h.ob.o.turnMap g1 (λ_=>g0 p1) (g2.modify q1 q2 p2 (e3.flat p2)) (λy _ _ _ hy=>hy.same (pc q1 q2))) (by rw[hob];simp) (λc hc hn=>hc.turn hn)
   simp only[e1,e2,q3,Sem.run_bind,Result.andThen_ok,Sem.run_pure,Oper.upon];exact aqJ
 ·
  rename_i t x k ho;obtain⟨E,hE',hm⟩:=bM.1 hm;obtain⟨x',hx,hm⟩:=bM.1 hm;obtain⟨k',hk,hm⟩:=bM.1 hm;obtain⟨z,hz,rfl⟩:=apc.1 hm;obtain⟨K,hT,hK⟩:=my hE';obtain⟨zu,hz1,hz2,hz3⟩:=sV hz w;simp only[gV,yO,Dj,Dk,Dl,BO,Di,Dm,Cp,AQ,iK] at hr;split at hr;rotate_left
  ·exact hr.elim
  rename_i r i h1 h2;have e1:=jX hx hE h1;have e2:=lU hk hE h2
  first|unfold AZ at hr|unfold AN at hr|unfold Ce at hr|unfold CT at hr|unfold BP at hr|unfold zp at hr|unfold B9 at hr|unfold Bl at hr|unfold Bm at hr|unfold AY at hr
  split at hr;rotate_left
  ·exact hr.elim
  rename_i x0 hob;obtain⟨p1,hq⟩:=hr;obtain⟨g0,es,c,g1,g2⟩:=h.ob.o r _ hob;unfold Oper.wp execOp;rw[ho];have stp:∀{v:AV} {es':Array MapEntry} {c':Nat} {s:Int},yG (x0.put i v) es' c'->(∃e ∈ es'.toList,(e.born:Int)=s/\e.key= .int .i64 i)->yG {x0.put i v with stp:=some (s,i)} es' c':=λhm he=>⟨hm.cnt,hm.ent,hm.dom,hm.one,λs' k' hs=>by cases hs;exact he⟩
  rcases Lb hT hK g1 g2.int i hz1 with⟨q1,q2⟩|⟨j,e0,q1,q2,q3⟩
  ·have hv:(x0.get i).getD z=z:=by rw[g2.miss q2];rfl
   simp only[nG.ask,hv] at hq;obtain⟨k1,k2⟩:=h.turn (g0 p1) (jw g1) (h.ob.o.turnMap g1 (λ_=>g0 p1) (stp (s:=(c:Int)) (g2.push q2 hz2 (hz3 _)) ⟨xF i zu c,by rw[apR];exact List.mem_append_right _ (apy.2 rfl),rfl,rfl⟩) (λy _ _ _ hy=>hy.push q2 _)) (by rw[hob];simp) (λc hc hn=>hc.turn hn)
   simp only[e1,e2,q1,Sem.run_bind,Result.andThen_ok,Sem.run_pure,Oper.upon];exact hn _ _ _ _ (hq (c:Int)) (((gn.nil.cons (.n .i64 (c:Int))).cons (hz3 σ)).tup) k1 k2
  ·have he0:e0 ∈ es.toList:=apB (by rw[apC];exact q1)
   obtain⟨v,b1,b2,b3⟩:=g2.hit he0 q2;have hv:(x0.get i).getD z=v:=by rw[b1];rfl
   simp only[nG.ask,hv] at hq;have hmm:=pc (u:=e0.val) q1 q2;obtain⟨e',a1,a2,a3⟩:=kJ hmm he0;obtain⟨k1,k2⟩:=h.turn (g0 p1) (jw g1) (h.ob.o.turnMap g1 (λ_=>g0 p1) (stp (s:=(e0.born:Int)) (g2.modify q1 q2 b2 b3) ⟨e',a1,by rw[a3],by rw[a2,q2]⟩) (λy _ _ _ hy=>hy.same hmm)) (by rw[hob];simp) (λc hc hn=>hc.turn hn)
   simp only[e1,e2,q3,Sem.run_bind,Result.andThen_ok,Sem.run_pure,Oper.upon];exact hn _ _ _ _ (hq (e0.born:Int)) (((gn.nil.cons (.n .i64 (e0.born:Int))).cons (b3.flat b2)).tup) k1 k2
 ·
  rename_i t x s v ho;obtain⟨x',hx,hm⟩:=bM.1 hm;obtain⟨s',hs,hm⟩:=bM.1 hm;obtain⟨v',hv,rfl⟩:=apc.1 hm;simp only[gV,yO,Dj,Dk,Dl,BO,Di,Dm,Cp,AQ,iK] at hr;split at hr;rotate_left
  ·exact hr.elim
  rename_i r i vv h1 h2 h3;have e1:=jX hx hE h1;have e2:=lU hs hE h2;have e3:=gb hv hE h3
  first|unfold AZ at hr|unfold AN at hr|unfold Ce at hr|unfold CT at hr|unfold BP at hr|unfold zp at hr|unfold B9 at hr|unfold Bl at hr|unfold Bm at hr|unfold AY at hr
  split at hr;rotate_left
  ·exact hr.elim
  rename_i x0 hob;obtain⟨p1,p2,k,p3,hq⟩:=hr;obtain⟨g0,es,c,g1,g2⟩:=h.ob.o r _ hob;obtain⟨e0,b1,b2,b3⟩:=g2.stp _ _ p3;obtain⟨j,q1,q2⟩:=DN (P:=P) (T:=t) g1 g2.one b1 b3 (a.eval v);obtain⟨k1,k2⟩:=h.turn (g0 p1) (jw g1) (h.ob.o.turnMap g1 (λ_=>g0 p1) (g2.modify q1 b3 p2 (e3.flat p2)) (λy _ _ _ hy=>hy.same (pc q1 b3))) (by rw[hob];simp) (λc hc hn=>hc.turn hn)
  unfold Oper.wp execOp;rw[ho];rw[b2] at q2;simp only[e1,e2,q2,Sem.run_bind,Result.andThen_ok,Sem.run_pure,Oper.upon];exact aqJ
 ·
  rename_i t x ho;obtain⟨E,hE',hm⟩:=bM.1 hm;obtain⟨x',hx,rfl⟩:=apc.1 hm;obtain⟨K,hT,hK⟩:=my hE';simp only[gV,yO,Dj,Dk,Dl,BO,Di,Dm,Cp,AQ,iK] at hr;split at hr
  ·rename_i h1;have e1:=jX hx hE h1;have hrun:(Instr.range t (.map none)).run P w= .ok (.pointer (some ⟨w.heap.size,0,none⟩)) (w.alloc (.mapIter none 0 #[] 0)):=by
    simp[Instr.range,run_underlying hT,Result.andThen]
   obtain⟨k1,k2⟩:=h.make (o:= .mapIter none 0 #[] 0) (ob:=λr'=>if r'=w.heap.size then some (.fix (.mapIter none 0 #[] 0)) else H.ob r') ((h.ob.o.alloc _).more ⟨h.hB,heap_alloc_new w _,λcs t fr e=>by cases e⟩) (λc hc hn=>hn.more (Nat.ne_of_lt hc) λy e=>by cases e)
   unfold Oper.wp execOp;rw[ho];simp only[e1,hrun,Sem.run_bind,Result.andThen_ok,Sem.run_pure,Oper.upon];exact aqK
  rotate_left
  ·exact hr.elim
  rename_i r h1;have e1:=jX hx hE h1
  first|unfold AZ at hr|unfold AN at hr|unfold Ce at hr|unfold CT at hr|unfold BP at hr|unfold zp at hr|unfold B9 at hr|unfold Bl at hr|unfold Bm at hr|unfold AY at hr
  split at hr;rotate_left
  ·exact hr.elim
  rename_i x0 hob;obtain⟨g0,es,c,g1,g2⟩:=h.ob.o r _ hob;have hrun:(Instr.range t (.map (some r))).run P w= .ok (.pointer (some ⟨w.heap.size,0,none⟩)) (w.alloc (.mapIter (some r) c #[] c)):=by
   simp[Instr.range,run_underlying hT,MapKept.run_getObj_map g1,Result.andThen]
  have hlt:=(apo.1 g1).1;have hir:De ⟨r,λk=>(x0.get k).isSome,λ_=>false,none⟩ es c c #[] c:=by
   refine⟨λe he k hk=>ae,λe he k hk=>?_,λk hk=>?_,λk hk=>(by cases hk),λb hb=>(by simp at hb),bL _,bL _,λk v hk=>(by cases hk)⟩
   ·obtain⟨v,b1,_⟩:=g2.hit he hk;obtain⟨_,_,_,_,_,_,b5⟩:=g2.ent e he;simp[b1,b5]
   ·obtain⟨v,hv⟩:=Option.isSome_iff_exists.1 hk;exact g2.dom k v hv
  obtain⟨k1,k2⟩:=h.make (o:= .mapIter (some r) c #[] c) (ob:=λr'=>if r'=w.heap.size then some (.it ⟨r,λk=>(x0.get k).isSome,λ_=>false,none⟩) else H.ob r') ((h.ob.o.alloc _).more ⟨h.hB,c,#[],c,es,c,heap_alloc_new w _,by rw[Below.heap_alloc _ _ _ hlt];exact g1,hir,x0,g2⟩) (λc hc hn=>hn.more (Nat.ne_of_lt hc) λy e=>by cases e;exact λe=>by have h0:=hn.1;rw[<-e] at h0;rw[hob] at h0;cases h0)
  unfold Oper.wp execOp;rw[ho];simp only[e1,hrun,Sem.run_bind,Result.andThen_ok,Sem.run_pure,Oper.upon];exact aqK
 ·
  rename_i x ho;obtain⟨x',hx,rfl⟩:=apc.1 hm;simp only[gV,yO,Dj,Dk,Dl,BO,Di,Dm,Cp,AQ,iK] at hr;split at hr;rotate_left
  ·exact hr.elim
  rename_i t h1;have e1:=jX hx hE h1
  first|unfold AZ at hr|unfold AN at hr|unfold Ce at hr|unfold CT at hr|unfold BP at hr|unfold zp at hr|unfold B9 at hr|unfold Bl at hr|unfold Bm at hr|unfold AY at hr
  split at hr;rotate_left
  ·rename_i s1 s2 s3 hob;obtain⟨_,hh,_⟩:=h.ob.o t _ hob;have hrun:(Instr.next (.pointer (some ⟨t,0,none⟩)) false o.type).run P w= .ok (.tuple #[.bool false]) w:=by
    simp[Instr.next,getObj,Sem.run,hh,Result.andThen]
   unfold Oper.wp execOp;rw[ho];simp only[e1,hrun,Sem.run_bind,Result.andThen_ok,Sem.run_pure,Oper.upon];exact hn _ _ _ _ hr ((gn.nil.cons (.b false)).tup) h (Fr.refl h)
  ·exact hr.elim
  rename_i y hob
  first|unfold AZ at hr|unfold AN at hr|unfold Ce at hr|unfold CT at hr|unfold BP at hr|unfold zp at hr|unfold B9 at hr|unfold Bl at hr|unfold Bm at hr|unfold AY at hr
  split at hr;rotate_left
  ·exact hr.elim
  rename_i x0 hob2;obtain⟨hq0,hq1,hq2⟩:=hr;obtain⟨b0,since,seen,last,es,c,b1,b2,b3,xm,b4⟩:=h.ob.o t _ hob;obtain⟨g0,es',c',g1,g2⟩:=h.ob.o y.m _ hob2;rw[b2] at g1;cases g1;have hold:∀x ∈ es.toList,x.born<since:=λx hx=>by
   obtain⟨k,v,d1,d2,_⟩:=g2.ent x hx;exact(b3.od x hx k d1).1 (hq0 k v d2)
  unfold Oper.wp execOp;rw[ho];rcases run_next_at (P:=P) w o.type t y.m since last seen es c b1 b2 hold b3.sl with⟨q1,q2⟩|⟨e0,q1,w1,q2,q3⟩
  ·simp only[e1,q2,Sem.run_bind,Result.andThen_ok,Sem.run_pure,Oper.upon];refine hn _ _ _ _ (hq2 λk hk=>?_) ((gn.nil.cons (.b false)).tup) h (Fr.refl h);obtain⟨e1',c1,c2⟩:=b3.in1 k hk;by_cases hs:y.seen k=true
   ·exact hs
   ·exfalso;have hnot:¬e1'.born ∈ seen.toList:=λhin=>hs ((b3.sn e1' c1 k c2).2 hin);have:e1' ∈ leftOf es seen:=by
     unfold leftOf;simp only[Array.mem_filter];exact⟨by simpa using c1,by simpa using hnot⟩
    have h0:leftOf es seen= #[]:=Array.eq_empty_of_size_eq_zero q1;rw[h0] at this;simp at this
  ·have q1':e0 ∈ es.toList/\¬e0.born ∈ seen.toList:=by
    unfold leftOf at q1;simp only[Array.mem_toList_iff,Array.mem_filter] at q1;exact⟨by simpa using q1.1,by simpa using q1.2⟩
   obtain⟨k,v,d1,d2,d3,d4,d5⟩:=g2.ent e0 q1'.1;have hns:y.seen k=false:=by
    cases hs:y.seen k with
    |false=>rfl
    |true=>exact absurd ((b3.sn e0 q1'.1 k d1).1 hs) q1'.2
   have hw1:w1.heap=w.heap/\HR B σ H w1/\Fr B σ σ H H w w1:=by
    rcases q2 with rfl|rfl
    ·exact⟨rfl,h,Fr.refl h⟩
    ·exact⟨rfl,⟨h.new,h.newl,h.old,h.small,h.hB,h.nil,h.nilp,h.blk,h.szs,h.inj,h.frz,h.ob.of_eq rfl⟩,⟨λ_ _=>rfl,σ.le_refl,bL _,bL _,(Below.refl _ _).drew,λc hc=> .inl rfl,λb c oc hb hs=>by rw[h.new b hb] at hs;cases hs⟩⟩
   obtain⟨hw0,hw2,hw3⟩:=hw1;have hob3:OR B (λr'=>if r'=t then some (.it {y with seen:=λq=>decide (q=k)||y.seen q,cur:=some (k,v)}) else H.ob r') {w1 with heap:=w1.heap.setIfInBounds t (.mapIter (some y.m) since (seen.push e0.born) c)}:=by
    have htm:t≠y.m:=λe=>by rw[<-e,b1] at b2;cases b2
    have hlt:=(apo.1 b1).1;have hne:∀r',r'≠t->(w1.heap.setIfInBounds t (.mapIter (some y.m) since (seen.push e0.born) c))[r']? =w.heap[r']? :=λr' hr'=>by
     rw[aqd (Ne.symm hr'),hw0]
    have hself:(w1.heap.setIfInBounds t (.mapIter (some y.m) since (seen.push e0.born) c))[t]? =some (.mapIter (some y.m) since (seen.push e0.born) c):=by
     rw[Array.getElem?_setIfInBounds_self_of_lt (by rw[hw0];exact hlt)]
    intro r' z hz;have hz:(if r'=t then some (OB.it {y with seen:=λq=>decide (q=k)||y.seen q,cur:=some (k,v)}) else H.ob r')=some z:=hz
    by_cases e:r'=t
    ·subst e;rw[if_pos rfl] at hz;cases hz;refine⟨b0,since,seen.push e0.born,c,es,c,hself,(hne _ (Ne.symm htm)).trans b2,?_,xm,b4⟩;refine⟨λx hx q hq=>?_,b3.od,b3.in1,λq hq=>?_,λb hb=>?_,apj b3.sl b3.lst,bL _,λq v' hq=>?_⟩
     ·rw[apR,apS,apy];simp only[ap5,decide_eq_true_eq];constructor
      ·rintro (e|e)
       ·right;subst e;obtain⟨j1,c1⟩:=aqk.1 hx;obtain⟨j2,c2⟩:=aqk.1 q1'.1;rw[apC] at c1 c2;by_cases hj:j1=j2
        ·subst hj;rw[c1] at c2;cases c2;rfl
        ·exact absurd (by rw[hq,d1]) (qs g2.one c1 c2 hj).1
       ·exact .inl ((b3.sn x hx q hq).1 e)
      ·rintro (e|e)
       ·exact .inr ((b3.sn x hx q hq).2 e)
       ·left;obtain⟨j1,c1⟩:=aqk.1 hx;obtain⟨j2,c2⟩:=aqk.1 q1'.1;rw[apC] at c1 c2;by_cases hj:j1=j2
        ·subst hj;rw[c1] at c2;cases c2;rw[hq] at d1;cases d1;rfl
        ·exact absurd e (qs g2.one c1 c2 hj).2
     ·simp only[ap5,decide_eq_true_eq] at hq;rcases hq with rfl|hq
      ·exact⟨e0,q1'.1,d1⟩
      ·exact b3.in2 q hq
     ·rw[apR,apS,apy] at hb;rcases hb with hb|rfl
      ·exact b3.bnd b hb
      ·exact d5
     ·cases hq;exact⟨rfl,d3,e0,q1'.1,seen,rfl,d1,d4⟩
    ·rw[if_neg e] at hz;have h9:=h.ob.o r' z hz;cases z with
     |mp x=>
      obtain⟨p0,es1,c1,p1,p2⟩:=h9;exact⟨p0,es1,c1,(hne _ e).trans p1,p2⟩
     |it y1=>
      obtain⟨p0,s1,se1,l1,es1,c1,p1,p2,p3⟩:=h9;exact⟨p0,s1,se1,l1,es1,c1,(hne _ e).trans p1,(hne _ (λe=>by rw[e,b1] at p2;cases p2)).trans p2,p3⟩
     |fix o=>exact⟨h9.1,(hne _ e).trans h9.2.1,h9.2.2⟩
   have hnc:jD w1.heap[t]? :=by rw[hw0];exact zr b1
   obtain⟨k1,k2⟩:=hw2.turn (H:=H) b0 hnc hob3 (by rw[hob];simp) (λc hc hn=>hc.more hn λy' e=>by cases e;exact hc.2 t y hob)
   simp only[e1,q3,Sem.run_bind,Result.andThen_ok,Sem.run_pure,Oper.upon];refine hn _ _ _ _ (hq1 k v d2 hns) (((gn.nil.cons (d4.flat d3)).cons (by rw[d1];exact .n .i64 k)).cons (.b true)).tup k1 (hw3.trans k2 hw2)
 ·
  rename_i x ho;obtain⟨x',hx,rfl⟩:=apc.1 hm;simp only[gV,yO,Dj,Dk,Dl,BO,Di,Dm,Cp,AQ,iK] at hr;split at hr;rotate_left
  ·exact hr.elim
  rename_i t h1;have e1:=jX hx hE h1
  first|unfold AZ at hr|unfold AN at hr|unfold Ce at hr|unfold CT at hr|unfold BP at hr|unfold zp at hr|unfold B9 at hr|unfold Bl at hr|unfold Bm at hr|unfold AY at hr
  split at hr;rotate_left
  ·exact hr.elim
  rename_i y hob
  first|unfold AZ at hr|unfold AN at hr|unfold Ce at hr|unfold CT at hr|unfold BP at hr|unfold zp at hr|unfold B9 at hr|unfold Bl at hr|unfold Bm at hr|unfold AY at hr
  split at hr;rotate_left
  ·exact hr.elim
  rename_i k v hcur;obtain⟨b0,since,seen,last,es,c,b1,b2,b3,xm,b4⟩:=h.ob.o t _ hob;obtain⟨rfl,c2,e0,c3,s0,rfl,c4,c5⟩:=b3.cu k v hcur;obtain⟨b2',b3'⟩:∃es',w.heap[y.m]? =some (.map es' last)/\es'=es:=⟨es,b2,rfl⟩;have hnd:(es.toList.map (·.born)).Nodup:=List.pairwise_map.2 (b4.one.imp λh=>aa);have hrun:=run_entry_at (P:=P) w t y.m since s0 es last e0 b1 b2 c3 hnd;unfold Oper.wp execOp;rw[ho];simp only[e1,hrun,Sem.run_bind,Result.andThen_ok,Sem.run_pure,Oper.upon];refine hn _ _ _ _ hr (((gn.nil.cons (c5.flat c2)).cons (by rw[c4];exact .n .i64 k)).tup) h (Fr.refl h)
 ·
  rename_i x t ho;obtain⟨E,hE',hm⟩:=bM.1 hm;obtain⟨x',hx,rfl⟩:=apc.1 hm;obtain⟨K,hT,hK⟩:=my hE';simp only[gV,yO,Dj,Dk,Dl,BO,Di,Dm,Cp,AQ,iK] at hr;split at hr
  ·rename_i h1;have e1:=jX hx hE h1;have hb:(Builtin.len_ #[t] o.type #[Value.map none]).run P w= .ok (.int .i64 0) w:=by
    simp[Builtin.len_,run_underlying hT,goInt,Result.andThen]
   unfold Oper.wp execOp;rw[ho];simp only[resolve,invoke,builtin,Sem.run_bind,Sem.run_pure,Result.andThen_ok,apU,List.map_cons,List.map_nil,e1,hb,Oper.upon];exact hn _ _ _ _ hr (.n .i64 0) h (Fr.refl h)
  ·rename_i r h1;have e1:=jX hx hE h1
   first|unfold AZ at hr|unfold AN at hr|unfold Ce at hr|unfold CT at hr|unfold BP at hr|unfold zp at hr|unfold B9 at hr|unfold Bl at hr|unfold Bm at hr|unfold AY at hr
   split at hr;rotate_left
   ·exact hr.elim
   rename_i x0 hob;obtain⟨g0,es,c,g1,g2⟩:=h.ob.o r _ hob;have hb:(Builtin.len_ #[t] o.type #[Value.map (some r)]).run P w= .ok (.int .i64 x0.cnt) w:=by
    simp[Builtin.len_,run_underlying hT,goInt,Result.andThen,MapKept.run_getObj_map g1,g2.cnt]
   unfold Oper.wp execOp;rw[ho];simp only[resolve,invoke,builtin,Sem.run_bind,Sem.run_pure,Result.andThen_ok,apU,List.map_cons,List.map_nil,e1,hb,Oper.upon];exact aqL
  ·exact hr.elim
 ·
  rename_i x y ats ho;obtain⟨x',hx,hm⟩:=bM.1 hm;obtain⟨y',hy,rfl⟩:=apc.1 hm;simp only[gV,iK] at hr;split at hr
  ·rename_i i j h1 h2;have e1:=lU hx hE h1;have e2:=lU hy hE h2;have hb:(Builtin.max_ ats o.type #[Value.int .i64 i,Value.int .i64 j]).run P w= .ok (.int .i64 (if i<j then j else i)) w:=by
    simp[Builtin.max_,Builtin.max2,List.foldlM]
   unfold Oper.wp execOp;rw[ho];simp only[resolve,invoke,builtin,Sem.run_bind,Sem.run_pure,Result.andThen_ok,apU,List.map_cons,List.map_nil,e1,e2,hb,Oper.upon];exact aqL
  ·rename_i i j h1 h2;have e1:=lU hx hE h1;have e2:=lU hy hE h2;have hb:(Builtin.max_ ats o.type #[Value.int .u32 i,Value.int .u32 j]).run P w= .ok (.int .u32 (if i<j then j else i)) w:=by
    simp[Builtin.max_,Builtin.max2,List.foldlM]
   unfold Oper.wp execOp;rw[ho];simp only[resolve,invoke,builtin,Sem.run_bind,Sem.run_pure,Result.andThen_ok,apU,List.map_cons,List.map_nil,e1,e2,hb,Oper.upon];exact hn _ _ _ _ hr (.n .u32 _) h (Fr.refl h)
  ·exact hr.elim
 ·
  split at hm
  ·rename_i x y t t' ho _ _ el el' e1 e2;obtain⟨i0,hi,hm⟩:=bM.1 hm;obtain⟨x',hx,hm⟩:=bM.1 hm;obtain⟨y',hy,rfl⟩:=apc.1 hm;have hr':cpP Q' (C1 H i0.size ((x'.ev e).bind vj) ((y'.ev e).bind vj)):=hr;cases hc:C1 H i0.size ((x'.ev e).bind vj) ((y'.ev e).bind vj) with
   |none=>rw[hc] at hr';exact hr'.elim
   |some q=>
    obtain⟨v,H'⟩:=q;rw[hc] at hr';exact aaU ho e1 hi hx hy hE h hc (λu w' g1 g2 g3=>hn v H' u w' hr' g1 g2 g3)
  ·cases hm
 ·rename_i x y ats ho;obtain⟨x',hx,hm⟩:=bM.1 hm;obtain⟨y',hy,rfl⟩:=apc.1 hm;simp only[gV,iW] at hr;split at hr
  ·rename_i i j h1 h2;have e1:=lU hx hE h1;have e2:=lU hy hE h2;have hb:(Builtin.min_ ats o.type #[Value.int .i64 i,Value.int .i64 j]).run P w= .ok (.int .i64 (if j<i then j else i)) w:=by
    simp[Builtin.min_,Builtin.min2,List.foldlM]
   unfold Oper.wp execOp;rw[ho];simp only[resolve,invoke,builtin,Sem.run_bind,Sem.run_pure,Result.andThen_ok,apU,List.map_cons,List.map_nil,e1,e2,hb,Oper.upon];exact aqL
  ·rename_i i j h1 h2;have e1:=lU hx hE h1;have e2:=lU hy hE h2;have hb:(Builtin.min_ ats o.type #[Value.int .u32 i,Value.int .u32 j]).run P w= .ok (.int .u32 (if j<i then j else i)) w:=by
    simp[Builtin.min_,Builtin.min2,List.foldlM]
   unfold Oper.wp execOp;rw[ho];simp only[resolve,invoke,builtin,Sem.run_bind,Sem.run_pure,Result.andThen_ok,apU,List.map_cons,List.map_nil,e1,e2,hb,Oper.upon];exact hn _ _ _ _ hr (.n .u32 _) h (Fr.refl h)
  ·exact hr.elim
 ·rename_i t x yt ho;exact AL hn hE h hr hm (.inl ⟨rfl,rfl⟩) ho
 ·rename_i t x yt ho;exact AL hn hE h hr hm (.inr ⟨rfl,rfl⟩) ho
 ·split at hm
  ·obtain⟨_,_,hm⟩:=bM.1 hm;obtain⟨_,_,hm⟩:=bM.1 hm;obtain⟨_,_,hm⟩:=bM.1 hm;obtain⟨_,_,rfl⟩:=apc.1 hm;cases hnc
  ·cases hm
 ·cases hm
theorem anB(hc:m.isCu=true)(hm:zv P o.op=some m)(hE:ER σ e a)(h:HR B σ H w)(hr:gV e H Q' m)
  (hn:∀v H' u w' σ',Q' v H'->VR σ' v u->HR B σ' H' w'->Fr B σ σ' H H' w w'->σ'.fz=σ.fz->next (a.put o.dst u) w'):o.wp P a w next Q:=by
 have key:∃t x hi mx el i x' hi' mx',o.op= .slice t x none (some hi) (some mx)/\P.underlying t=some (.slice el)/\P.info? el=some i/\fF x=some x'/\fF hi=some hi'/\fF mx=some mx'/\m= .cu i.size x' hi' mx':=by
  unfold zv at hm;split at hm
  all_goals try (first
   |(cases hm;done)
   |(cases hm;cases hc;done)
   |(obtain⟨_,_,rfl⟩:=apc.1 hm;cases hc;done)
   |(obtain⟨_,_,hm⟩:=bM.1 hm;obtain⟨_,_,rfl⟩:=apc.1 hm;cases hc;done)
   |(obtain⟨_,_,hm⟩:=bM.1 hm;obtain⟨_,_,hm⟩:=bM.1 hm;obtain⟨_,_,rfl⟩:=apc.1 hm;cases hc;done)
   |(obtain⟨_,_,hm⟩:=bM.1 hm;obtain⟨_,_,hm⟩:=bM.1 hm;obtain⟨_,_,hm⟩:=bM.1 hm;obtain⟨_,_,rfl⟩:=apc.1 hm;cases hc;done)
   |(obtain⟨_,_,hm⟩:=bM.1 hm;obtain⟨_,_,hm⟩:=bM.1 hm;obtain⟨_,_,hm⟩:=bM.1 hm;split at hm<;>first|(cases hm;cases hc;done)|(obtain⟨_,_,rfl⟩:=apc.1 hm;cases hc;done))
   |(split at hm<;>first|(cases hm;done)|(obtain⟨_,_,hm⟩:=bM.1 hm;obtain⟨_,_,hm⟩:=bM.1 hm;obtain⟨_,_,rfl⟩:=apc.1 hm;cases hc;done)))
  rename_i t x hi mx ho;split at hm
  ·rename_i el ht;obtain⟨i,hi2,hm⟩:=bM.1 hm;obtain⟨x',hx,hm⟩:=bM.1 hm;obtain⟨hi',hh,hm⟩:=bM.1 hm;obtain⟨mx',hmx,rfl⟩:=apc.1 hm;exact⟨t,x,hi,mx,el,i,x',hi',mx',ho,ht,hi2,hx,hh,hmx,rfl⟩
  ·cases hm
 obtain⟨t,x,hi,mx,el,i,x',hi',mx',ho,ht,hin,hx,hh,hmx,rfl⟩:=key;have hr':cuP H Q' i.size (x'.ev e) (hi'.ev e) (mx'.ev e):=hr;unfold cuP at hr';split at hr'
 ·rename_i v0 k1 ii k2 jj e0 e1 e2;cases hd:cuD H i.size ii jj v0 with
  |none=>rw[hd] at hr';exact hr'.elim
  |some q=>
   obtain⟨v,H'⟩:=q;rw[hd] at hr';exact aaS ho ht hin hx hh hmx hE h e0 e1 e2 hd (λu w' σ' g1 g2 g3 g4=>hn v H' u w' σ' hr' g1 g2 g3 g4)
 ·exact hr'.elim
end
end
end Go.Proofs.YtdpkgnmmikebdaaGreat
namespace Go.Proofs.YtdpkgnmmikebdaaGreat
open Go.RowKit
structure ov(B:Nat)(σ σ':Sg):Prop where
 eq:∀c,c<B->σ'.fz c=σ.fz c
 le:∀c fs,σ.fz c=some fs->∃fs',σ'.fz c=some fs'/\oq fs fs'
theorem ov.refl(B:Nat)(σ:Sg):ov B σ σ:=⟨λ_ _=>rfl,λc fs h=>⟨fs,h,oq.refl _⟩⟩
theorem ov.trans{B:Nat}{σ σ1 σ2:Sg}(h:ov B σ σ1)(h':ov B σ1 σ2):ov B σ σ2:=⟨λc hc=>(h'.eq c hc).trans (h.eq c hc),λc fs hf=>by
 obtain⟨f1,e1,p1⟩:=h.le c fs hf;obtain⟨f2,e2,p2⟩:=h'.le c f1 e1;exact⟨f2,e2,p1.trans p2⟩⟩
theorem ov.of_eq{B:Nat}{σ σ1:Sg}(h:σ1.fz=σ.fz):ov B σ σ1:=⟨λc _=>by rw[h],λc fs hf=>⟨fs,by rw[h];exact hf,oq.refl _⟩⟩
def aoa(B:Nat)(σ:Sg)(H:AH)(w:World)(Q:AV->AH->Prop):Ending->World->Prop
 |.returned u,w'=>∃v H' σ',Q v H'/\VR σ' v u/\HR B σ' H' w'/\Fr B σ σ' H H' w w'/\ov B σ σ'
 |_,_=>False
def ui(P:Program)(g:FuncId):Prop:=∃fn,P.funcs[g]? =some fn/\(fn.name== "runtime.NumGoroutine")=false/\fn.body.isNone=false
def qS(P:Program)(g:FuncId)(args:List AV)(H:AH)(Q:AV->AH->Prop):Prop:=
 ui P g/\∀(B:Nat) (σ:Sg) (w:World) (args':Array Value),HR B σ H w->gn σ args args'.toList->Calls P g args' w (aoa B σ H w Q)
def gK(P:Program)(e:Tr AV)(H:AH)(k:AK)(Q:AV->AH->Prop):Prop:=match k with
 |.ap x=>match x.run e H with
  |some (v,H')=>Q v H'
  |none=>False
 |.cl f args=>match f.ev e,yP e args with
  |some (.f g first cap),some vs=>qS P g (first++vs++cap) H Q
  |_,_=>False
 |.sn neg x=>match x.ev e with
  |some (.fs _ n _)=>∀t,(t=(!neg)->n=0)->Q (.b t) H
  |some .sl0=>∀t,Q (.b t) H
  |_=>False
 |.mo x=>gV e H Q x
theorem ub{P:Program}{op:BinOp}{t:TypeId}{y:Operand}{neg:Bool}(h:Zm P op t y=some neg)(a:Act)(w:World)(ad:Option Addr)(n c:Nat):
  (binOp op t (.slice ad n c) (a.eval y)).run P w= .ok (.bool (ad.isNone== !neg)) w:=by
 unfold Zm at h;split at h
 ·rename_i el h1;cases h;show(binOp .eql t (.slice ad n c) (.slice none 0 0)).run P w=_;rw[run_eql_slice_nil w t _ ad n c h1];cases ad<;>rfl
 ·rename_i el h1;cases h;show(binOp .neq t (.slice ad n c) (.slice none 0 0)).run P w=_;rw[run_neq_slice_nil w t _ ad n c h1];cases ad<;>rfl
 ·cases h
def nT(P:Program):List AO->Tr AV->AH->(Tr AV->AH->Prop)->Prop
 |[],e,H,Q=>Q e H
 |o::l,e,H,Q=>match gM e o.gd with
  |some t=>(t=true->gK P e H o.k (λv H'=>nT P l (fQ e o.dst v) H' Q))/\(t=false->nT P l (fQ e o.dst (.tup [])) H Q)
  |none=>False
def iz(H0:AH)(m:Nat)(nc:Bool)(e:Tr AV):AK->Prop
 |.ap (.ld _ _ x)=>match x.ev e with
  |some (.p b _)=>b<m/\(H0.at b).isSome=true
  |some (.fp _ _ _)=>nc=true
  |_=>False
 |_=>False
def jq:AK->Bool
 |.ap x=>x.kind==2
 |_=>false
def ly:AK->Bool
 |.cl _ _=>true
 |_=>false
def l9(P:Program)(H0:AH)(m:Nat):Bool->List (Nat×AO)->Tr AV->AH->(Tr AV->AH->Prop)->Prop
 |_,[],e,H,Q=>Q e H
 |nc,(k,o)::l,e,H,Q=>match gM e o.gd with
  |some t=>
   (t=true->if k=1 then iz H0 m nc e o.k/\gK P e H o.k (λv H'=>l9 P H0 m nc l (fQ e o.dst v) H' Q)
    else if k=2 then jq o.k=true/\gK P e H o.k (λv H'=>l9 P H0 m nc l (fQ e o.dst v) H' Q)
    else gK P e H o.k (λv H'=>(k=3\/m<=H'.low)/\l9 P H0 m (nc&& !ly o.k) l (fQ e o.dst v) H' Q))/\
   (t=false->(k=0->m<=H.low)/\l9 P H0 m nc l (fQ e o.dst (.tup [])) H Q)
  |none=>False
def lj(P:Program)(m:Nat):AT->Tr AV->AH->(Tr AV->AH->Prop)->Prop
 |.fin,e,H,Q=>Q e H
 |.none,_,_,_=>True
 |.alt o r more,e,H,Q=>(match gM e o.gd with
   |some t=>(t=true->gK P e H o.k (λv H'=>m<=H'.low/\lj P m r (fQ e o.dst v) H' Q))/\(t=false->m<=H.low/\lj P m r (fQ e o.dst (.tup [])) H Q)
   |none=>False)/\lj P m more e H Q
def g8(H:AH):Nat->Nat->Prop
 |_,0=>True
 |m,k+1=>(match H.at m with
  |some x=>x.fzn=0
  |none=>False)/\g8 H (m+1) k
theorem g8.get{H:AH}:∀(k m:Nat),g8 H m k->∀b,m<=b->b<m+k->∃x,H.at b=some x/\x.fzn=0
 |0,m,_,b,h1,h2=>by omega
 |k+1,m,h,b,h1,h2=>by
  obtain⟨h3,h4⟩:=h;by_cases e:b=m
  ·subst e;split at h3
   ·rename_i x hx;exact⟨x,hx,h3⟩
   ·exact h3.elim
  ·exact g8.get k (m+1) h4 b aa aa
def gP(m:Nat)(σ0:Sg)(H0:AH)(w0:World)(w':World):Prop:=
 ∀(c:Nat),(∃(cs:Array Value) (t:TypeId) (fr:Nat×Nat),w0.heap[c]? =some (Obj.cells cs t fr))->(∀b o,m<=b->b<H0.next->σ0 b≠some (c,o))->w'.heap[c]? =w0.heap[c]?
theorem gP.of_fr{B m:Nat}{σ0 σ:Sg}{H0 H:AH}{w0 w:World}(h:Fr B σ0 σ H0 H w0 w)(hl:m<=H.low):gP m σ0 H0 w0 w:=λc hc hn=>by
 obtain⟨cs,t,fr,hc⟩:=hc;rcases h.old c (apo.1 hc).1 with e|⟨b,o,h1,h2,h3⟩|hn2
 ·exact e
 ·exact absurd h2 (hn b o aa h1)
 ·exact absurd hc (hn2 _ _ _)
theorem gP.refl(m:Nat)(σ0:Sg)(H0:AH)(w0:World):gP m σ0 H0 w0 w0:=λ_ _ _=>rfl
section
variable {P:Program} {B n:Nat} {σ:Sg} {e:Tr AV} {a:Act} {H:AH} {w:World} {o:Oper} {ops:Array Oper} {Q:Exit->Act->World->Prop}
theorem qF{k:AK}(hc:pr P o.op=some k)(hE:ER σ e a)(h:HR B σ H w){Q':AV->AH->Prop}(hr:gK P e H k Q'){next:Act->World->Prop}
  (hn:∀v H' u w' σ',Q' v H'->VR σ' v u->HR B σ' H' w'->Fr B σ σ' H H' w w'->ov B σ σ'->(ly k=false->σ'.fz=σ.fz)->next (a.put o.dst u) w'):o.wp P a w next Q:=by
 have fin:∀ap,rB P o.op=some ap->k= .ap ap->o.wp P a w next Q:=by
  rintro ap hap rfl;simp only[gK] at hr;split at hr;rotate_left
  ·exact hr.elim
  rename_i v H' hrun';obtain⟨r,w',σ',hrun,hnr,h1,h2,h3⟩:=an1 hap hE h hrun';unfold Oper.wp;rw[hrun];rcases hnr with⟨u,rfl,hu⟩|⟨rfl,rfl⟩
  ·exact hn v H' u w' σ' hr hu h1 h2 (.of_eq h3) (λ_=>h3)
  ·exact hn _ H' undef w' σ' hr (.u _) h1 h2 (.of_eq h3) (λ_=>h3)
 unfold pr at hc;split at hc
 ·rename_i m hm;cases hc;cases hcu:m.isCu
  ·exact anz hcu hm hE h hr (λv H' u w' q1 q2 q3 q4=>hn v H' u w' σ q1 q2 q3 q4 (ov.refl _ _) (λ_=>rfl))
  ·exact anB hcu hm hE h hr (λv H' u w' σ' q1 q2 q3 q4 q5=>hn v H' u w' σ' q1 q2 q3 q4 (.of_eq q5) (λ_=>q5))
 unfold t0 at hc;split at hc
 ·rename_i op t x y t' ho;split at hc
  ·rename_i neg hsn;obtain⟨x',hx,rfl⟩:=apc.1 hc;simp only[gK] at hr;have key:∀(N:Prop),(∀t,(t=(!neg)->N)->Q' (.b t) H)->∀(ad:Option Addr) (n c:Nat),a.eval x= .slice ad n c->(ad=none->N)->o.wp P a w next Q:=by
    intro N hr ad n c hu h0;unfold Oper.wp execOp;rw[ho];have hg:∀b:Value,(eqGuard op t x y (.slice ad n c) b).run P w= .ok () w:=λb=>by
     unfold eqGuard;cases op<;>rfl
    simp only[hu,Sem.run_bind,hg,ub hsn a w ad n c,Result.andThen_ok,Sem.run_pure,Oper.upon];have hd:(ad.isNone== !neg)= !neg->N:=λhe=>h0 (by
     clear hn hr fin hc h0;cases ad with
     |none=>rfl
     |some x=>cases neg<;>simp at he)
    have:=hn (.b (ad.isNone== !neg)) H _ w σ (hr _ hd) (.b _) h (Fr.refl h) (ov.refl _ _) (λ_=>rfl);exact this
   split at hr
   ·rename_i esz n0 row hv;have hval:=gb hx hE hv;generalize hu:a.eval x=u at hval;cases hval with
    |fs0 esz row ad cap=>exact key _ hr _ _ _ hu (λ_=>rfl)
    |fs hz hb h1 h2 cap hcap=>exact key _ hr _ _ _ hu (λe=>by cases e)
   ·rename_i hv;have hval:=gb hx hE hv;generalize hu:a.eval x=u at hval;cases hval with
    |sl0 ad=>exact key True (λt _=>hr t) _ _ _ hu (λ_=>trivial)
   ·exact hr.elim
  ·exact aqM
 ·rename_i c ho;split at hc
  ·rename_i f hf;obtain⟨f',hf',hc⟩:=bM.1 hc;obtain⟨l',hl,rfl⟩:=apc.1 hc;simp only[gK] at hr;split at hr;rotate_left
   ·exact hr.elim
   rename_i g first cap vs hfe hvs
   obtain⟨c1,c2,hev,g1,g2⟩:=FF hf' hE hfe;obtain⟨⟨fn,k1,k2,k3⟩,hcall⟩:=hr;have hargs:gn σ (first++vs++cap) (c1++c.args.map a.eval++c2).toList:=by
    have:=(g1.app (nf hl hE hvs)).app g2;simpa using this
   have hcl:=hcall B σ w _ h hargs;unfold Oper.wp execOp;rw[ho];simp only[Sem.run_bind,resolve,hf,hev,Deferred.ofValue,Sem.run_pure,Result.andThen_ok,invoke,mU k1 k2 k3,Oper.upon];refine Calls.mono hcl (λen w' hp=>?_);cases en with
   |returned u=>obtain⟨v,H',σ',q0,q1,q2,q3,q4⟩:=hp;exact hn v H' u w' σ' q0 q1 q2 q3 q4 (λhh=>by cases hh)
   |panicked c=>exact hp.elim
   |outgrown=>exact hp.elim
  ·exact aqM
 ·obtain⟨ap,hap,rfl⟩:=apc.1 hc;exact fin ap hap rfl
theorem sE:∀(l:List Oper) (l':List AO) {σ:Sg} {e:Tr AV} {H:AH} {a:Act} {w:World} {Q':Tr AV->AH->Prop},mD P n ops l=some l'->nT P l' e H Q'->EN n σ e a->HR B σ H w->∀{σb:Sg},ov B σb σ->
  (∀e' H' a' w' σ',Q' e' H'->EN n σ' e' a'->HR B σ' H' w'->Fr B σ σ' H H' w w'->ov B σb σ'->Q .normal a' w')->wpList P ops Q l a w
 |[],l',σ,e,H,a,w,Q',hl,hr,hE,h,σb,hz,hQ=>by
  simp only[mD,apn] at hl;subst hl;exact hQ e H a w σ hr hE h (Fr.refl h) hz
 |o::l,l',σ,e,H,a,w,Q',hl,hr,hE,h,σb,hz,hQ=>by
  simp only[mD] at hl;obtain⟨x,hx,hl⟩:=bM.1 hl;obtain⟨r,hl2,rfl⟩:=apc.1 hl;unfold qa at hx;split at hx;rotate_left
  ·cases hx
  rename_i hd;obtain⟨g,hg,hx⟩:=bM.1 hx;obtain⟨k,hk,rfl⟩:=apc.1 hx;simp only[nT] at hr;unfold wpList;split at hr;rotate_left
  ·exact hr.elim
  rename_i t hw;cases t;rotate_left
  ·replace hr:=hr.1 rfl
   rw[iV hE.er hg hw,if_pos rfl];refine .inl (qF hk hE.er h hr λv H1 u w1 σ1 q0 q1 q2 q3 q4 _=>?_);exact sE l r hl2 q0 ((hE.mono q3.ext).put q1 hd) q2 (hz.trans q4) (λe' H' a' w' σ' p0 p1 p2 p3 p4=>hQ e' H' a' w' σ' p0 p1 p2 (q3.trans p3 q2) p4)
  ·replace hr:=hr.2 rfl
   rw[iV hE.er hg hw,if_neg ae];exact sE l r hl2 hr (hE.put (u:=undef) (.tup rfl (λi v h=>by simp at h)) hd) h hz hQ
end
section
variable {P:Program} {B n m:Nat} {σ0:Sg} {H0:AH} {w0:World} {ops:Array Oper} {fl:List Nat} {Q:Exit->Act->World->Prop}
theorem nS(h0:HR B σ0 H0 w0)(htop:g8 H0 m (H0.next-m))(hp:∀c a w,¬Q (.panic c) a w):∀(pl:List (Nat×Nat)) (l':List (Nat×AO)) {nc:Bool} {σ:Sg} {e:Tr AV} {H:AH} {a:Act} {w:World} {Q':Tr AV->AH->Prop},kO P n ops fl pl=some l'->l9 P H0 m nc l' e H Q'->EN n σ e a->HR B σ H w->
  Fr B σ0 σ H0 H w0 w->(gP m σ0 H0 w0 w\/pl.all (·.1 != 1)=true)->(nc=true->σ.fz=σ0.fz)->ov B σ0 σ->
  (∀e' H' a' w' σ',Q' e' H'->EN n σ' e' a'->HR B σ' H' w'->Fr B σ0 σ' H0 H' w0 w'->ov B σ0 σ'->Q .normal a' w')->fD P .any ops Q (gP m σ0 H0 w0) fl (fC ops (pl.map iZ)) a w
 |[],l',nc,σ,e,H,a,w,Q',hl,hr,hE,h,hF,hG,hz,hzb,hQ=>by
  simp only[kO,apn] at hl;subst hl;show fD P .any ops Q (gP m σ0 H0 w0) fl [] a w;exact lH (hQ e H a w σ hr hE h hF hzb)
 |(k,j)::pl,l',nc,σ,e,H,a,w,Q',hl,hr,hE,h,hF,hG,hz,hzb,hQ=>by
  simp only[kO] at hl;split at hl;rotate_left
  ·cases hl
  rename_i o ho;obtain⟨x,hx,hl⟩:=bM.1 hl;split at hl;rotate_left
  ·cases hl
  rename_i hk3;obtain⟨hk3,hsee⟩:=hk3;obtain⟨r,hl2,rfl⟩:=apc.1 hl;unfold qa at hx;split at hx;rotate_left
  ·cases hx
  rename_i hd;obtain⟨g,hg,hx⟩:=bM.1 hx;obtain⟨ak,hk,rfl⟩:=apc.1 hx;have hgp:fC ops (((k,j)::pl).map iZ)=((iZ (k,j)).1,j,o)::fC ops (pl.map iZ):=by
   have:iZ (k,j)=((iZ (k,j)).1,j):=by unfold iZ;split<;>first|rfl|(rename_i heq;cases heq;rfl)
   rw[List.map_cons,this];simp[fC,ho]
  rw[hgp];have hG':gP m σ0 H0 w0 w\/pl.all (·.1 != 1)=true:=hG.imp id (λq=>by simp only[ap9,apq] at q;exact q.2)
  simp only[l9] at hr;split at hr;rotate_left
  ·exact hr.elim
  rename_i t hw;cases t;rotate_left
  ·replace hr:=hr.1 rfl
   have hwant:=iV hE.er hg hw;split at hr
   ·
    rename_i hk1;subst hk1;obtain⟨hearly,hr⟩:=hr;cases ak with
    |cl f args=>exact hearly.elim
    |sn neg x=>exact hearly.elim
    |mo x=>exact hearly.elim
    |ap ap0=>
     cases ap0<;>try exact hearly.elim
     rename_i nn row xx;simp only[gK] at hr;split at hr;rotate_left
     ·exact hr.elim
     rename_i v H1 hrun;obtain⟨q1,_,_,_,c,u,q2,q34,q5,q6⟩:=wa (qO hk) rfl hE.er h hrun;subst q1;cases q2;have hgw:gP m σ0 H0 w0 w:=by
      rcases hG with q|q
      ·exact q
      ·simp at q
     have htop':=g8.get _ _ htop;have hclt:(∃(cs:Array Value) (t:TypeId) (fr:Nat×Nat),w0.heap[c]? =some (Obj.cells cs t fr))/\∀b o,m<=b->b<H0.next->σ0 b≠some (c,o):=by
      rcases q34 with⟨b,off,oc,q3,q4⟩|⟨_,_,_,fs,q3,q4,q40⟩
      ·exact dR
      ·simp only[iz,q3] at hearly;rw[hz hearly] at q4;refine⟨by obtain⟨cs',t',fr',m1,_⟩:=h0.frz c fs q4;exact⟨_,_,_,m1⟩,λb' o' h1 h2 h3=>?_⟩
       obtain⟨x',hx',hx0⟩:=htop' b' h1 aa;obtain⟨cs',t',fr',_,_,m3⟩:=h0.frz c fs q4;have:=m3 b' x' o' hx' h3;omega
     have hcell:∀{w':World},gP m σ0 H0 w0 w'->∀i,w'.cell? ⟨c,i,none⟩=w0.cell? ⟨c,i,none⟩:=λhw' i=>by
      have:=hw' c hclt.1 hclt.2;simp only[World.cell?,this]
     show fD P .any ops Q (gP m σ0 H0 w0) fl ((1,j,o)::fC ops (pl.map iZ)) a w;unfold fD;rw[if_pos hwant];refine⟨u,λw' hw'=>q6 w' (λi=>(hcell hw' i).trans (hcell hgw i).symm),?_⟩;exact nS h0 htop hp pl r hl2 hr (hE.put q5 hd) h hF hG' hz hzb hQ
   ·split at hr
    ·
     rename_i hk1 hk2;subst hk2;obtain⟨hpure,hr⟩:=hr;cases ak with
     |cl f args=>cases hpure
     |sn neg x=>cases hpure
     |mo x=>cases hpure
     |ap xx=>
      have hkind:xx.kind=2:=by simpa [jq] using hpure
      simp only[gK] at hr;split at hr;rotate_left
      ·exact hr.elim
      rename_i v H1 hrun;obtain⟨q1,u,q2,q3⟩:=tY (qO hk) hkind hE.er h hrun;subst q1;show fD P .any ops Q (gP m σ0 H0 w0) fl ((2,j,o)::fC ops (pl.map iZ)) a w;unfold fD;rw[if_pos hwant];exact⟨u,q3,nS h0 htop hp pl r hl2 hr (hE.put q2 hd) h hF hG' hz hzb hQ⟩
    ·rename_i hk1 hk2;have hu0:(iZ (k,j)).1=0:=by
      have:k=0\/k=3:=aa;rcases this with rfl|rfl<;>rfl
     rw[hu0];have hz':∀{σ1:Sg},(ly ak=false->σ1.fz=σ.fz)->(nc&& !ly ak)=true->σ1.fz=σ0.fz:=λh1 h2=>by
      simp only[apq,Bool.not_eq_true'] at h2;rw[h1 h2.2,hz h2.1]
     by_cases hk0:k=3
     ·subst hk0;obtain⟨s1,s2⟩:=hsee rfl;refine jZ s1 (jb hwant ?_);refine qF hk hE.er h hr λv H1 u w1 σ1 q0 q1 q2 q3 q5 q4=>?_;exact nS h0 htop hp pl r hl2 q0.2 ((hE.mono q3.ext).put q1 hd) q2 (hF.trans q3 h) (.inr s2) (hz' q4) (hzb.trans q5) hQ
     ·refine ma (jb hwant ?_);refine qF hk hE.er h hr λv H1 u w1 σ1 q0 q1 q2 q3 q5 q4=>?_;have hlow':m<=H1.low:=q0.1.resolve_left hk0;have hF1:=hF.trans q3 h;have hg1:=gP.of_fr hF1 hlow';exact⟨hg1,nS h0 htop hp pl r hl2 q0.2 ((hE.mono q3.ext).put q1 hd) q2 hF1 (.inl hg1) (hz' q4) (hzb.trans q5) hQ⟩
  ·replace hr:=hr.2 rfl
   obtain⟨hlow,hr⟩:=hr;have hwant:=iV hE.er hg hw;have hput:=hE.put (u:=undef) (v:= .tup []) (.tup rfl (λi v h=>by simp at h)) hd
   have next:=nS h0 htop hp pl r hl2 hr hput h hF hG' hz hzb hQ
   have:(iZ (k,j)).1=0\/(iZ (k,j)).1=1\/(iZ (k,j)).1=2:=by
    have:k=0\/k=1\/k=2\/k=3:=aa;rcases this with rfl|rfl|rfl|rfl<;>simp[iZ]
   rcases this with q|q|q<;>rw[q]
   ·have hskip:∀R:Exit->Act->World->Prop,R .normal (a.put o.dst undef) w->wpList P ops R [o] a w:=λR hR=>by
     unfold wpList;rw[hwant,if_neg ae];exact hR
    unfold fD;split
    ·exact hskip _ next
    ·rename_i hs;refine hskip _ ⟨?_,next⟩
     have:k=0\/k=1\/k=2\/k=3:=aa;rcases this with rfl|rfl|rfl|rfl
     ·exact gP.of_fr hF (hlow rfl)
     ·simp[iZ] at q
     ·simp[iZ] at q
     ·exact absurd (hsee rfl).1 hs
   ·exact dS
   ·exact dS
end
theorem rF{P:Program}{ops:Array Oper}{o:Oper}{a:Act}{w:World}{R:Exit->Act->World->Prop}(hw:Region.wanted o (yielded ops a.tmps)=false)(h:R .normal (a.put o.dst undef) w):wpList P ops R [o] a w:=by
 unfold wpList;rw[hw,if_neg ae];exact h
section
variable {P:Program} {B n m:Nat} {σ0:Sg} {H0:AH} {w0:World} {ops:Array Oper} {Q:Exit->Act->World->Prop}
theorem qE(h0:HR B σ0 H0 w0)(hp:∀c a w,¬Q (.panic c) a w):∀(T:PT) (T':AT) {σ:Sg} {e:Tr AV} {H:AH} {a:Act} {w:World} {Q':Tr AV->AH->Prop},um P n ops T=some T'->lj P m T' e H Q'->EN n σ e a->HR B σ H w->Fr B σ0 σ H0 H w0 w->ov B σ0 σ->
  (∀e' H' a' w' σ',Q' e' H'->EN n σ' e' a'->HR B σ' H' w'->Fr B σ0 σ' H0 H' w0 w'->ov B σ0 σ'->Q .normal a' w')->mH P ops Q (gP m σ0 H0 w0) T a w
 |.fin,T',σ,e,H,a,w,Q',hT,hr,hE,h,hF,hzb,hQ=>by
  simp only[um,apn] at hT;subst hT;exact hQ e H a w σ hr hE h hF hzb
 |.none,T',σ,e,H,a,w,Q',hT,hr,hE,h,hF,hzb,hQ=>trivial
 |.alt j r more,T',σ,e,H,a,w,Q',hT,hr,hE,h,hF,hzb,hQ=>by
  simp only[um] at hT;split at hT;rotate_left
  ·cases hT
  rename_i o ho;obtain⟨x,hx,hT⟩:=bM.1 hT;obtain⟨r',hr',hT⟩:=bM.1 hT;obtain⟨m',hm',rfl⟩:=apc.1 hT;unfold qa at hx;split at hx;rotate_left
  ·cases hx
  rename_i hd;obtain⟨g,hg,hx⟩:=bM.1 hx;obtain⟨ak,hk,rfl⟩:=apc.1 hx;obtain⟨hr1,hr2⟩:=hr;refine⟨?_,qE h0 hp more m' hm' hr2 hE h hF hzb hQ⟩;rw[ho];simp only;split at hr1;rotate_left
  ·exact hr1.elim
  rename_i t hw;have hwant:=iV hE.er hg hw;cases t;rotate_left
  ·replace hr1:=hr1.1 rfl
   refine jb hwant (qF hk hE.er h hr1 λv H1 u w1 σ1 q0 q1 q2 q3 q5 q4=>?_);have hF1:=hF.trans q3 h;exact⟨gP.of_fr hF1 q0.1,qE h0 hp r r' hr' q0.2 ((hE.mono q3.ext).put q1 hd) q2 hF1 (hzb.trans q5) hQ⟩
  ·replace hr1:=hr1.2 rfl
   refine rF hwant ?_;exact⟨gP.of_fr hF hr1.1,qE h0 hp r r' hr' hr1.2 (hE.put (u:=undef) (.tup rfl (λi v h=>by simp at h)) hd) h hF hzb hQ⟩
end
/-! ### code-/
def GW(P:Program)(n:Nat)(c:Code)(e:Tr AV)(H:AH)(Q:AE->Tr AV->AH->Prop):Prop:=
 ∀(B:Nat) (σ:Sg) (a:Act) (w:World) (R:Exit->Act->World->Prop),EN n σ e a->HR B σ H w->(∀c a w,¬R (.panic c) a w)->
  (∀x e' H' a' w' σ',Q x e' H'->EN n σ' e' a'->HR B σ' H' w'->Below B w w'->ov B σ σ'->R x.to a' w')->c.wp P R a w
def GA(P:Program)(n:Nat)(hints:gN)(ac:AC)(e:Tr AV)(H:AH)(Q:AE->Tr AV->AH->Prop):Prop:=∀c,ji P n hints c=some ac->GW P n c e H Q
def Wk(n:Nat)(e:Tr AV)(H:AH)(e2:Tr AV)(H2:AH):Prop:=∀(B:Nat) (σ:Sg) (a:Act) (w:World),EN n σ e a->HR B σ H w->∃σ2,EN n σ2 e2 a/\HR B σ2 H2 w/\ov B σ σ2
section
variable {P:Program} {n:Nat} {hints:gN} {e:Tr AV} {H:AH} {Q:AE->Tr AV->AH->Prop}
theorem Wk.refl:Wk n e H e H:=λB σ a w h1 h2=>⟨σ,h1,h2,.refl _ _⟩
theorem Wk.trans{e1 e2:Tr AV}{H1 H2:AH}(h:Wk n e H e1 H1)(h':Wk n e1 H1 e2 H2):Wk n e H e2 H2:=λB σ a w h1 h2=>by
 obtain⟨σ1,k1,k2,k3⟩:=h B σ a w h1 h2;obtain⟨σ2,m1,m2,m3⟩:=h' B σ1 a w k1 k2;exact⟨σ2,m1,m2,k3.trans m3⟩
theorem GA.wk{ac:AC}{e2:Tr AV}{H2:AH}(hw:Wk n e H e2 H2)(h:GA P n hints ac e2 H2 Q):GA P n hints ac e H Q:=λc hc B σ a w R hE hH hp hR=>by
 obtain⟨σ2,k1,k2,k3⟩:=hw B σ a w hE hH;exact h c hc B σ2 a w R k1 k2 hp (λx e' H' a' w' σ' q m1 m2 m3 m4=>hR x e' H' a' w' σ' q m1 m2 m3 (k3.trans m4))
theorem GA.mono{ac:AC}{Q':AE->Tr AV->AH->Prop}(h:GA P n hints ac e H Q)(hq:∀x e H,Q x e H->Q' x e H):GA P n hints ac e H Q':=λc hc B σ a w R hE hH hp hR=>
 h c hc B σ a w R hE hH hp (λx e' H' a' w' σ' q=>hR x e' H' a' w' σ' (hq _ _ _ q))
def an4(P:Program)(n:Nat)(hints:gN)(c:Code)(ac:AC):Prop:=match ac with
 |.skip=>c= .skip
 |.exit id=>c= .exit id
 |.ret=>c= .ret
 |.seq x y=>∃a b,c= .seq a b/\ji P n hints a=some x/\ji P n hints b=some y
 |.cond cc x y=>∃o a b,c= .cond o a b/\fF o=some cc/\ji P n hints a=some x/\ji P n hints b=some y
 |.block id x=>∃b,c= .block id b/\ji P n hints b=some x
 |.loop x=>∃b,c= .loop b/\ji P n hints b=some x
 |.reg l=>∃id ops,c= .region id ops false/\mD P n ops ops.toList=some l
 |.mix l=>∃id ops fl pu pl,c= .region id ops true/\zw .any ops fl pu (pl.map iZ)=true/\kO P n ops fl pl=some l
 |.frk l T'=>∃id ops fl pu pl T,c= .region id ops true/\Bc .any ops fl pu pl T=true/\pl.all (λp=>p.1==1||p.1==2)=true/\kO P n ops fl pl=some l/\um P n ops T=some T'
 |.rf g p1 p2 x y=>∃go asg body,c= .rangeFunc go #[p1,p2] asg body/\fF go=some g/\ji P n hints asg=some x/\ji P n hints body=some y/\p1<n/\p2<n
 |.mxl _=>True
 |.dfr l f as=>∃id ops,c= .region id ops false/\anW P n ops ops.toList=some (l,f,as)
 |.die=>True
theorem gJ{c:Code}{ac:AC}(h:ji P n hints c=some ac):an4 P n hints c ac:=by
 cases c with
 |skip=>simp only[ji,apn] at h;subst h;exact rfl
 |exit id=>simp only[ji,apn] at h;subst h;exact rfl
 |ret=>simp only[ji,apn] at h;subst h;exact rfl
 |region id ops dr=>
  simp only[ji,apn] at h;cases hc0:xq P n hints id ops dr with
  |none=>rw[hc0] at h;subst h;exact True.intro
  |some ac0=>
  rw[hc0] at h;have e0:ac0=ac:=h;subst e0;clear h;have h:=hc0;clear hc0;unfold xq at h;split at h
  ·rename_i hd;subst hd;split at h
   ·rename_i fl pu pl hh;split at h;rotate_left
    ·cases h
    rename_i hB;split at h
    ·rename_i l' hl;cases h;exact⟨id,ops,fl,pu,pl,rfl,hB,hl⟩
    ·obtain⟨l',hl,rfl⟩:=apc.1 h;exact True.intro
   ·rename_i fl pu pl T hh;split at h;rotate_left
    ·cases h
    rename_i hB;obtain⟨l',hl,h⟩:=bM.1 h;obtain⟨T',hT,rfl⟩:=apc.1 h;exact⟨id,ops,fl,pu,pl,T,rfl,hB.1,hB.2,hl,hT⟩
   ·cases h
  ·rename_i hd;have:dr=false:=by simpa using hd
   subst this;split at h
   ·rename_i l' hl;cases h;exact⟨id,ops,rfl,hl⟩
   ·obtain⟨⟨l',f,as⟩,hl,rfl⟩:=apc.1 h;exact⟨id,ops,rfl,hl⟩
 |seq a b=>
  simp only[ji] at h;obtain⟨x,h1,h⟩:=bM.1 h;obtain⟨y,h2,rfl⟩:=apc.1 h;exact⟨a,b,rfl,h1,h2⟩
 |cond o a b=>
  simp only[ji] at h;obtain⟨cc,h0,h⟩:=bM.1 h;obtain⟨x,h1,h⟩:=bM.1 h;obtain⟨y,h2,rfl⟩:=apc.1 h;exact⟨o,a,b,rfl,h0,h1,h2⟩
 |block id b=>
  simp only[ji] at h;obtain⟨x,h1,rfl⟩:=apc.1 h;exact⟨b,rfl,h1⟩
 |loop b=>
  simp only[ji] at h;obtain⟨x,h1,rfl⟩:=apc.1 h;exact⟨b,rfl,h1⟩
 |rangeFunc g ps asg body=>
  simp only[ji] at h;obtain⟨g1,h1,h⟩:=bM.1 h;obtain⟨x1,h2,h⟩:=bM.1 h;obtain⟨y1,h3,h⟩:=bM.1 h;unfold rfA at h;split at h
  ·split at h
   ·rename_i hp;cases h;exact⟨g,asg,body,rfl,h1,h2,h3,hp.1,hp.2⟩
   ·cases h
  ·cases h
 |_=>simp[ji] at h
theorem GA.skip(h:Q .normal e H):GA P n hints .skip e H Q:=λc hc B σ a w R hE hH hp hR=>by
 obtain rfl:=gJ hc;exact wp_skip (hR .normal e H a w σ h hE hH (Below.refl _ _) (.refl _ _))
theorem GA.exit{i:Nat}(h:Q (.exit i) e H):GA P n hints (.exit i) e H Q:=λc hc B σ a w R hE hH hp hR=>by
 obtain rfl:=gJ hc;exact wp_exit (hR (.exit i) e H a w σ h hE hH (Below.refl _ _) (.refl _ _))
theorem GA.ret(h:Q .ret e H):GA P n hints .ret e H Q:=λc hc B σ a w R hE hH hp hR=>by
 obtain rfl:=gJ hc;exact wp_ret (hR .ret e H a w σ h hE hH (Below.refl _ _) (.refl _ _))
def mq(K:Tr AV->AH->Prop)(Q:AE->Tr AV->AH->Prop):AE->Tr AV->AH->Prop
 |.normal,e,H=>K e H
 |x,e,H=>Q x e H
theorem GA.seq{x y:AC}(h:GA P n hints x e H (mq (λe' H'=>GA P n hints y e' H' Q) Q)):GA P n hints (.seq x y) e H Q:=λc hc B σ a w R hE hH hp hR=>by
 obtain⟨ca,cb,rfl,h1,h2⟩:=gJ hc;refine wp_seq ?_;refine h ca h1 B σ a w _ hE hH (λc a w hq=>hp c a w hq) (λx' e' H' a' w' σ' q k1 k2 k3 k4=>?_);cases x' with
 |normal=>exact q cb h2 B σ' a' w' R k1 k2 hp (λx e' H' a'' w'' σ'' q' m1 m2 m3 m4=>hR x e' H' a'' w'' σ'' q' m1 m2 (k3.trans m3) (k4.trans m4))
 |exit i=>exact hR (.exit i) e' H' a' w' σ' q k1 k2 k3 k4
 |ret=>exact hR .ret e' H' a' w' σ' q k1 k2 k3 k4
theorem GA.cond{cc:AX}{x y:AC}{t:Bool}(hc:cc.ev e=some (.b t))(h1:t=true->GA P n hints x e H Q)(h2:t=false->GA P n hints y e H Q):GA P n hints (.cond cc x y) e H Q:=λc hcc B σ a w R hE hH hp hR=>by
 obtain⟨o,ca,cb,rfl,h0,g1,g2⟩:=gJ hcc;cases t with
 |true=>exact wp_cond_true (FG h0 hE.er hc) (h1 rfl ca g1 B σ a w R hE hH hp hR)
 |false=>exact wp_cond_false (FG h0 hE.er hc) (h2 rfl cb g2 B σ a w R hE hH hp hR)
def pZ(id:Nat)(Q:AE->Tr AV->AH->Prop):AE->Tr AV->AH->Prop
 |.exit i,e,H=>if i=id then Q .normal e H else Q (.exit i) e H
 |x,e,H=>Q x e H
theorem GA.block{id:Nat}{x:AC}(h:GA P n hints x e H (pZ id Q)):GA P n hints (.block id x) e H Q:=λc hc B σ a w R hE hH hp hR=>by
 obtain⟨b,rfl,h1⟩:=gJ hc;refine wp_block ?_;refine h b h1 B σ a w _ hE hH (λc a w hq=>hp c a w hq) (λx' e' H' a' w' σ' q k1 k2 k3 k4=>?_);cases x' with
 |normal=>exact hR .normal e' H' a' w' σ' q k1 k2 k3 k4
 |exit i=>
  show if i=id then R .normal a' w' else R (.exit i) a' w'
  by_cases hi:i=id
  ·rw[if_pos hi];refine hR .normal e' H' a' w' σ' ?_ k1 k2 k3 k4;have q':if i=id then Q .normal e' H' else Q (.exit i) e' H':=q
   rwa [if_pos hi] at q'
  ·rw[if_neg hi];refine hR (.exit i) e' H' a' w' σ' ?_ k1 k2 k3 k4;have q':if i=id then Q .normal e' H' else Q (.exit i) e' H':=q
   rwa [if_neg hi] at q'
 |ret=>exact hR .ret e' H' a' w' σ' q k1 k2 k3 k4
theorem GA.reg{l:List AO}(h:nT P l e H (λe' H'=>Q .normal e' H')):GA P n hints (.reg l) e H Q:=λc hc B σ a w R hE hH hp hR=>by
 obtain⟨id,ops,rfl,hl⟩:=gJ hc;refine wp_region_list (sE _ _ hl h hE hH (.refl _ σ) (λe' H' a' w' σ' q k1 k2 k3 k4=>hR .normal e' H' a' w' σ' q k1 k2 k3.bel k4))
theorem GA.mix(hm:P.follows .mixedOrders=true)(m:Nat){l:List (Nat×AO)}(htop:g8 H m (H.next-m))(h:l9 P {H with low:=2^40} m true l e {H with low:=2^40} (λe' H'=>Q .normal e' {H' with low:=min H.low H'.low})):GA P n hints (.mix l) e H Q:=λc hc B σ a w R hE hH hp hR=>by
 obtain⟨id,ops,fl,pu,pl,rfl,hB,hl⟩:=gJ hc;have hops:ops=ops.toList.toArray:=ae;rw[hops];rw[hops] at hB;have hd:HR B σ {H with low:=2^40} w.drew:=⟨hH.new,hH.newl,hH.old,hH.small,hH.hB,hH.nil,hH.nilp,hH.blk,hH.szs,hH.inj,hH.frz,hH.ob.of_eq rfl⟩;refine mG (gP m σ {H with low:=2^40} w.drew) fl pu (pl.map iZ) hm hB (λc a d v w hq=>(hp _ _ _ hq).elim) (gP.refl _ _ _ _) ?_;rw[<-hops];have htop':g8 {H with low:=2^40} m (AH.next {H with low:=2^40}-m):=by
  have key:∀(k m:Nat),g8 H m k->g8 {H with low:=2^40} m k:=by
   intro k;induction k with
   |zero=>intro m _;trivial
   |succ k ih=>intro m h;exact⟨h.1,ih _ h.2⟩
  exact key _ _ htop
 refine nS hd htop' hp pl l hl h hE hd (Fr.refl hd) (.inl (gP.refl _ _ _ _)) (λ_=>rfl) (.refl _ _) (λe' H' a' w' σ' q q1 q2 q3 q4=>?_);exact hR .normal e' _ a' w' σ' q q1 (q2.relow _) ((Below.refl _ _).drew.trans q3.bel) q4
theorem GA.frk(hm:P.follows .mixedOrders=true)(m:Nat){l:List (Nat×AO)}{T:AT}(htop:g8 H m (H.next-m))(h:l9 P {H with low:=2^40} m true l e {H with low:=2^40} (λe' H'=>lj P m T e' H' (λe' H'=>Q .normal e' {H' with low:=min H.low H'.low}))):GA P n hints (.frk l T) e H Q:=λc hc B σ a w R hE hH hp hR=>by
 obtain⟨id,ops,fl,pu,pl,T0,rfl,hB,hk,hl,hT⟩:=gJ hc;have hops:ops=ops.toList.toArray:=ae;rw[hops];rw[hops] at hB;have hd:HR B σ {H with low:=2^40} w.drew:=⟨hH.new,hH.newl,hH.old,hH.small,hH.hB,hH.nil,hH.nilp,hH.blk,hH.szs,hH.inj,hH.frz,hH.ob.of_eq rfl⟩;have hunk:pl.map iZ=pl:=by
  have:∀p ∈ pl,iZ p=p:=λp hp=>by
   have:=apr.1 hk p hp;obtain⟨k,j⟩:=p;simp only[ap5,beq_iff_eq] at this;rcases this with rfl|rfl<;>rfl
  rw[List.map_congr_left this,List.map_id']
 refine n9 (gP m σ {H with low:=2^40} w.drew) fl pu pl T0 hm hB (λc a d v w hq=>(hp _ _ _ hq).elim) (gP.refl _ _ _ _) ?_;rw[<-hops,<-hunk];have htop':g8 {H with low:=2^40} m (AH.next {H with low:=2^40}-m):=by
  have key:∀(k m:Nat),g8 H m k->g8 {H with low:=2^40} m k:=by
   intro k;induction k with
   |zero=>intro m _;trivial
   |succ k ih=>intro m h;exact⟨h.1,ih _ h.2⟩
  exact key _ _ htop
 refine nS (Q:=Exit.then (mH P ops R (gP m σ {H with low:=2^40} w.drew) T0) R) hd htop' (λc a w hq=>hp c a w hq) pl l hl h hE hd (Fr.refl hd) (.inl (gP.refl _ _ _ _)) (λ_=>rfl) (.refl _ _) (λe' H' a' w' σ' q q1 q2 q3 q4=>?_)
 refine qE hd hp T0 T hT q q1 q2 q3 q4 (λe' H' a' w' σ' q q1 q2 q3 q4=>?_);exact hR .normal e' _ a' w' σ' q q1 (q2.relow _) ((Below.refl _ _).drew.trans q3.bel) q4
def DU(n:Nat)(I:Nat->Tr AV->AH->Prop)(Q:AE->Tr AV->AH->Prop)(m:Nat):AE->Tr AV->AH->Prop
 |.normal,e,H=>∃m' e2 H2,m'<m/\Wk n e H e2 H2/\I m' e2 H2
 |x,e,H=>Q x e H
theorem GA.loop{x:AC}(I:Nat->Tr AV->AH->Prop){m:Nat}{e0:Tr AV}{H0:AH}(hw:Wk n e H e0 H0)(hi:I m e0 H0)(h:∀m e H,I m e H->GA P n hints x e H (DU n I Q m)):GA P n hints (.loop x) e H Q:=λc hc B σ a w R hE hH hp hR=>by
 obtain⟨b,rfl,h1⟩:=gJ hc;refine wp_loop_rounds (m+1) ?_;have key:∀(k m:Nat) {e:Tr AV} {H:AH} {e0:Tr AV} {H0:AH} {σ:Sg} {a:Act} {w:World},m<k->Wk n e H e0 H0->I m e0 H0->EN n σ e a->HR B σ H w->
   (∀x e' H' a' w' σ',Q x e' H'->EN n σ' e' a'->HR B σ' H' w'->Below B w w'->ov B σ σ'->R x.to a' w')->Code.rounds P b R k a w:=by
  intro k;induction k with
  |zero=>intro m e H e0 H0 σ a w hlt;omega
  |succ k ih=>
   intro m e H e0 H0 σ a w hlt hw hi hE hH hR;rw[rounds_succ];obtain⟨σ2,k1,k2,k3⟩:=hw B σ a w hE hH;refine h m e0 H0 hi b h1 B σ2 a w _ k1 k2 (λc a w hq=>hp c a w hq) (λx' e' H' a' w' σ' q m1 m2 m3 m4=>?_);cases x' with
   |normal=>
    obtain⟨m',e2,H2,hlt2,hw2,hi2⟩:=q;exact ih m' aa hw2 hi2 m1 m2 (λx e' H' a'' w'' σ'' q' p1 p2 p3 p4=>hR x e' H' a'' w'' σ'' q' p1 p2 (m3.trans p3) ((k3.trans m4).trans p4))
   |exit i=>exact hR (.exit i) e' H' a' w' σ' q m1 m2 m3 (k3.trans m4)
   |ret=>exact hR .ret e' H' a' w' σ' q m1 m2 m3 (k3.trans m4)
 exact key (m+1) m aa hw hi hE hH hR
end
abbrev o1(d:Nat)(x:AP):AO:=⟨some d,none,.ap x⟩
abbrev o2(d:Nat)(g:FuncId)(l:List AX):AO:=⟨some d,none,.cl (.c (.f g [] [])) l⟩
abbrev o3(x:AP):AO:=⟨none,none,.ap x⟩
abbrev o4(d g:Nat)(x:AP):AO:=⟨some d,some (g,false),.ap x⟩
abbrev o5(d g:Nat)(x:AP):AO:=⟨some d,some (g,true),.ap x⟩
abbrev mt(d s:Nat):AO:=⟨some d,none,.ap (.mv (.t s))⟩
abbrev ci(n:Int):AX:= .c (.n .i64 n)
abbrev aw(d s:Nat):AO:=⟨some d,none,.ap (.ld 1 false (.t s))⟩
abbrev ax(d k s:Nat):AO:=⟨some d,none,.ap (.ld k true (.t s))⟩
abbrev ay(d i s:Nat):AO:=⟨some d,none,.ap (.fa i (.t s))⟩
abbrev az(d s:Nat):AO:=⟨some d,none,.ap (.len (.t s))⟩
abbrev aA(d i s:Nat):AO:=⟨some d,none,.ap (.ext i (.t s))⟩
abbrev aB(d k a b:Nat):AO:=⟨some d,none,.ap (.ia k (.t a) (.t b))⟩
abbrev aC(d:Nat)(o:BinOp)(a:Nat)(c:Int):AO:=⟨some d,none,.ap (.bin o (.t a) (ci c))⟩
abbrev aD(d:Nat)(o:BinOp)(a b:Nat):AO:=⟨some d,none,.ap (.bin o (.t a) (.t b))⟩
abbrev aE(d:Nat)(c:Int):AO:=⟨some d,none,.ap (.mv (ci c))⟩
abbrev aF(d y k s:Nat):AO:=⟨some d,none,.ap (.bx y k (.t s))⟩
abbrev aG(d a b:Nat):AO:=⟨some d,none,.ap (.pick (.t a) (.c (.b true)) (.t b))⟩
abbrev aI(d a b:Nat):AO:=⟨some d,none,.ap (.pick (.t a) (.t b) (.c (.b false)))⟩
abbrev aJ(k a b:Nat):AO:=⟨none,none,.ap (.st k (.t a) (.t b))⟩
abbrev aK(d:Nat):AO:=⟨some d,none,.ap (.mv (.c .sl0))⟩
abbrev aM(x:List AO)(y:AC):AC:=.seq (.reg x) y
abbrev aN(a:List AO)(k:Nat)(b:List AO)(y:AC):AC:=.seq (.seq (.reg a) (.cond (.t k) (.seq (.reg b) .ret) .skip)) y
abbrev aO(d s:Nat):AO:=⟨some d,none,.ap (.nc (.t s))⟩
section
variable {H:AH}{B:Nat}{σ:Sg}{w:World}
/-! ### values without names-/
theorem gn.map{σ':Sg}{l:List AV}{cs:List Value}(h:gn σ l cs)(hm:∀v ∈ l,∀u,VR σ v u->VR σ' v u):gn σ' l cs:=
 ⟨h.1,λi v hv=>hm v (apB hv) _ (h.2 i v hv)⟩
theorem VR.pure:∀(k:Nat) {v:AV} {x:Value},v.pu k=true->VR σ v x->VR σ.bare v x
 |k,v,x,hp,h=>by
  cases h with
  |u _=>cases k<;>simp[AV.pu] at hp
  |b x=>exact .b x
  |n k x=>exact .n k x
  |s x=>exact .s x
  |p0=>exact .p0
  |p h=>cases k<;>simp[AV.pu] at hp
  |sl0 a=>exact .sl0 a
  |sl h=>cases k<;>simp[AV.pu] at hp
  |slo h hc h0=>cases k<;>simp[AV.pu] at hp
  |f0=>exact .f0
  |f n1 h1 n2 h2=>
   cases k with
   |zero=>simp[AV.pu] at hp
   |succ k=>
    simp only[AV.pu,apq,apr] at hp;exact .f n1 (λi v hv=>VR.pure k (hp.1 v (apB hv)) (h1 i v hv)) n2 (λi v hv=>VR.pure k (hp.2 v (apB hv)) (h2 i v hv))
  |agg hl hh=>
   cases k with
   |zero=>simp[AV.pu] at hp
   |succ k=>
    simp only[AV.pu,apr] at hp;exact .agg hl (λi v hv=>VR.pure k (hp v (apB hv)) (hh i v hv))
  |cv _ hv=>exact .cv _ hv
  |tup hl hh=>
   cases k with
   |zero=>simp[AV.pu] at hp
   |succ k=>
    simp only[AV.pu,apr] at hp;exact .tup hl (λi v hv=>VR.pure k (hp v (apB hv)) (hh i v hv))
  |fs0 esz row a cap=>exact .fs0 esz row a cap
  |fs hz hb h1 h2 cap hcap=>exact .fs (σ:=σ.bare) hz hb h1 h2 cap hcap
  |fp hz hb h1 h2 j=>exact .fp (σ:=σ.bare) hz hb h1 h2 j
  |bx hz hb h1 h2=>exact .bx (σ:=σ.bare) hz hb h1 h2
  |ow h=>exact .ow h
  |fw0 esz row a cap=>exact .fw0 esz row a cap
  |fw hz hb h1 h2 cap=>exact .fw (σ:=σ.bare) hz hb h1 h2 cap
  |mh h=>cases k<;>simp[AV.pu] at hp
  |os0 h a=>cases k<;>simp[AV.pu] at hp
  |os h hl=>cases k<;>simp[AV.pu] at hp
theorem VR.cell{v:AV}{u:Value}(hp:v.cell=true)(h:VR σ v u):VR σ.bare v u:=by
 simp only[AV.cell,apq] at hp;exact h.pure 3 hp.1
/-! ### freezing-/
def AH.mark(H:AH)(b:Nat):AH:=match H.at b with
 |some x=>{H with blks:=Tr.set 48 H.blks b {x with fzn:=max x.size x.fzn}}
 |none=>H
def gF(H:AH):List Nat->AH
 |[]=>H
 |b::l=>gF (H.mark b) l
theorem AH.mark_next(H:AH)(b:Nat):(H.mark b).next=H.next:=by unfold AH.mark;split<;>rfl
theorem AH.mark_ob(H:AH)(b:Nat):(H.mark b).ob=H.ob:=by unfold AH.mark;split<;>rfl
theorem AH.mark_mp(H:AH)(b:Nat):(H.mark b).mp=H.mp:=by unfold AH.mark;split<;>rfl
theorem AH.mark_low(H:AH)(b:Nat):(H.mark b).low=H.low:=by unfold AH.mark;split<;>rfl
theorem AH.at_mark{b b':Nat}(hb:b<2^40):(H.mark b).at b'=if b'=b then(H.at b).map (λx=>{x with fzn:=max x.size x.fzn}) else H.at b':=by
 unfold AH.mark;cases hx:H.at b with
 |none=>
  simp only;by_cases e:b'=b
  ·subst e;rw[if_pos rfl,hx];rfl
  ·rw[if_neg e]
 |some x=>
  have hl:x.live=true:=by
   unfold AH.at at hx;split at hx
   ·split at hx
    ·rename_i hl;cases hx;exact hl
    ·cases hx
   ·cases hx
  simp only;rw[AH.at_put _ _ _ _ _ _ _ _ hb];by_cases e:b'=b
  ·rw[if_pos e,if_pos e];simp[hl]
  ·rw[if_neg e,if_neg e]
def wo(σ:Sg)(H:AH)(w:World)(b:Nat):Prop:=∀x c o,H.at b=some x->σ b=some (c,o)->∃cs fs,w.heap[c]? =some (.cells cs x.ty (0,0))/\σ.fz c=some fs/\oq fs cs/\x.size<=fs.size
theorem HR.markE(h:HR B σ H w)(b:Nat):
  ∃σ2,(∀c,(∀b o,σ b≠some (c,o))->σ2.fz c=σ.fz c)/\σ.le σ2/\σ2.nm=σ.nm/\σ2.nl=σ.nl/\ov B σ σ2/\(∀c,w.heap.size<=c->σ2.fz c=σ.fz c)/\HR B σ2 (H.mark b) w/\wo σ2 H w b:=by
 cases hx:H.at b with
 |none=>
  have e:H.mark b=H:=by unfold AH.mark;rw[hx]
  rw[e];exact⟨σ,λ_ _=>rfl,σ.le_refl,rfl,rfl,.refl _ _,λ_ _=>rfl,h,λx c o hx'=>by rw[hx] at hx';cases hx'⟩
 |some x=>
  have hbn:=AH.at_lt h hx;have hsm:=h.small;have hat:∀b' y,(H.mark b).at b'=some y->∃y0,H.at b'=some y0/\y.size=y0.size/\y.esz=y0.esz/\y.ty=y0.ty/\y.opn=y0.opn/\(∀i,y.get i=y0.get i)/\y0.fzn<=y.fzn/\(b'=b->y.fzn=max x.size x.fzn):=by
   intro b' y hy;rw[AH.at_mark aa] at hy;by_cases e:b'=b
   ·subst e;rw[if_pos rfl,hx] at hy;simp only[Option.map_some,apn] at hy;subst hy;exact⟨x,hx,rfl,rfl,rfl,rfl,λ_=>rfl,Nat.le_max_right _ _,λ_=>rfl⟩
   ·rw[if_neg e] at hy;exact⟨y,hy,rfl,rfl,rfl,rfl,λ_=>rfl,bL _,λe'=>absurd e' e⟩
  have base:∀σ2:Sg,σ.le σ2->σ2.nm=σ.nm->σ2.nl=σ.nl->(∀c fs,σ2.fz c=some fs->∃cs t fr,w.heap[c]? =some (.cells cs t fr)/\oq fs cs/\∀b' y o,(H.mark b).at b'=some y->σ b'=some (c,o)->fs.size<=y.fzn)->HR B σ2 (H.mark b) w:=by
   intro σ2 hle hnm hnl hfz;refine⟨λb' hb'=>?_,λb' hb'=>?_,λb' hb'=>?_,by rw[AH.mark_next];exact h.small,h.hB,λb' y hy hs=>?_,λb' hb'=>?_,λb' y c o hy hs=>?_,λb' y hy=>?_,λb1 b2 y1 y2 c o1 o2 k1 k2 k3 k4=>?_,λc fs hf=>?_,by rw[AH.mark_ob,AH.mark_mp];exact h.ob.mono hle⟩
   ·rw[AH.mark_next] at hb';rw[hnm];exact h.new b' hb'
   ·rw[AH.mark_next] at hb';rw[hnl];exact h.newl b' hb'
   ·rw[AH.mark_next] at hb';cases hy:(H.mark b).at b' with
    |none=>rfl
    |some y=>
     obtain⟨y0,e1,_⟩:=hat b' y hy;rw[h.old b' hb'] at e1;cases e1
   ·obtain⟨y0,e1,e2,e3,e4,e5,e6,e7,_⟩:=hat b' y hy;rw[hnm] at hs;obtain⟨p1,p2,p3⟩:=h.nil b' y0 e1 hs;exact⟨by rw[e2];exact p1,by rw[e5];exact p2,by rw[hnl];exact p3⟩
   ·rw[hnl] at hb';rw[hnm];exact h.nilp b' hb'
   ·obtain⟨y0,e1,e2,e3,e4,e5,e6,e7,_⟩:=hat b' y hy;rw[hnm] at hs;obtain⟨cs,p1,p2,p3⟩:=h.blk b' y0 c o e1 hs;refine⟨cs,p1,by rw[e4];exact p2,⟨by rw[e2];exact p3.sz,λq=>by rw[e2];exact p3.ex q,λk hk=>by rw[e3];exact p3.op k hk,by rw[e5];exact p3.ob,λi hi=>?_⟩⟩
    rw[e6];exact(p3.cell i (by rw[<-e2];exact hi)).mono hle
   ·exact aqP
   ·obtain⟨y01,e1,_⟩:=hat b1 y1 k1;obtain⟨y02,e2,_⟩:=hat b2 y2 k2;rw[hnm] at k3 k4;exact h.inj b1 b2 y01 y02 c o1 o2 e1 e2 k3 k4
   ·obtain⟨cs,t,fr,p1,p2,p3⟩:=hfz c fs hf;exact⟨cs,t,fr,p1,p2,λb' y o hy hs=>p3 b' y o hy (by rw[hnm] at hs;exact hs)⟩
  have keepz:∀c fs,σ.fz c=some fs->∃cs t fr,w.heap[c]? =some (.cells cs t fr)/\oq fs cs/\∀b' y o,(H.mark b).at b'=some y->σ b'=some (c,o)->fs.size<=y.fzn:=λc fs hf=>by
   obtain⟨cs,t,fr,p1,p2,p3⟩:=h.frz c fs hf;refine⟨cs,t,fr,p1,p2,λb' y o hy hs=>?_⟩;obtain⟨y0,e1,_,_,_,_,_,e7,_⟩:=hat b' y hy;have:=p3 b' y0 o e1 hs;omega
  cases hs:σ b with
  |none=>
   refine⟨σ,λ_ _=>rfl,σ.le_refl,rfl,rfl,.refl _ _,λ_ _=>rfl,base σ σ.le_refl rfl rfl keepz,λx' c o hx' hs'=>by rw[hs] at hs';cases hs'⟩
  |some p=>
   obtain⟨c,o⟩:=p;obtain⟨cs,p1,p2,p3⟩:=h.blk b x c o hx hs;have hclt:c<w.heap.size:=(apo.1 p2).1;let m:=max x.size x.fzn;let σ2:Sg:={σ with fz:=λk=>if k=c then some (cs.extract 0 m) else σ.fz k}
   have hpre:oq (cs.extract 0 m) cs:=⟨by rw[Array.size_extract];omega,λi hi=>by
    rw[Array.getElem?_extract];simp at hi;simp;omega⟩
   have hle:σ.le σ2:=⟨λ_ _ hh=>hh,λ_ hh=>hh,λk fs hf=>by
    by_cases e:k=c
    ·subst e;obtain⟨cs',t',fr',q1,q2,q3⟩:=h.frz k fs hf;rw[p2] at q1;cases q1;have hfs:=q3 b x o hx hs;refine⟨cs.extract 0 m,if_pos rfl,?_,λi hi=>?_⟩
     ·have:=q2.1;simp[m];omega
     ·rw[<-q2.2 i hi,Array.getElem?_extract];have:fs.size<=m:=by simp[m];omega
      simp;omega
    ·exact⟨fs,by show(if k=c then _ else σ.fz k)=_;rw[if_neg e];exact hf,oq.refl _⟩⟩
   refine⟨σ2,λk hk=>if_neg (λe=>hk b o (by rw[e];exact hs)),hle,rfl,rfl,⟨λk hk=>if_neg aa,hle.fz⟩,λk hk=>if_neg aa,base σ2 hle rfl rfl (λk fs hf=>?_),λx' c' o' hx' hs'=>?_⟩
   ·have hf':(if k=c then some (cs.extract 0 m) else σ.fz k)=some fs:=hf
    by_cases e:k=c
    ·subst e;rw[if_pos rfl] at hf';cases hf';refine⟨cs,x.ty,(0,0),p2,hpre,λb' y o1 hy hs1=>?_⟩;obtain⟨y0,e1,_,_,_,_,_,_,e8⟩:=hat b' y hy;have hb:b'=b:=h.inj b' b y0 x k o1 o e1 hx hs1 hs;rw[e8 hb];simp only[Array.size_extract];exact apj (Nat.sub_le _ _) (Nat.min_le_left _ _)
    ·rw[if_neg e] at hf';exact keepz k fs hf'
   ·rw[hx] at hx';cases hx';have hs'':σ b=some (c',o'):=hs';rw[hs] at hs'';cases hs'';refine⟨cs,cs.extract 0 m,p2,if_pos rfl,hpre,?_⟩;have:=p3.sz;simp[m];omega
theorem HR.mark(h:HR B σ H w)(b:Nat):
  ∃σ2,σ.le σ2/\σ2.nm=σ.nm/\σ2.nl=σ.nl/\ov B σ σ2/\(∀c,w.heap.size<=c->σ2.fz c=σ.fz c)/\HR B σ2 (H.mark b) w/\wo σ2 H w b:=by
 obtain⟨σ2,_,r⟩:=h.markE b;exact⟨σ2,r⟩
theorem HR.marksE:∀(M:List Nat) {σ:Sg} {H:AH},HR B σ H w->
  ∃σ2,(∀c,(∀b o,σ b≠some (c,o))->σ2.fz c=σ.fz c)/\σ.le σ2/\σ2.nm=σ.nm/\σ2.nl=σ.nl/\ov B σ σ2/\(∀c,w.heap.size<=c->σ2.fz c=σ.fz c)/\HR B σ2 (gF H M) w/\∀b ∈ M,wo σ2 H w b
 |[],σ,H,h=>⟨σ,λ_ _=>rfl,σ.le_refl,rfl,rfl,.refl _ _,λ_ _=>rfl,h,λb hb=>by cases hb⟩
 |b::M,σ,H,h=>by
  obtain⟨σ1,q0,q1,q2,q3,q4,q4',q5,q6⟩:=h.markE b;obtain⟨σ2,p0,p1,p2,p3,p4,p4',p5,p6⟩:=HR.marksE M q5;have hsm:=h.small;refine⟨σ2,λc hc=>(p0 c (λb o=>by rw[q2];exact hc b o)).trans (q0 c hc),q1.trans p1,p2.trans q2,p3.trans q3,q4.trans p4,λc hc=>(p4' c hc).trans (q4' c hc),p5,λb' hb'=>?_⟩
  have up:wo σ1 H w b'->wo σ2 H w b':=λhh x c o hx hs=>by
   rw[p2] at hs;obtain⟨cs,fs,e1,e2,e3,e4⟩:=hh x c o hx hs;obtain⟨fs',e5,e6⟩:=p1.fz c fs e2;obtain⟨cs',t',fr',m1,m2,_⟩:=p5.frz c fs' e5;rw[e1] at m1;cases m1;exact⟨cs,fs',e1,e5,m2,apj e4 e6.1⟩
  rcases apv.1 hb' with rfl|hb'
  ·exact up q6
  ·intro x c o hx hs;by_cases hbn:b<2^40
   ·have hx1:∃y,(H.mark b).at b'=some y/\y.size=x.size/\y.ty=x.ty:=by
     rw[AH.at_mark hbn];by_cases e:b'=b
     ·subst e;rw[if_pos rfl,hx];exact⟨_,rfl,rfl,rfl⟩
     ·rw[if_neg e];exact⟨x,hx,rfl,rfl⟩
    obtain⟨y,hy,e1,e2⟩:=hx1;have:=p6 b' hb' y c o hy hs;rw[e1,e2] at this;exact this
   ·have:H.mark b=H:=by
     unfold AH.mark;cases hb0:H.at b with
     |none=>rfl
     |some z=>have:=AH.at_lt h hb0;omega
    have h6:=p6 b' hb';rw[this] at h6;exact h6 x c o hx hs
theorem HR.marks(M:List Nat)(h:HR B σ H w):
  ∃σ2,σ.le σ2/\σ2.nm=σ.nm/\σ2.nl=σ.nl/\ov B σ σ2/\(∀c,w.heap.size<=c->σ2.fz c=σ.fz c)/\HR B σ2 (gF H M) w/\∀b ∈ M,wo σ2 H w b:=by
 obtain⟨σ2,_,r⟩:=h.marksE M;exact⟨σ2,r⟩
theorem jU:∀(M:List Nat) (H:AH),(gF H M).next=H.next
 |[],_=>rfl
 |b::M,H=>(jU M _).trans (AH.mark_next H b)
theorem ti:∀(M:List Nat) (H:AH),(gF H M).ob=H.ob
 |[],H=>rfl
 |b::l,H=>by rw[gF,ti l,AH.mark_ob]
theorem pd:∀(M:List Nat) (H:AH),(gF H M).low=H.low
 |[],_=>rfl
 |b::M,H=>(pd M _).trans (AH.mark_low H b)
inductive Cv(M:List Nat)(H:AH):AV->AV->Prop where
 |ow {v:AV} (h:v.one=true):Cv M H v .ow
 |rfl {v:AV} (h:v.pu 3=true):Cv M H v v
 |sl0 (esz:Nat) (row:Nat->Nat->AV):Cv M H .sl0 (.fs esz 0 row)
 |sl00 (b o cap esz:Nat) (row:Nat->Nat->AV):Cv M H (.sl b o 0 cap) (.fs esz 0 row)
 |os {b n esz:Nat} {x:AB} {row:Nat->Nat->AV} (hm:b ∈ M) (hx:H.at b=some x) (hn:n*esz<=x.size) (hr:∀i j,i<n->j<esz->x.get (i*esz+j)=row i j) (hc:∀i j,i<n->j<esz->(row i j).cell=true):Cv M H (.os b n) (.fs esz n row)
 |sl {b o n cap esz:Nat} {x:AB} {row:Nat->Nat->AV} (hm:b ∈ M) (hx:H.at b=some x) (hn:o+n*esz<=x.size) (hcap:n<=cap) (h0:0<x.size) (hr:∀i j,i<n->j<esz->x.get (o+i*esz+j)=row i j) (hc:∀i j,i<n->j<esz->(row i j).cell=true):Cv M H (.sl b o n cap) (.fs esz n row)
 |osw {b n esz:Nat} {x:AB} {row:Nat->Nat->AV} (hm:b ∈ M) (hx:H.at b=some x) (hn:n*esz<=x.size) (hr:∀i j,i<n->j<esz->Cv M H (x.get (i*esz+j)) (row i j)) (hc:∀i j,i<n->j<esz->(row i j).cell=true):Cv M H (.os b n) (.fs esz n row)
 |slw {b o n cap esz:Nat} {x:AB} {row:Nat->Nat->AV} (hm:b ∈ M) (hx:H.at b=some x) (hn:o+n*esz<=x.size) (hcap:n<=cap) (hr:∀i j,i<n->j<esz->Cv M H (x.get (o+i*esz+j)) (row i j)) (hc:∀i j,i<n->j<esz->(row i j).cell=true):Cv M H (.sl b o n cap) (.fs esz n row)
 |fs {esz n:Nat} {row row2:Nat->Nat->AV} (hr:∀i j,i<n->j<esz->row i j=row2 i j):Cv M H (.fs esz n row) (.fs esz n row2)
 |bx {b n:Nat} {x:AB} {row:Nat->AV} (hm:b ∈ M) (hx:H.at b=some x) (hn:n<=x.size) (h0:0<x.size) (hr:∀q,q<n->x.get q=row q) (hc:∀q,q<n->(row q).cell=true):Cv M H (.p b 0) (.bx n row)
 |p {b o esz j:Nat} {x:AB} {row:Nat->AV} (hm:b ∈ M) (hx:H.at b=some x) (hn:o+esz<=x.size) (h0:0<x.size) (hr:∀q,q<esz->x.get (o+q)=row q) (hc:∀q,q<esz->(row q).cell=true):Cv M H (.p b (o+j)) (.fp esz row j)
 |f {g:FuncId} {l1 l2 l1' l2':List AV} (n1:l1.length=l1'.length) (n2:l2.length=l2'.length) (h1:∀(i:Nat) (v v':AV),l1[i]? =some v->l1'[i]? =some v'->Cv M H v v') (h2:∀(i:Nat) (v v':AV),l2[i]? =some v->l2'[i]? =some v'->Cv M H v v'):Cv M H (.f g l1 l2) (.f g l1' l2')
 |agg {l l':List AV} (n1:l.length=l'.length) (h1:∀(i:Nat) (v v':AV),l[i]? =some v->l'[i]? =some v'->Cv M H v v'):Cv M H (.agg l) (.agg l')
 |tup {l l':List AV} (n1:l.length=l'.length) (h1:∀(i:Nat) (v v':AV),l[i]? =some v->l'[i]? =some v'->Cv M H v v'):Cv M H (.tup l) (.tup l')
theorem Cv.ok{M:List Nat}{σ2:Sg}(h:HR B σ H w)(hle:σ.le σ2)(hnm:σ2.nm=σ.nm)(hM:∀b ∈ M,wo σ2 H w b){v v2:AV}(hc:Cv M H v v2):∀{u:Value},VR σ v u->VR σ2.bare v2 u:=by
 induction hc with
 |ow h1=>intro u hu;exact .ow (AV.one_cell hu h1)
 |rfl hp=>intro u hu;exact(hu.pure 3 hp).mono hle.bare
 |sl0 esz row=>
  intro u hu;cases hu with
  |sl0 a=>exact .fs0 _ _ _ _
 |sl00 b o cap esz row=>
  intro u hu;cases hu with
  |sl hh=>exact .fs0 _ _ _ _
  |slo hh hc h0=>exact .fs0 _ _ _ _
 |@os b n esz x row hm hx hn hr hcl=>
  intro u hu;cases hu with
  |os0 hh a=>exact .fs0 _ _ _ _
  |@os _ _ _ c k hh hl=>
   have hh2:σ2 b=some (c,some k):=by show σ2.nm b=_;rw[hnm];exact hh
   obtain⟨cs,fs,e1,e2,e3,e4⟩:=hM _ hm _ _ _ hx hh2;obtain⟨cs',p1,p2,p3⟩:=h.blk _ _ _ _ hx hh;rw[e1] at p2;cases p2;refine .fs (σ:=σ2.bare) (off:=0) (c:=c) e2 aa hcl (λi j hi hj=>?_) k hl;have hlt:=mJ hi hj;rw[apz,<-hr i j hi hj,<-e3.getD aa];refine((VR.cell ?_ (p3.cell _ aa)).mono hle.bare);rw[hr i j hi hj];exact hcl i j hi hj
 |@sl b o n cap esz x row hm hx hn hcap h0 hr hcl=>
  intro u hu;have key:∀c oc cap',σ b=some (c,oc)->cap<=cap'->VR σ2.bare (.fs esz n row) (.slice (some ⟨c,o,none⟩) n cap'):=by
   intro c oc cap' hh hcc;have hh2:σ2 b=some (c,oc):=by show σ2.nm b=_;rw[hnm];exact hh
   obtain⟨cs,fs,e1,e2,e3,e4⟩:=hM _ hm _ _ _ hx hh2;obtain⟨cs',p1,p2,p3⟩:=h.blk _ _ _ _ hx hh;rw[e1] at p2;cases p2;refine .fs (σ:=σ2.bare) (off:=o) (c:=c) e2 aa hcl (λi j hi hj=>?_) _ aa;have hlt:=mJ hi hj;rw[<-hr i j hi hj,<-e3.getD aa];refine((VR.cell ?_ (p3.cell _ aa)).mono hle.bare);rw[hr i j hi hj];exact hcl i j hi hj
  cases hu with
  |sl hh=>exact key _ _ _ hh (bL _)
  |slo hh hc h0=>exact key _ _ _ hh hc
 |@osw b n esz x row hm hx hn hr hcl ih=>
  intro u hu;cases hu with
  |os0 hh a=>exact .fs0 _ _ _ _
  |@os _ _ _ c k hh hl=>
   have hh2:σ2 b=some (c,some k):=by show σ2.nm b=_;rw[hnm];exact hh
   obtain⟨cs,fs,e1,e2,e3,e4⟩:=hM _ hm _ _ _ hx hh2;obtain⟨cs',p1,p2,p3⟩:=h.blk _ _ _ _ hx hh;rw[e1] at p2;cases p2;refine .fs (σ:=σ2.bare) (off:=0) (c:=c) e2 aa hcl (λi j hi hj=>?_) k hl;have hlt:=mJ hi hj;rw[apz,<-e3.getD aa];exact ih i j hi hj (p3.cell _ aa)
 |@slw b o n cap esz x row hm hx hn hcap hr hcl ih=>
  intro u hu;have key:∀c oc cap',σ b=some (c,oc)->cap<=cap'->VR σ2.bare (.fs esz n row) (.slice (some ⟨c,o,none⟩) n cap'):=by
   intro c oc cap' hh hcc;have hh2:σ2 b=some (c,oc):=by show σ2.nm b=_;rw[hnm];exact hh
   obtain⟨cs,fs,e1,e2,e3,e4⟩:=hM _ hm _ _ _ hx hh2;obtain⟨cs',p1,p2,p3⟩:=h.blk _ _ _ _ hx hh;rw[e1] at p2;cases p2;refine .fs (σ:=σ2.bare) (off:=o) (c:=c) e2 aa hcl (λi j hi hj=>?_) _ aa;have hlt:=mJ hi hj;rw[<-e3.getD aa];exact ih i j hi hj (p3.cell _ aa)
  cases hu with
  |sl hh=>exact key _ _ _ hh (bL _)
  |slo hh hc h0=>exact key _ _ _ hh hc
 |@fs esz n row row2 hr=>
  intro u hu;cases hu with
  |fs0=>exact .fs0 _ _ _ _
  |fs hz hb h1 h2 cap hcap=>
   obtain⟨fs',e1,e2⟩:=hle.fz _ _ hz;refine .fs (σ:=σ2.bare) e1 (apj hb e2.1) (λi j hi hj=>by rw[<-hr i j hi hj];exact h1 i j hi hj) (λi j hi hj=>?_) cap hcap
   have hlt:=mJ hi hj;rw[<-hr i j hi hj,e2.getD aa];exact(h2 i j hi hj).mono hle.bare
 |@bx b n x row hm hx hn h0 hr hcl=>
  intro u hu;cases hu with
  |@p _ _ _ c oc hh=>
   have hh2:σ2 b=some (c,oc):=by show σ2.nm b=_;rw[hnm];exact hh
   obtain⟨cs,fs,e1,e2,e3,e4⟩:=hM _ hm _ _ _ hx hh2;obtain⟨cs',p1,p2,p3⟩:=h.blk _ _ _ _ hx hh;rw[e1] at p2;cases p2;refine .bx (σ:=σ2.bare) (c:=c) e2 aa hcl (λq hq=>?_);rw[<-hr q hq,<-e3.getD aa];refine((VR.cell ?_ (p3.cell _ aa)).mono hle.bare);rw[hr q hq];exact hcl q hq
 |@p b o esz j x row hm hx hn h0 hr hcl=>
  intro u hu;cases hu with
  |@p _ _ _ c oc hh=>
   have hh2:σ2 b=some (c,oc):=by show σ2.nm b=_;rw[hnm];exact hh
   obtain⟨cs,fs,e1,e2,e3,e4⟩:=hM _ hm _ _ _ hx hh2;obtain⟨cs',p1,p2,p3⟩:=h.blk _ _ _ _ hx hh;rw[e1] at p2;cases p2;refine .fp (σ:=σ2.bare) (off:=o) (c:=c) e2 aa hcl (λq hq=>?_) j;rw[<-hr q hq,<-e3.getD aa];refine((VR.cell ?_ (p3.cell _ aa)).mono hle.bare);rw[hr q hq];exact hcl q hq
 |@f g l1 l2 l1' l2' n1 n2 h1 h2 i1 i2=>
  intro u hu;cases hu with
  |f m1 k1 m2 k2=>
   refine .f aa (λi v' hv'=>?_) aa (λi v' hv'=>?_)
   ·have hlt:i<l1.length:=by rw[n1];exact(ap4.1 hv').1
    exact aqQ
   ·have hlt:i<l2.length:=by rw[n2];exact(ap4.1 hv').1
    exact i2 i _ v' (apk hlt) hv' (k2 i _ (apk hlt))
 |@agg l l' n1 h1 i1=>
  intro u hu;cases hu with
  |agg m1 k1=>
   refine .agg aa (λi v' hv'=>?_);have hlt:i<l.length:=by rw[n1];exact(ap4.1 hv').1
   exact aqQ
 |@tup l l' n1 h1 i1=>
  intro u hu;cases hu with
  |tup m1 k1=>
   refine .tup aa (λi v' hv'=>?_);have hlt:i<l.length:=by rw[n1];exact(ap4.1 hv').1
   exact aqQ
end
end Go.Proofs.YtdpkgnmmikebdaaGreat