/- A part of the proof of CostReports: FlG FlH FlI FlT FlU FlV FlW FlX FlY FlZ CbA VfA VfB VfC CbB CbC CbD CbE CbF VfM VfT. No condition. -/
import Derived.ChangeAlike
import Derived.Defers
import Derived.Recover
import Derived.RegionTactic
import Derived.Test.YtdpkgnmmikebdaaGreatGe25
import Derived.Test.YtdpkgnmmikebdaaGreatGe22
import Derived.Test.YtdpkgnmmikebdaaGreatGe15
set_option linter.unusedSimpArgs false
set_option linter.unusedVariables false
set_option linter.constructorNameAsVariable false
set_option maxRecDepth 100000
set_option maxHeartbeats 4000000
namespace Go.Proofs.YtdpkgnmmikebdaaGreat
open Go.RowKit
theorem ri(w:World):(binOp .eql 20 .nilIface .nilIface).run Tryz.prog w= .ok (.bool true) w:=by kernel_rfl
theorem pG(a n:Int)(w:World):(binOp .eql 20 (.iface 211 (.agg #[.int .i64 a,.int .i64 n])) .nilIface).run Tryz.prog w= .ok (.bool false) w:=by kernel_rfl
theorem rz(a n:Int)(w:World):(Instr.typeAssert (.iface 211 (.agg #[.int .i64 a,.int .i64 n])) 20 211 true).run Tryz.prog w= .ok (.tuple #[.agg #[.int .i64 a,.int .i64 n],.bool true]) w:=by kernel_rfl
theorem kI(p q x:Value): #[p,q]++((Array.replicate 24 undef).setIfInBounds 5 x).setIfInBounds 2 x=
  #[p,q,undef,undef,x,undef,undef,x,undef,undef,undef,undef,undef,undef,undef,undef,undef,undef,undef,undef,undef,undef,undef,undef,undef,undef]:=by kernel_rfl
theorem kM(ab eb:Nat)(w:World):
  CallsD Tryz.prog 82 #[.pointer (some ⟨ab,0,none⟩),.pointer (some ⟨eb,0,none⟩)] .returning w λe u' w'=>e= .returned (.tuple #[])/\u'= .returning/\w'=w:=by
 refine callsD_of_wpS Tryz.func82 rfl λc₀ cs hu=>?_
 apply wpS_seq
 apply wpS_region
 simp[wpOpsS,go_sem,recoverD,hu,Tryz.ntmps82,Exit.thenS]
 refine wpS_of_wp ?_
 rw[kI]
 have hq:=ri
 go_wp2
 cases c₀
 simp_all [bodyPostS,results,Tryz.results82]
theorem fG(ab eb:Nat)(x y a n:Int)(older:List PanicEntry)(w:World)(ha:w.heap[ab]? =some (.cells #[.int .i64 x] 3 (0,0)))(he:w.heap[eb]? =some (.cells #[.int .i64 y] 30 (0,0)))(hne:¬ab=eb)(hne2:¬eb=ab):
  CallsD Tryz.prog 82 #[.pointer (some ⟨ab,0,none⟩),.pointer (some ⟨eb,0,none⟩)] (.panicking ({v:= .iface 211 (.agg #[.int .i64 a,.int .i64 n]),recovered:=false}::older)) w λe u' w'=>
   e= .returned (.tuple #[])/\u'= .panicking ({v:= .iface 211 (.agg #[.int .i64 a,.int .i64 n]),recovered:=true}::older)/\w'.heap[ab]? =some (.cells #[.int .i64 a] 3 (0,0))/\w'.heap[eb]? =some (.cells #[.int .i64 n] 30 (0,0))/\(∀k,k<w.heap.size->k≠ab->k≠eb->w'.heap[k]? =w.heap[k]?)/\w'.os=w.os/\w'.tape=w.tape/\w'.output=w.output/\w.heap.size<=w'.heap.size:=by
 have hq:=pG a n
 have hta:=rz a n
 refine callsD_of_wpS Tryz.func82 rfl λc₀ cs hu=>?_
 apply wpS_seq
 apply wpS_region
 simp[wpOpsS,go_sem,recoverD,hu,Tryz.ntmps82,Exit.thenS]
 refine wpS_of_wp ?_
 rw[kI]
 go_wp2
 have hal:ab<w.heap.size:=(Array.getElem?_eq_some_iff.1 ha).1
 have hel:eb<w.heap.size:=(Array.getElem?_eq_some_iff.1 he).1
 have z0:w.cell? ⟨ab,0,none⟩=some (.int .i64 x):=by simp[World.cell?,ha]
 have z1:w.cell? ⟨eb,0,none⟩=some (.int .i64 y):=by simp[World.cell?,he]
 have f0:w.frozen? ⟨ab,0,none⟩=false:=by simp[World.frozen?,ha]
 have f1:w.frozen? ⟨eb,0,none⟩=false:=by simp[World.frozen?,he]
 have y0:∀v,(w.setCell ⟨eb,0,none⟩ v).cell? ⟨ab,0,none⟩=some (.int .i64 x):=λv=>by rw[World.cell?_of_block (Below.heap_setCell _ _ _ _ hne)];exact z0
 have y1:∀v,(w.setCell ⟨ab,0,none⟩ v).cell? ⟨eb,0,none⟩=some (.int .i64 y):=λv=>by rw[World.cell?_of_block (Below.heap_setCell _ _ _ _ hne2)];exact z1
 have g0:∀v,(w.setCell ⟨eb,0,none⟩ v).frozen? ⟨ab,0,none⟩=false:=λv=>by simp only[World.frozen?];rw[Below.heap_setCell _ _ _ _ (show ab≠(⟨eb,0,none⟩:Addr).block from hne),ha];rfl
 have g1:∀v,(w.setCell ⟨ab,0,none⟩ v).frozen? ⟨eb,0,none⟩=false:=λv=>by simp only[World.frozen?];rw[Below.heap_setCell _ _ _ _ (show eb≠(⟨ab,0,none⟩:Addr).block from hne2),he];rfl
 go_region
 go_wp2
 cases c₀
 simp only at hu
 subst hu
 simp only[bodyPostS]
 refine⟨trivial,_,rfl,?_⟩
 refine⟨_,results_none rfl _ _ _,?_⟩
 refine⟨rfl,rfl,?_⟩
 have hs:((w.setCell ⟨ab,0,none⟩ (.int .i64 a)).setCell ⟨eb,0,none⟩ (.int .i64 n)).heap.size=w.heap.size:=by simp[World.setCell]
 have hd:∀k,k<w.heap.size->((((w.setCell ⟨ab,0,none⟩ (.int .i64 a)).setCell ⟨eb,0,none⟩ (.int .i64 n)).alloc (Obj.cells #[.int .i64 a,.int .i64 n] 211)).drew).heap[k]? =((w.setCell ⟨ab,0,none⟩ (.int .i64 a)).setCell ⟨eb,0,none⟩ (.int .i64 n)).heap[k]? :=λk hk=>Below.heap_alloc _ _ _ (by rw[hs];exact hk)
 refine⟨?_,?_,λk hk h1 h2=>?_,rfl,rfl,rfl,?_⟩
 ·rw[hd ab hal,Below.heap_setCell _ _ _ _ (show ab≠(⟨eb,0,none⟩:Addr).block from hne)]
  simp only[World.setCell,Array.getElem?_modify,if_true,ha]
  rfl
 ·rw[hd eb hel]
  simp only[World.setCell,Array.getElem?_modify,if_true,if_neg hne,he]
  rfl
 ·rw[hd k hk,Below.heap_setCell _ _ _ _ (show k≠(⟨eb,0,none⟩:Addr).block from h2),Below.heap_setCell _ _ _ _ (show k≠(⟨ab,0,none⟩:Addr).block from h1)]
 ·have:((((w.setCell ⟨ab,0,none⟩ (.int .i64 a)).setCell ⟨eb,0,none⟩ (.int .i64 n)).alloc (Obj.cells #[.int .i64 a,.int .i64 n] 211)).drew).heap.size=w.heap.size+1:=by rw[<-hs];exact Array.size_push ..
  omega
structure gP(p:Prop):Prop where
 out:p
def aD(cs:List (Int×Int)):Fo×Int×Int:=if 1024<cs.length then(.nil,0,6) else match cR cs with
 |.ok (o,_)=>(o,0,0)
 |.error x=>(.nil,x,15)
def iV(cs:List (Int×Int))(φ:Fz)(w:World)(e:Ending)(w':World):Prop:=∃(v:Value) (φ':Fz),e= .returned (.tuple #[v,.int .i64 (aD cs).2.1,.int .i64 (aD cs).2.2])/\
 VR (Sg.data φ') (.fs 5 (aD cs).1.len (aD cs).1.cell) v/\pm φ' w'/\Below w.heap.size w w'/\∀c,c<w.heap.size->φ' c=φ c
theorem iQ{φ:Fz}{w w':World}(h:pm φ w)(hb:∀k,k<w.heap.size->w'.heap[k]? =w.heap[k]?):pm φ w':=λc fs hf=>by
 obtain⟨cs,t,fr,e1,e2⟩:=h c fs hf
 exact⟨cs,t,fr,by rw[hb c (Array.getElem?_eq_some_iff.1 e1).1];exact e1,e2⟩
def rQ(w:World):World:=(w.alloc (Obj.cells #[.int .i64 0] 3)).alloc (Obj.cells #[.int .i64 0] 30)
theorem pZ(w:World):(rQ w).heap.size=w.heap.size+2:=by simp[rQ]
theorem lC(w:World)(o:Obj):(w.alloc o).heap[w.heap.size]? =some o:=by
 show(w.heap.push o)[w.heap.size]? =some o
 simp
theorem xR(w:World):(rQ w).heap[w.heap.size]? =some (.cells #[.int .i64 0] 3 (0,0)):=by
 rw[rQ,Below.heap_alloc _ _ _ (by simp)]
 exact lC w _
theorem xQ(w:World):(rQ w).heap[w.heap.size+1]? =some (.cells #[.int .i64 0] 30 (0,0)):=by
 have:=lC (w.alloc (Obj.cells #[.int .i64 0] 3)) (Obj.cells #[.int .i64 0] 30)
 simpa [rQ] using this
theorem oK(w:World):Below w.heap.size w (rQ w):=((Below.refl _ _).alloc (by simp) _).alloc (by simp) _
theorem jB{cs:List (Int×Int)}{φ:Fz}{w w2:World}{a n:Int}(hφ:pm φ w)(hb:Below (rQ w).heap.size (rQ w) w2)(hp:aD cs=(.nil,a,n))(tm:Array Value)(h2:tm[2]? =some (.slice none 0 0))(h3:tm[3]? =some (.pointer (some ⟨w.heap.size,0,none⟩)))(h4:tm[4]? =some (.pointer (some ⟨w.heap.size+1,0,none⟩))):
  Leaves Tryz.prog Tryz.f50 tm (iV cs φ w) [{target:= .fn (.func 82) #[],args:= #[.pointer (some ⟨w.heap.size,0,none⟩),.pointer (some ⟨w.heap.size+1,0,none⟩)]}] (.panicking (fA a n)) w2:=by
 have hz:=pZ w
 have q1:w2.heap[w.heap.size]? =some (.cells #[.int .i64 0] 3 (0,0)):=by rw[hb.block _ (by omega)];exact xR w
 have q2:w2.heap[w.heap.size+1]? =some (.cells #[.int .i64 0] 30 (0,0)):=by rw[hb.block _ (by omega)];exact xQ w
 refine leaves_cons (f:=82) (args:= #[.pointer (some ⟨w.heap.size,0,none⟩),.pointer (some ⟨w.heap.size+1,0,none⟩)]) (by simp) (by simp[go_sem]) ?_
 refine(fG w.heap.size (w.heap.size+1) 0 0 a n [] w2 q1 q2 (by omega) (by omega)).mono ?_
 rintro e u' w3 ⟨rfl,rfl,b1,b2,b3,ho3,ht3,hp3,hs3⟩
 have hsz:=hb.size
 have hB:=oK w
 have y1:w3.cell? ⟨w.heap.size,0,none⟩=some (.int .i64 a):=by simp[World.cell?,b1]
 have y2:w3.cell? ⟨w.heap.size+1,0,none⟩=some (.int .i64 n):=by simp[World.cell?,b2]
 have hbl:∀k,k<w.heap.size->w3.heap[k]? =w.heap[k]? :=λk hk=>by rw[b3 k (by omega) (by omega) (by omega),hb.block k (by omega),hB.block k hk]
 have hfin:iV cs φ w (.returned (.tuple #[.slice none 0 0,.int .i64 a,.int .i64 n])) w3:=by
  refine⟨.slice none 0 0,φ,by rw[hp],by rw[hp];exact .fs0 _ _ _ _,iQ hφ hbl,⟨ho3.trans (hb.os.trans hB.os),ht3.trans (hb.tape.trans hB.tape),hp3.trans (hb.output.trans hB.output),by omega,hbl⟩,λ_ _=>rfl⟩
 have H:=gP.mk hfin
 clear hfin
 simp[Leaves,settle,results,Tryz.results50,go_sem,y1,y2,h2,h3,h4]
 exact H.out
theorem uZ(cs:List (Int×Int))(φ:Fz)(w:World)(u:Value)(hφ:pm φ w)(hu:VR (Sg.data φ) (.fs 2 cs.length (pI cs)) u):Calls Tryz.prog 50 #[u] w (iV cs φ w):=by
 have HU:=gP.mk hu
 have HF:=gP.mk hφ
 clear hu hφ
 go_enter_defers Tryz.func50,Tryz.ntmps50
 go_wp2_with fail
 show Calls _ _ _ (rQ w) _
 have hz:=pZ w
 have hB:=oK w
 refine((rq cs).2 (rQ w).heap.size (Sg.data φ) (rQ w) #[u] (HR.empty (rQ w) (iQ HF.out λk hk=>hB.block k hk)) ⟨rfl,λi v hv=>?_⟩).mono ?_
 ·cases i with
  |zero=>cases hv;exact HU.out
  |succ i=>simp at hv
 rintro e w2 hp
 cases e with
 |outgrown=>exact hp.elim
 |panicked c=>
  obtain⟨H',σ',⟨hlong,rfl⟩,hHR,hA⟩:=hp
  exact jB HF.out hA.bel (by rw[aD,if_pos hlong]) _ rfl rfl rfl
 |returned v=>
  obtain⟨v',H1,σ1,⟨hle,rfl,rfl⟩,hv,hHR1,hA1⟩:=hp
  cases hv with
  |p hs=>
  have H1:=gP.mk hHR1
  have H2:=gP.mk hA1
  have H3:=gP.mk hs
  have H4:=gP.mk hB
  clear hHR1 hA1 hs hB
  go_wp2_with fail
  refine((pX cs hle _ rfl).2 (rQ w).heap.size σ1 w2 _ H1.out ⟨rfl,λi v hv=>?_⟩).mono ?_
  ·cases i with
   |zero=>cases hv;exact .p H3.out
   |succ i=>simp at hv
  rintro e w3 hp
  have hb2:=H2.out.bel
  cases e with
  |outgrown=>exact hp.elim
  |panicked c=>
   obtain⟨H',σ',⟨x,hx,rfl⟩,hHR,hA⟩:=hp
   exact jB HF.out (hb2.trans hA.bel) (by rw[aD,if_neg (by omega),hx]) _ rfl rfl rfl
  |returned v2=>
   obtain⟨v',H',σ2,⟨o,pt,hrd,rfl,rfl⟩,hv2,hHR2,hA2⟩:=hp
   have hb3:=hb2.trans hA2.bel
   have q1:w3.heap[w.heap.size]? =some (.cells #[.int .i64 0] 3 (0,0)):=by rw[hb3.block _ (by omega)];exact xR w
   have q2:w3.heap[w.heap.size+1]? =some (.cells #[.int .i64 0] 30 (0,0)):=by rw[hb3.block _ (by omega)];exact xQ w
   have z0:w3.cell? ⟨w.heap.size,0,none⟩=some (.int .i64 0):=by simp[World.cell?,q1]
   have z1:w3.cell? ⟨w.heap.size+1,0,none⟩=some (.int .i64 0):=by simp[World.cell?,q2]
   have f0:w3.frozen? ⟨w.heap.size,0,none⟩=false:=by simp[World.frozen?,q1]
   have f1:w3.frozen? ⟨w.heap.size+1,0,none⟩=false:=by simp[World.frozen?,q2]
   have G1:=gP.mk hHR2
   have G2:=gP.mk hA2
   have G3:=gP.mk hv2
   have G4:=gP.mk hb3
   have G5:=gP.mk q1
   have G6:=gP.mk q2
   clear hHR2 hA2 hv2 hb3 hb2 q1 q2
   go_wp2
   have hn1:w.heap.size≠w.heap.size+1:=by omega
   have hd:∀k,k≠w.heap.size->k≠w.heap.size+1->((w3.setCell ⟨w.heap.size,0,none⟩ (.int .i64 0)).setCell ⟨w.heap.size+1,0,none⟩ (.int .i64 0)).heap[k]? =w3.heap[k]? :=λk h1 h2=>by
    rw[Below.heap_setCell _ _ _ _ (show k≠(⟨w.heap.size+1,0,none⟩:Addr).block from h2),Below.heap_setCell _ _ _ _ (show k≠(⟨w.heap.size,0,none⟩:Addr).block from h1)]
   have y1:((w3.setCell ⟨w.heap.size,0,none⟩ (.int .i64 0)).setCell ⟨w.heap.size+1,0,none⟩ (.int .i64 0)).cell? ⟨w.heap.size,0,none⟩=some (.int .i64 0):=by
    rw[World.cell?_of_block (Below.heap_setCell _ _ _ _ (show w.heap.size≠(⟨w.heap.size+1,0,none⟩:Addr).block from hn1))]
    simp[World.cell?,World.setCell,Array.getElem?_modify,G5.out]
   have y2:((w3.setCell ⟨w.heap.size,0,none⟩ (.int .i64 0)).setCell ⟨w.heap.size+1,0,none⟩ (.int .i64 0)).cell? ⟨w.heap.size+1,0,none⟩=some (.int .i64 0):=by
    simp[World.cell?,World.setCell,Array.getElem?_modify,G6.out]
   have hpf:aD cs=(o,0,0):=by rw[aD,if_neg (by omega),hrd]
   have hfz:∀c,c<(rQ w).heap.size->σ2.fz c=φ c:=λc hc=>(G2.out.fzb.eq c hc).trans (H2.out.fzb.eq c hc)
   have hnb:∀c fs,σ2.fz c=some fs->c≠w.heap.size/\c≠w.heap.size+1:=λc fs hf=>by
    by_cases hc:c<(rQ w).heap.size
    ·rw[hfz c hc] at hf
     obtain⟨cs',t,fr,e1,_⟩:=HF.out c fs hf
     have:=(Array.getElem?_eq_some_iff.1 e1).1
     omega
    ·omega
   have hfin:iV cs φ w (.returned (.tuple #[v2,.int .i64 0,.int .i64 0])) ((w3.setCell ⟨w.heap.size,0,none⟩ (.int .i64 0)).setCell ⟨w.heap.size+1,0,none⟩ (.int .i64 0)):=by
    refine⟨v2,σ2.fz,by rw[hpf],by rw[hpf];exact G3.out.pure 3 rfl,λc fs hf=>?_,((H4.out.trans (G4.out.mono (by omega))).setCell (Nat.le_refl _) _).setCell (Nat.le_succ _) _,λc hc=>hfz c (by omega)⟩
    obtain⟨cs',t,fr,e1,e2,_⟩:=G1.out.frz c fs hf
    obtain⟨h1,h2⟩:=hnb c fs hf
    exact⟨cs',t,fr,by rw[hd c h1 h2];exact e1,e2⟩
   refine leaves_cons (f:=82) (args:= #[.pointer (some ⟨w.heap.size,0,none⟩),.pointer (some ⟨w.heap.size+1,0,none⟩)]) (by simp) (by simp[go_sem]) ?_
   refine(kM w.heap.size (w.heap.size+1) _).mono ?_
   rintro e u' w'' ⟨rfl,rfl,rfl⟩
   have HH:=gP.mk hfin
   clear hfin hd hfz hnb
   refine⟨.tuple #[v2,.int .i64 0,.int .i64 0],?_,HH.out⟩
   simp[results,Tryz.results50,go_sem,y1,y2]
theorem kj(cs:List (Int×Int)):bU Tryz.prog 50 [.fs 2 cs.length (pI cs)] [.v (.fs 5 (aD cs).1.len (aD cs).1.cell),.v (.n .i64 (aD cs).2.1),.v (.n .i64 (aD cs).2.2)]:=by
 refine⟨⟨_,Tryz.func50,by kernel_rfl,rfl⟩,λφ w args' hφ ha=>?_⟩
 obtain⟨u,rfl,hu⟩:∃u,args'= #[u]/\VR (Sg.data φ) (.fs 2 cs.length (pI cs)) u:=by
  obtain⟨l⟩:=args'
  obtain⟨h1,h2⟩:=ha
  match l,h1 with
  |[x],_=>exact⟨x,rfl,h2 0 _ rfl⟩
 refine(uZ cs φ w u hφ hu).mono λe w' hp=>?_
 obtain⟨v,φ',rfl,hv,hin,hb,hfz⟩:=hp
 refine⟨.tup [.fs 5 (aD cs).1.len (aD cs).1.cell,.n .i64 (aD cs).2.1,.n .i64 (aD cs).2.2],⟨.nil,0,2^40,λ_=>none,[]⟩,Sg.data φ',⟨[.fs 5 (aD cs).1.len (aD cs).1.cell,.n .i64 (aD cs).2.1,.n .i64 (aD cs).2.2],rfl,⟨rfl,rfl⟩,⟨rfl,rfl⟩,⟨rfl,rfl⟩,trivial⟩,?_,HR.emptyAt w' hb.size hin,hb,hfz⟩
 exact((aV.nil.cons (.n _ _)).cons (.n _ _)).cons hv |>.tup
def bD(cs:List (Int×Int)):Nat->List Int
 |0=>[]
 |k+1=>if am cs k=29 then bD cs k++[(k:Int)] else bD cs k
def dg(cs:List (Int×Int)):List Int:=if(aD cs).2.2=0 then bD cs cs.length else[]
theorem ig(cs:List (Int×Int)):∀k,(bD cs k).length<=k
 |0=>Nat.le_refl _
 |k+1=>by
  have:=ig cs k
  rw[bD]
  split
  ·rw[List.length_append];simp;omega
  ·omega
theorem vA(cs:List (Int×Int))(hcs:cs.length<=100000):bU Tryz.prog 65 [.fs 2 cs.length (pI cs)] [.o 3 1 (dg cs).length 0 (iC (dg cs)),.v (.n .i64 (aD cs).2.2)]:=by
 refine ah aE Dk ⟨by simp,by decide⟩ ?_
 simp only[aF]
 repeat first|with_reducible refine au ?_|simp only[go_sem,simprocAttr]
 refine b6 ([.fs 2 cs.length (pI cs)]) (kj cs) ?_
 by_cases he:(aD cs).2.2=0
 ·have hF:dg cs=bD cs cs.length:=if_pos he
  rw[hF,he]
  repeat first|with_reducible refine au ?_|simp only[he,decide_false,decide_true,ne_eq,not_true_eq_false,go_sem,simprocAttr]
  refine GA.wk (Wk.nil 7 1 3 (by simp only[go_sem,simprocAttr]) (by decide) (by simp only[go_sem,simprocAttr])) ?_
  simp only[jS]
  refine GA.loop (I:=λm e H=>∃(k:Nat),m=cs.length-k/\k<=cs.length/\e=aA [(7,.os 0 (bD cs k).length),(19,.fs 2 cs.length (pI cs)),(20,.n .i64 cs.length),(21,.n .i64 k)]/\H=ag [ai 3 1 (bD cs k).length 0 (iC (bD cs k))]) (Wk.mk [0] [] ?_ ?_ ?_) ⟨0,rfl,by omega,rfl,rfl⟩ ?_
  ·exact aZ
  ·exact .cr (.rows (x:=_) (by simp only[go_sem,simprocAttr];rfl) (by rfl) (by rfl) (by rfl) (Nat.zero_le _) (by decide) (by decide) (λi j h=>absurd h (Nat.not_lt_zero _)) (λi j h=>absurd h (Nat.not_lt_zero _))) .nil
  ·simp
  rintro m e H ⟨k,rfl,hk,rfl,rfl⟩
  have h0:(0:Int)<=(k:Int):=by omega
  have hll:=ig cs k
  obtain⟨l,hl⟩:∃l,l=bD cs k:=⟨_,rfl⟩
  rw[<-hl] at hll ⊢
  by_cases h:(k:Int)<cs.length
  rotate_left
  ·repeat first|with_reducible refine au ?_|simp only[h,decide_false,go_sem,simprocAttr]
   have:k=cs.length:=by omega
   subst this
   exact⟨[_,_],rfl,.inr ⟨0,by rw[hl],by simp,_,by simp only[go_sem,simprocAttr];rfl,rfl,rfl,by decide,rfl,by rw[hl];exact Nat.le_refl _,Nat.le_refl _,λi j _ hj=>by rw[hl];exact aN i j hj,λ_ _ _ _=>rfl⟩,rfl,⟨rfl,rfl⟩,trivial⟩
  have hk':k<cs.length:=by omega
  have wk:IntKind.i64.wrap ((k:Int)+1)=((k+1:Nat):Int):=(aj (by omega)).trans (by omega)
  have hlap:(l.length+1<1099511627776/\(l.length+1)*8<=140737488355328)/\l.length<=9223372036854775806:=⟨⟨by omega,by omega⟩,by omega⟩
  by_cases e1:(cs.getD k (0,0)).1=29
  ·have hs:bD cs (k+1)=l++[(k:Int)]:=by rw[bD,if_pos (show am cs k=29 from e1),hl]
   repeat first|with_reducible refine au ?_|simp only[h,h0,cT,oZ,e1,wk,hlap,decide_true,go_sem,simprocAttr]
   refine⟨_,_,_,?_,Wk.mk [3] [] ?_ ?_ ?_,k+1,rfl,by omega,rfl,rfl⟩
   ·omega
   ·rw[hs,List.length_append]
    simp only[ej,cQ,go_sem,simprocAttr]
    repeat' refine aW ?_ ?_
    all_goals first|exact iW|skip
   ·rw[hs,List.length_append]
    exact .cr (.snoc (row:=iC l) (n:=l.length) (o:=l.length) (l:=[.n .i64 (k:Int)]) (by simp only[go_sem,simprocAttr]) (by omega) rfl rfl (by decide) (by omega) (λi j hi _=>by simp only[iC];rw[kR hi]) (λj hj=>by cases Nat.lt_one_iff.1 hj;simp only[iC];rw[kS];rfl) (λ_ _ _ _=>rfl)) .nil
   ·simp
  ·have hs:bD cs (k+1)=l:=by rw[bD,if_neg (show ¬am cs k=29 from e1),hl]
   repeat first|with_reducible refine au ?_|simp only[h,h0,cT,oZ,e1,wk,decide_true,decide_false,go_sem,simprocAttr]
   refine⟨_,_,_,?_,Wk.mk [0] [] ?_ ?_ ?_,k+1,rfl,by omega,rfl,rfl⟩
   ·omega
   ·rw[hs]
    simp only[ej,cQ,go_sem,simprocAttr]
    repeat' refine aW ?_ ?_
    all_goals first|exact iW|skip
   ·rw[hs]
    exact .cr .k1 .nil
   ·simp
 ·have hF:dg cs=[]:=if_neg he
  rw[hF]
  repeat first|with_reducible refine au ?_|simp only[he,decide_false,decide_true,ne_eq,not_false_eq_true,go_sem,simprocAttr]
  exact⟨[_,_],rfl,.inl ⟨rfl,rfl⟩,rfl,⟨rfl,rfl⟩,trivial⟩
structure A0(cs:List (Int×Int))(s:RS)(i:Nat):Prop where
 len:s.out.length=cs.length
 op:∀b ∈ s.op,b<i/\(am cs b=27\/am cs b=29)
 ot:∀c ∈ s.ot,c<0\/(c<i/\am cs c.toNat=28)
 eq:s.op.length=s.ot.length
theorem aa0(cs:List (Int×Int)):A0 cs (A5 cs) 0:=⟨by simp[A5],λb hb=>by simp[A5] at hb,λc hc=>by simp[A5] at hc,rfl⟩
theorem nN{cs:List (Int×Int)}{i:Nat}{s s1:RS}(h:cg cs i s=some s1)(hi:i<cs.length)(H:A0 cs s i):
  A0 cs s1 (i+1)/\(∀j,j<i->am cs j=31->s1.out.getD j 0=s.out.getD j 0)/\
   ((am cs i=31/\∃b,s.op=b::s1.op/\s1.out.getD i 0=b)\/(am cs i=29/\s1.op=i::s.op)\/(am cs i=27/\s1.op=i::s.op)\/(am cs i=30/\s1.op=s.op/\my cs s.op=true)\/(am cs i≠31/\am cs i≠29/\am cs i≠27/\am cs i≠30/\s1.op=s.op)):=by
 have low:∀j,j<i->(s.out.set i (-1)).getD j 0=s.out.getD j 0:=λj hj=>bp (by omega)
 have opm:∀b ∈ s.op,b<i+1/\(am cs b=27\/am cs b=29):=λb hb=>⟨by have:=(H.op b hb).1;omega,(H.op b hb).2⟩
 have otm:∀c ∈ s.ot,c<0\/(c<(i+1:Nat)/\am cs c.toNat=28):=λc hc=>(H.ot c hc).imp id λh=>⟨by omega,h.2⟩
 rw[cg] at h
 by_cases c1:am cs i=27\/am cs i=29
 ·rw[if_pos c1] at h
  split at h
  ·cases h
  ·cases h
   refine⟨⟨by simp[H.len],λb hb=>?_,λc hc=>?_,by simp[H.eq]⟩,λj hj _=>low j hj,?_⟩
   ·rcases List.mem_cons.1 hb with rfl|hb
    ·exact⟨by omega,c1⟩
    ·exact opm b hb
   ·rcases List.mem_cons.1 hc with rfl|hc
    ·exact .inl (by decide)
    ·exact otm c hc
   ·rcases c1 with c1|c1
    ·exact .inr (.inr (.inl ⟨c1,rfl⟩))
    ·exact .inr (.inl ⟨c1,rfl⟩)
 rw[if_neg c1] at h
 by_cases c2:am cs i=28
 ·rw[if_pos c2] at h
  split at h
  ·rename_i b op c ot h1 h2
   split at h
   ·cases h
   ·cases h
    have hb:=H.op b (by rw[h1];exact List.mem_cons_self ..)
    refine⟨⟨by simp[H.len],λx hx=>opm x (by rw[h1];exact hx),λx hx=>?_,?_⟩,λj hj h31=>?_,.inr (.inr (.inr (.inr ⟨by rw[c2];decide,by rw[c2];decide,by rw[c2];decide,by rw[c2];decide,h1.symm⟩)))⟩
    ·rcases List.mem_cons.1 hx with rfl|hx
     ·exact .inr ⟨by omega,by rw[Int.toNat_natCast];exact c2⟩
     ·exact otm x (by rw[h2];exact List.mem_cons_of_mem _ hx)
    ·have:=H.eq;rw[h1,h2] at this;simpa using this
    ·refine(bp ?_).trans (low j hj)
     rintro rfl
     rcases hb.2 with h|h<;>rw[h31] at h<;>exact absurd h (by decide)
  ·cases h
 rw[if_neg c2] at h
 by_cases c3:am cs i=30
 ·rw[if_pos c3] at h
  split at h
  ·rename_i hin
   cases h
   exact⟨⟨by simp[H.len],opm,otm,H.eq⟩,λj hj _=>low j hj,.inr (.inr (.inr (.inl ⟨c3,rfl,hin⟩)))⟩
  ·cases h
 rw[if_neg c3] at h
 by_cases c4:am cs i=31
 ·rw[if_pos c4] at h
  split at h
  ·rename_i b op c ot h1 h2
   cases h
   have hb:=H.op b (by rw[h1];exact List.mem_cons_self ..)
   have hc:=H.ot c (by rw[h2];exact List.mem_cons_self ..)
   have hne:∀j,am cs j=31->j≠b:=λj hj=>by
    rintro rfl
    rcases hb.2 with h|h<;>rw[hj] at h<;>exact absurd h (by decide)
   have hnc:0<=c->∀j,am cs j=31->j≠c.toNat:=λh0 j hj=>by
    rintro rfl
    rcases hc with h|h
    ·omega
    ·rw[hj] at h;exact absurd h.2 (by decide)
   have hil:i<(s.out.set i (-1)).length:=by rw[List.length_set,H.len];exact hi
   refine⟨⟨by split<;>simp[H.len],λx hx=>opm x (by rw[h1];exact List.mem_cons_of_mem _ hx),λx hx=>otm x (by rw[h2];exact List.mem_cons_of_mem _ hx),?_⟩,λj hj h31=>?_,.inl ⟨c4,b,h1,?_⟩⟩
   ·have:=H.eq;rw[h1,h2] at this;simpa using this
   ·dsimp only
    split
    ·rename_i h0
     exact(bp (hnc h0 j h31)).trans ((bp (by omega)).trans (low j hj))
    ·exact(bp (hne j h31)).trans ((bp (by omega)).trans (low j hj))
   ·dsimp only
    split
    ·rename_i h0
     exact(bp (hnc h0 i c4)).trans (ga hil)
    ·exact(bp (hne i c4)).trans (ga hil)
  ·cases h
 rw[if_neg c4] at h
 cases h
 exact⟨⟨by simp[H.len],opm,otm,H.eq⟩,λj hj _=>low j hj,.inr (.inr (.inr (.inr ⟨c4,λh=>c1 (.inr h),λh=>c1 (.inl h),c3,rfl⟩)))⟩
theorem nP{cs:List (Int×Int)}:∀(n i:Nat) (s s2:RS),bJ cs n i s= .ok s2->i+n<=cs.length->A0 cs s i->∀j,j<i->am cs j=31->s2.out.getD j 0=s.out.getD j 0
 |0,i,s,s2,h,_,_,j,_,_=>by cases h;rfl
 |n+1,i,s,s2,h,hn,H,j,hj,h31=>by
  rw[bJ] at h
  cases hs:cg cs i s with
  |none=>rw[hs] at h;cases h
  |some s1=>
   rw[hs] at h
   obtain⟨H1,k1,_⟩:=nN hs (by omega) H
   exact(nP n (i+1) s1 s2 h (by omega) H1 j (by omega) h31).trans (k1 j hj h31)
def A9(cs:List (Int×Int)):Nat->Nat->List Int->List Nat->Option (List Int)
 |0,_,out,_=>some out
 |n+1,i,out,lp=>
  if am cs i=29 then A9 cs n (i+1) out (i::lp)
  else if am cs i=31 then
   if 0<=out.getD i 0/\out.getD i 0<cs.length then
    if am cs (out.getD i 0).toNat=29 then match lp with
     |_::l=>A9 cs n (i+1) out l
     |[]=>none
    else A9 cs n (i+1) out lp
   else none
  else if am cs i=30 then match lp with
   |b::l=>A9 cs n (i+1) (out.set i (out.getD b 0)) (b::l)
   |[]=>none
  else A9 cs n (i+1) out lp
def ce(cs:List (Int×Int))(l:List Nat):List Nat:=l.filter λb=>decide (am cs b=29)
theorem qK{cs:List (Int×Int)}:∀(n i:Nat) (s s2:RS) (out:List Int),bJ cs n i s= .ok s2->i+n=cs.length->A0 cs s i->(∀j,i<=j->am cs j=31->out.getD j 0=s2.out.getD j 0)->out.length=cs.length->
  ∃out',A9 cs n i out (ce cs s.op)=some out'/\out'.length=cs.length/\∀j,am cs j≠30->out'.getD j 0=out.getD j 0
 |0,i,s,s2,out,h,hn,H,ho,hl=>⟨out,rfl,hl,λ_ _=>rfl⟩
 |n+1,i,s,s2,out,h,hn,H,ho,hl=>by
  rw[bJ] at h
  cases hs:cg cs i s with
  |none=>rw[hs] at h;cases h
  |some s1=>
   rw[hs] at h
   obtain⟨H1,k1,k2⟩:=nN hs (by omega) H
   have ih:=λout' (q1:∀j,i+1<=j->am cs j=31->out'.getD j 0=s2.out.getD j 0) (q2:out'.length=cs.length)=>qK n (i+1) s1 s2 out' h (by omega) H1 q1 q2
   have ih0:=ih out (λj hj h31=>ho j (by omega) h31) hl
   rw[A9.eq_def];dsimp only
   rcases k2 with⟨c,b,e1,e2⟩|⟨c,e1⟩|⟨c,e1⟩|⟨c,e1,e2⟩|⟨c1,c2,c3,c4,e1⟩
   ·have hb:=H.op b (by rw[e1];exact List.mem_cons_self ..)
    have hv:out.getD i 0=b:=by
     rw[ho i (Nat.le_refl _) c,nP n (i+1) s1 s2 h (by omega) H1 i (by omega) c,e2]
    rw[if_neg (by rw[c];decide),if_pos c,hv,if_pos ⟨by omega,by omega⟩,Int.toNat_natCast]
    by_cases h29:am cs b=29
    ·have:ce cs s.op=b::ce cs s1.op:=by rw[e1];simp[ce,h29]
     rw[if_pos h29,this]
     exact ih0
    ·have:ce cs s.op=ce cs s1.op:=by rw[e1];simp[ce,h29]
     rw[if_neg h29,this]
     exact ih0
   ·rw[if_pos c]
    have:ce cs s1.op=i::ce cs s.op:=by rw[e1];simp[ce,c]
    rw[<-this]
    exact ih0
   ·rw[if_neg (by rw[c];decide),if_neg (by rw[c];decide),if_neg (by rw[c];decide)]
    have:ce cs s1.op=ce cs s.op:=by rw[e1];simp[ce,c]
    rw[<-this]
    exact ih0
   ·rw[if_neg (by rw[c];decide),if_neg (by rw[c];decide),if_pos c]
    have hne:∃b l,ce cs s.op=b::l:=by
     obtain⟨b,hb,hb2⟩:=List.any_eq_true.1 e2
     cases hlp:ce cs s.op with
     |nil=>
      have:b ∈ ce cs s.op:=List.mem_filter.2 ⟨hb,hb2⟩
      rw[hlp] at this
      cases this
     |cons b l=>exact⟨b,l,rfl⟩
    obtain⟨b,l,hbl⟩:=hne
    rw[hbl]
    obtain⟨out',p1,p2,p3⟩:=ih (out.set i (out.getD b 0)) (λj hj h31=>(bp (by omega)).trans (ho j (by omega) h31)) (by rw[List.length_set];exact hl)
    rw[e1,hbl] at p1
    exact⟨out',p1,p2,λj hj=>(p3 j hj).trans (bp (by rintro rfl;exact hj c))⟩
   ·rw[if_neg c2,if_neg c1,if_neg c4,<-e1]
    exact ih0
def qy(cs:List (Int×Int)):List Int×Int×Int:=if 1024<cs.length then([],0,6) else match gX cs with
 |.error x=>([],x,15)
 |.ok out=>((A9 cs cs.length 0 out []).getD [],0,0)
theorem PC.no{P:Program}{kk:Nat->Bool}{g:FuncId}{args:List AV}{H:AH}{Q:AV->AH->Prop}{E:List PanicEntry->AH->Prop}(h:PC P kk g args H Q E):PC P (λ_=>false) g args H Q E:=
 ⟨h.1,λB σ w args' hH ha=>(h.2 B σ w args' hH ha).mono λen w' hp=>by
  cases en with
  |returned u=>obtain⟨v,H',σ',q,q1,q2,q3⟩:=hp;exact⟨v,H',σ',q,q1,q2,q3.no⟩
  |panicked c=>exact hp
  |outgrown=>exact hp.elim⟩
def Fo.size:Fo->Nat
 |.nil=>0
 |.pl _ _ r=>r.size+1
 |.br _ _ _ u v r=>u.size+v.size+r.size+1
theorem aM.len{cs:List (Int×Int)}{out:List Int}:∀{o:Fo} {a b:Nat},aM cs out o a b->a+o.len<=b
 |.nil,a,b,h=>by cases h;simp[Fo.len]
 |.pl x y r,a,b,h=>by
  obtain⟨_,h1,_,_,h2⟩:=h
  have:=h2.len
  simp only[Fo.len]
  omega
 |.br op x y u v r,a,b,h=>by
  obtain⟨_,_,_,⟨m,_,h1,_,_,h2⟩,h3⟩:=h
  have:=h3.len
  simp only[Fo.len]
  rcases h2 with⟨_,e,_,h4,_,_,h5⟩|⟨_,_,h5⟩<;>omega
theorem sw(cs:List (Int×Int)):(∃a e:Int,e≠0/\qy cs=([],a,e)/\aD cs=(.nil,a,e))\/
  (∃out o,qy cs=(out,0,0)/\aD cs=(o,0,0)/\cs.length<=1024/\out.length=cs.length/\aM cs out o 0 cs.length):=by
 by_cases h:1024<cs.length
 ·exact .inl ⟨0,6,by decide,by rw[qy,if_pos h],by rw[aD,if_pos h]⟩
 have k:=nQ cs
 cases hr:cR cs with
 |error x=>
  rw[hr] at k
  exact .inl ⟨x,15,by decide,by rw[qy,if_neg h,show gX cs= .error x from k],by rw[aD,if_neg h,hr]⟩
 |ok q=>
  obtain⟨o,pt⟩:=q
  rw[hr] at k
  obtain⟨out,k1,k2,k3⟩:=k
  have k1':=k1
  rw[gX] at k1'
  cases hs:bJ cs cs.length 0 (A5 cs) with
  |error x=>rw[hs] at k1';cases k1'
  |ok s=>
   rw[hs] at k1'
   dsimp only at k1'
   by_cases hop:s.op=[]
   ·rw[if_pos hop] at k1'
    have hout:s.out=out:=by injection k1'
    obtain⟨out',p1,p2,p3⟩:=qK cs.length 0 (A5 cs) s out hs (by omega) (aa0 cs) (λ_ _ _=>by rw[hout]) k2
    have p1':A9 cs cs.length 0 out []=some out':=p1
    exact .inr ⟨out',o,by rw[qy,if_neg h,k1];show((A9 cs cs.length 0 out []).getD [],(0:Int),(0:Int))=_;rw[p1'];rfl,by rw[aD,if_neg h,hr],by omega,p2,k3.congr30 p3⟩
   ·rw[if_neg hop] at k1'
    cases k1'
def jn(la:List (Bool×Int))(loc:Int)(x:Int×Int):Prop:=((x.1=1\/x.1=2)/\loc<=x.2)\/((x.1=3\/x.1=4)/\(la.length:Int)<=x.2)
instance (la:List (Bool×Int)) (loc:Int) (x:Int×Int):Decidable (jn la loc x):=by unfold jn;exact inferInstance
def jY(la:List (Bool×Int))(loc:Int):List (Int×Int)->Nat->Int×Int
 |[],_=>(0,0)
 |x::l,k=>if jn la loc x then((k:Int),2) else jY la loc l (k+1)
def cZ(la:List (Bool×Int))(loc:Int)(cs:List (Int×Int)):Int×Int:=if bh la loc cs=0 then(if(aD cs).2.2=0 then jY la loc cs 0 else((aD cs).2.1,(aD cs).2.2)) else(0,bh la loc cs)
theorem i9(la:List (Bool×Int))(loc:Int)(cs:List (Int×Int))(hl:la.length<=9223372036854775807)(hc:cs.length<=9223372036854775807)(ha:cL cs):bU Tryz.prog 28 [aK la loc cs] [.v (.n .i64 (cZ la loc cs).1),.v (.n .i64 (cZ la loc cs).2)]:=by
 refine ah aE Wl ⟨by simp,by decide⟩ ?_
 simp only[aF,aK]
 repeat first|with_reducible refine au ?_|simp only[go_sem,simprocAttr]
 by_cases hf:bh la loc cs=0
 rotate_left
 ·have hF:cZ la loc cs=(0,bh la loc cs):=if_neg hf
  rw[hF]
  refine b6 ([aK la loc cs]) (mI la loc cs hl hc ha hf) ?_
  repeat first|with_reducible refine au ?_|simp only[hf,ne_eq,not_false_eq_true,decide_true,decide_false,Bool.not_false,go_sem,simprocAttr]
  exact⟨[_,_],rfl,⟨rfl,rfl⟩,⟨rfl,rfl⟩,trivial⟩
 refine b6 ([aK la loc cs]) (kT la loc cs ha hf) ?_
 repeat first|with_reducible refine au ?_|simp only[ne_eq,not_true_eq_false,decide_true,decide_false,Bool.not_true,go_sem,simprocAttr]
 refine b6 ([.fs 2 cs.length (pI cs)]) (kj cs) ?_
 by_cases hp:(aD cs).2.2=0
 rotate_left
 ·have hF:cZ la loc cs=((aD cs).2.1,(aD cs).2.2):=by rw[cZ,if_pos hf,if_neg hp]
  rw[hF]
  repeat first|with_reducible refine au ?_|simp only[hp,ne_eq,not_false_eq_true,decide_true,decide_false,Bool.not_false,go_sem,simprocAttr]
  exact⟨[_,_],rfl,⟨rfl,rfl⟩,⟨rfl,rfl⟩,trivial⟩
 have hF:cZ la loc cs=jY la loc cs 0:=by rw[cZ,if_pos hf,if_pos hp]
 rw[hF]
 repeat first|with_reducible refine au ?_|simp only[hp,ne_eq,not_true_eq_false,decide_true,decide_false,Bool.not_true,go_sem,simprocAttr]
 refine GA.loop (I:=λm e H=>∃k:Nat,m=cs.length-k/\k<=cs.length/\jY la loc cs 0=jY la loc (cs.drop k) k/\e=aA [(1,.p 0 0),(31,.fs 2 cs.length (pI cs)),(32,.n .i64 cs.length),(33,.n .i64 k)]/\H=ag [aa 0 25 [.fs 2 la.length (pA la),.n .i64 loc,.fs 2 cs.length (pI cs)]]) (Wk.mk [0] [] ?_ ?_ ?_) ⟨0,rfl,Nat.zero_le _,rfl,rfl,rfl⟩ ?_
 ·exact aZ
 ·exact .cr (.j3) .nil
 ·simp
 rintro m e H ⟨k,rfl,hk,hs,rfl,rfl⟩
 have h0:(0:Int)<=(k:Int):=by omega
 by_cases h:k<cs.length
 rotate_left
 ·have h':¬(k:Int)<cs.length:=by omega
  have:k=cs.length:=by omega
  subst this
  rw[List.drop_length,jY] at hs
  rw[hs]
  repeat first|with_reducible refine au ?_|simp only[h',decide_false,go_sem,simprocAttr]
  exact⟨[_,_],rfl,⟨rfl,rfl⟩,⟨rfl,rfl⟩,trivial⟩
 have h':(k:Int)<cs.length:=by omega
 have wk:IntKind.i64.wrap ((k:Int)+1)=((k+1:Nat):Int):=(aj (by omega)).trans (by omega)
 have hx:=ha _ (eN (d:=(0,0)) h)
 have wx:IntKind.i64.wrap (cs.getD k (0,0)).2=(cs.getD k (0,0)).2:=aj (by omega)
 rw[cE (d:=(0,0)) h,jY] at hs
 have nx:∀(v:Int),(cs.getD k (0,0)).1=v->¬(v=1\/v=2)->¬(v=3\/v=4)->¬jn la loc (cs.getD k (0,0)):=λv e h1 h2 hb=>by
  subst e
  rcases hb with hb|hb
  ·exact h1 hb.1
  ·exact h2 hb.1
 by_cases hop:(cs.getD k (0,0)).1=1\/(cs.getD k (0,0)).1=2
 ·have h34:¬((cs.getD k (0,0)).1=3\/(cs.getD k (0,0)).1=4):=by omega
  by_cases hb:loc<=(cs.getD k (0,0)).2
  ·rw[if_pos (.inl ⟨hop,hb⟩)] at hs
   rw[hs]
   rcases hop with e|e
   all_goals
    repeat first|with_reducible refine au ?_|simp only[h0,h',cT,oZ,e,wx,hb,ge_iff_le,decide_true,decide_false,go_sem,simprocAttr]
    exact⟨[_,_],rfl,⟨rfl,rfl⟩,⟨rfl,rfl⟩,trivial⟩
  ·rw[if_neg (λh=>h.elim (λh=>hb h.2) (λh=>h34 h.1))] at hs
   rcases hop with e|e
   all_goals
    repeat first|with_reducible refine au ?_|simp only[h0,h',cT,oZ,e,wx,hb,wk,ge_iff_le,decide_true,decide_false,go_sem,simprocAttr]
    refine⟨_,_,_,?_,Wk.mk [0] [] ?_ ?_ ?_,k+1,rfl,by omega,hs,rfl,rfl⟩
    ·omega
    ·exact aZ
    ·exact .cr .ls .nil
    ·simp
 have n1:¬(cs.getD k (0,0)).1=1:=λh=>hop (.inl h)
 have n2:¬(cs.getD k (0,0)).1=2:=λh=>hop (.inr h)
 by_cases hop2:(cs.getD k (0,0)).1=3\/(cs.getD k (0,0)).1=4
 ·by_cases hb:(la.length:Int)<=(cs.getD k (0,0)).2
  ·rw[if_pos (.inr ⟨hop2,hb⟩)] at hs
   rw[hs]
   rcases hop2 with e|e
   all_goals
    repeat first|with_reducible refine au ?_|simp only[h0,h',cT,oZ,e,wx,hb,ge_iff_le,decide_true,decide_false,go_sem,simprocAttr]
    exact⟨[_,_],rfl,⟨rfl,rfl⟩,⟨rfl,rfl⟩,trivial⟩
  ·rw[if_neg (λh=>h.elim (λh=>hop h.1) (λh=>hb h.2))] at hs
   rcases hop2 with e|e
   all_goals
    repeat first|with_reducible refine au ?_|simp only[h0,h',cT,oZ,e,wx,hb,wk,ge_iff_le,decide_true,decide_false,go_sem,simprocAttr]
    refine⟨_,_,_,?_,Wk.mk [0] [] ?_ ?_ ?_,k+1,rfl,by omega,hs,rfl,rfl⟩
    ·omega
    ·exact aZ
    ·exact .cr .ls .nil
    ·simp
 have n3:¬(cs.getD k (0,0)).1=3:=λh=>hop2 (.inl h)
 have n4:¬(cs.getD k (0,0)).1=4:=λh=>hop2 (.inr h)
 rw[if_neg (λh=>h.elim (λh=>hop h.1) (λh=>hop2 h.1))] at hs
 repeat first|with_reducible refine au ?_|simp only[h0,h',cT,oZ,n1,n2,n3,n4,wk,decide_true,decide_false,go_sem,simprocAttr]
 refine⟨_,_,_,?_,Wk.mk [0] [] ?_ ?_ ?_,k+1,rfl,by omega,hs,rfl,rfl⟩
 ·omega
 ·exact aZ
 ·exact .cr .ls .nil
 ·simp
theorem cf(k:IntKind)(x:Int):dA (pure (Value.int k x))=some (.n k x):=rfl
def bj(n:Int):Int:=if 281474976710657<n then 281474976710657 else n
def bb(a n:Int):Int:=if 0<n/\281474976710657 / n<a then 281474976710657 else bj (a*n)
def nv(n:Int):Int×Int:=if 281474976710657<=n then(0,18) else(n,0)
theorem aC{n:Int}(h:0<=n):0<=bj n/\bj n<=281474976710657:=by unfold bj;split<;>omega
theorem bz{a n:Int}(h:0<=a)(hn:0<=n):0<=bb a n/\bb a n<=281474976710657:=by
 unfold bb
 split
 ·omega
 ·exact aC (Int.mul_nonneg h hn)
theorem fI(a b:Int)(ha:0<=a/\a<=1125899906842624)(hb:0<=b/\b<=1125899906842624):bU Tryz.prog 66 [.n .i64 a,.n .i64 b] [.v (.n .i64 (bj (a+b)))]:=by
 refine ah aE Dh ⟨by simp,by decide⟩ ?_
 simp only[aF]
 have w:IntKind.i64.wrap (a+b)=a+b:=aj (by omega)
 repeat first|with_reducible refine au ?_|simp only[w,ol,gz,Cb,go_sem,simprocAttr]
 exact ae rfl rfl
theorem ir(n:Int):bU Tryz.prog 23 [.n .i64 n] [.v (.n .i64 (nv n).1),.v (.n .i64 (nv n).2)]:=by
 refine ah aE Df ⟨by simp,by decide⟩ ?_
 simp only[aF]
 by_cases h:281474976710657<=n
 ·rw[show nv n=(0,18) from if_pos h]
  repeat first|with_reducible refine au ?_|simp only[h,ge_iff_le,decide_true,go_sem,simprocAttr]
  exact⟨[_,_],rfl,⟨rfl,rfl⟩,⟨rfl,rfl⟩,trivial⟩
 ·rw[show nv n=(n,0) from if_neg h]
  repeat first|with_reducible refine au ?_|simp only[h,ge_iff_le,decide_false,go_sem,simprocAttr]
  exact⟨[_,_],rfl,⟨rfl,rfl⟩,⟨rfl,rfl⟩,trivial⟩
theorem nI(a n:Int)(ha:0<=a/\a<=281474976710657)(hn:0<=n/\n<=65536):bU Tryz.prog 24 [.n .i64 a,.n .i64 n] [.v (.n .i64 (bb a n))]:=by
 refine ah aE Dg ⟨by simp,by decide⟩ ?_
 simp only[aF]
 by_cases h:0<n
 ·have hq:¬n=0:=by omega
  have wq:IntKind.i64.wrap (Int.tdiv 281474976710657 n)=281474976710657 / n:=by
   rw[Int.tdiv_eq_ediv_of_nonneg (by decide)]
   have h1:281474976710657 / n<=281474976710657:=Int.ediv_le_self _ (by decide)
   have h2:0<=281474976710657 / n:=Int.ediv_nonneg (by decide) (by omega)
   exact aj (by omega)
  by_cases hc:281474976710657 / n<a
  ·rw[show bb a n=281474976710657 from if_pos ⟨h,hc⟩]
   repeat first|with_reducible refine au ?_|simp only[h,kg hq,hq,if_false,cf,wq,hc,gt_iff_lt,decide_true,go_sem,simprocAttr]
   exact ae rfl rfl
  ·rw[show bb a n=bj (a*n) from if_neg (λk=>hc k.2)]
   have hp:a*n<=281474976710657:=by
    have:=Int.mul_le_of_le_ediv h (Int.not_lt.1 hc)
    exact this
   have hp0:0<=a*n:=Int.mul_nonneg ha.1 hn.1
   have w:IntKind.i64.wrap (a*n)=a*n:=aj (by omega)
   repeat first|with_reducible refine au ?_|simp only[h,kg hq,hq,if_false,cf,wq,hc,w,gt_iff_lt,ol,gz,Cb,decide_true,decide_false,go_sem,simprocAttr]
   exact ae rfl rfl
 ·obtain rfl:n=0:=by omega
  rw[show bb a 0=bj (a*0) from if_neg (λk=>h k.1)]
  have w:IntKind.i64.wrap (a*0)=a*0:=aj (by omega)
  repeat first|with_reducible refine au ?_|simp only[h,w,gt_iff_lt,ol,gz,Cb,decide_false,go_sem,simprocAttr]
  exact ae rfl rfl
abbrev Iv:=Int×Int
abbrev Vl:=Bool×Iv
abbrev cN(x:Iv):Prop:=0<=x.1/\x.1<=x.2/\x.2<=4294967295
def iY(i j:Int):Int:=if j<i then j else i
def aQ(i j:Int):Int:=if i<j then j else i
def wz(x:Iv):Int:=if x.1<0\/4294967295<x.1\/x.2<0\/4294967295<x.2 then 2 else if x.2<x.1 then 29 else 0
theorem iT{x:Iv}:wz x=0↔cN x:=by
 unfold wz
 split
 ·rename_i h;constructor
  ·intro h';cases h'
  ·intro h';omega
 ·split
  ·rename_i h1 h2;constructor
   ·intro h';cases h'
   ·intro h';omega
  ·rename_i h1 h2;constructor
   ·intro _;refine⟨?_,?_,?_⟩<;>omega
   ·intro _;rfl
def fO(x y:Iv):Iv:=if cN x/\cN y then(iY x.1 y.1,aQ x.2 y.2) else(0,0)
def Cu(n:Int):Int:=if n<=255 then 255 else if n<=65535 then 65535 else 4294967295
def ft(x y:Iv):Iv:=if cN x/\cN y then(if y.1<x.1 then 0 else x.1,if x.2<y.2 then Cu y.2 else x.2) else(0,0)
def dm(x y:Iv):Bool:=decide (cN x/\cN y)&&decide (y.1<=x.1)&&decide (x.2<=y.2)
theorem yA{x y:Iv}:cN (fO x y):=by
 unfold fO iY aQ
 split
 ·rename_i h
  obtain⟨⟨h1,h2,h3⟩,h4,h5,h6⟩:=h
  refine⟨?_,?_,?_⟩<;>(dsimp only;repeat' split)<;>omega
 ·exact⟨by decide,by decide,by decide⟩
theorem vc{x y:Iv}:cN (ft x y):=by
 unfold ft Cu
 split
 ·rename_i h
  obtain⟨⟨h1,h2,h3⟩,h4,h5,h6⟩:=h
  refine⟨?_,?_,?_⟩<;>(dsimp only;repeat' split)<;>omega
 ·exact⟨by decide,by decide,by decide⟩
theorem oa{x:Iv}(h:cN x):fO x x=x:=by
 unfold fO iY aQ
 rw[if_pos ⟨h,h⟩,if_neg (Int.lt_irrefl _),if_neg (Int.lt_irrefl _)]
theorem r7{x:Iv}(h:cN x):ft x x=x:=by
 unfold ft
 rw[if_pos ⟨h,h⟩,if_neg (Int.lt_irrefl _),if_neg (Int.lt_irrefl _)]
theorem pV{x:Iv}(h:cN x):dm x x=true:=by simp[dm,h]
theorem pW{x:Iv}(h:cN x):dm x (0,4294967295)=true:=by
 have:cN (0,4294967295):=⟨by decide,by decide,by decide⟩
 simp[dm,h]
/-! ### the arithmetic of intervals-/
def fJ(n:Int):Int:=if n=0 then 0 else(2:Int)^(Nat.log2 n.toNat+1)-1
def cX(l h:Int):Iv:=if 0<=l/\h<=4294967295 then(l,h) else if 4294967295<l then(l-4294967296,h-4294967296) else if h<0 then(l+4294967296,h+4294967296) else(0,4294967295)
def abO(a b:Int):Int:=IntKind.u32.wrap ((BitVec.ofInt 32 a&&& BitVec.ofInt 32 b).toNat:Int)
def orU(a b:Int):Int:=IntKind.u32.wrap ((BitVec.ofInt 32 a|||BitVec.ofInt 32 b).toNat:Int)
def uF(a b:Int):Int:=IntKind.u32.wrap ((BitVec.ofInt 32 a ^^^ BitVec.ofInt 32 b).toNat:Int)
def E3(a b:Int):Int:=uF (IntKind.u32.wrap (uF a (IntKind.u32.wrap (b*2654435761))*2246822519)) (IntKind.u32.wrap (uF a (IntKind.u32.wrap (b*2654435761))*2246822519) / 65536)
def cC(op a b:Int):Int:=
 if op=8 then IntKind.u32.wrap (a+b) else if op=9 then IntKind.u32.wrap (a-b) else if op=10 then IntKind.u32.wrap (a*b) else if op=11 then a / b else if op=12 then a%b
 else if op=13 then abO a b else if op=14 then orU a b else if op=15 then uF a b else if op=16 then IntKind.u32.wrap (a*2^(b%32).toNat) else if op=17 then a / 2^(b%32).toNat
 else if op=18 then iY a b else if op=19 then aQ a b else E3 a b
def b7(op:Int)(x y:Iv):Iv:=
 if op=8 then cX (x.1+y.1) (x.2+y.2) else if op=9 then cX (x.1-y.2) (x.2-y.1)
 else if op=10 then(if 0<y.2/\4294967295 / y.2<x.2 then(0,4294967295) else(x.1*y.1,x.2*y.2))
 else if op=11 then(x.1 / y.2,x.2 / y.1)
 else if op=12 then(if x.2<y.1 then x else(0,iY x.2 (y.2-1)))
 else if op=13 then(0,iY x.2 y.2) else if op=14 then(aQ x.1 y.1,fJ (aQ x.2 y.2)) else if op=15 then(0,fJ (aQ x.2 y.2))
 else if op=16 then(if y.1≠y.2\/4294967295 / 2^(y.1%32).toNat<x.2 then(0,4294967295) else(x.1*2^(y.1%32).toNat,x.2*2^(y.1%32).toNat))
 else if op=17 then(if y.2<=31 then(x.1 / 2^y.2.toNat,x.2 / 2^y.1.toNat) else if y.1=y.2 then(x.1 / 2^(y.1%32).toNat,x.2 / 2^(y.1%32).toNat) else(0,x.2))
 else if op=18 then(iY x.1 y.1,iY x.2 y.2) else if op=19 then(aQ x.1 y.1,aQ x.2 y.2) else(0,4294967295)
def bg(op:Int)(x y:Iv):Iv×Int:=
 if y.1=0/\(op=11\/op=12) then((0,0),17) else if x.1=x.2/\y.1=y.2 then((cC op x.1 y.1,cC op x.1 y.1),0) else(b7 op x y,0)
/-! ### the state-/
structure WS where
 loc:List Iv
 st:List Vl
 ht:Int
 lv:List (List Iv)
 lp:List (Int×Int)
abbrev Er:=Int×Int
abbrev Bd:=Int×Int
def bw(b c:Bd):Bd:=(bj (b.1+c.1),bj (b.2+c.2))
def fu(b:Bd)(n:Int):Bd:=(bb (bj (b.1+1)) n,bb b.2 n)
def okT(c:UInt8)(v:Vl):Bool:=if c=110 then !v.1 else if c=116 then v.1 else true
def jE:List Vl->List UInt8->Bool
 |v::l,c::m=>okT c v&&jE l m
 |_,_=>true
def eW(p:Int)(base:Nat)(ty:List UInt8)(S:WS):Except Er (List Vl×WS):=
 if S.st.length<base+ty.length then .error (p,14)
 else if jE (S.st.drop (S.st.length-ty.length)) ty=true then .ok (S.st.drop (S.st.length-ty.length),{S with st:=S.st.take (S.st.length-ty.length)})
 else .error (p,13)
def bV(p:Int)(l:List Vl)(S:WS):Except Er WS:=if(S.st++l).length<=32 then .ok {S with st:=S.st++l,ht:=aQ S.ht ((S.st++l).length:Nat)} else .error (p,14)
def dE(la:List (Bool×Int))(arg:Int)(p:Int)(v:Vl):Except Er Iv:=
 if v.2.2<(la.getD arg.toNat (false,0)).2 then .ok (if(la.getD arg.toNat (false,0)).1=true then(0,4294967295) else(0,255)) else .error (p,16)
def eY(op:Int):List UInt8×List UInt8:=
 if op=0\/op=1\/op=32 then([],[110]) else if op=2\/op=34\/op=35\/op=29 then([110],[]) else if op=3 then([110],[110]) else if op=4 then([110,110],[])
 else if op=5 then([97],[97,97]) else if op=6 then([97],[]) else if op=7 then([97,98],[98,97]) else if 8<=op/\op<=20 then([110,110],[110]) else if op=21\/op=22 then([110,110],[116])
 else if op=23 then([116],[116]) else if op=24\/op=25 then([116,116],[116]) else if op=26 then([116],[110]) else if op=27\/op=30 then([116],[]) else if op=33 then([],[116]) else([],[])
def v0:Vl:=(false,0,0)
def cq(b:Bd):Except Er WS->Except Er (WS×Bd)
 |.error e=> .error e
 |.ok S=> .ok (S,b)
def b8(la:List (Bool×Int))(op arg:Int)(p:Int)(l:List Vl)(S:WS):Except Er (WS×Bd):=
 if op=0 then cq (1,0) (bV p [(false,arg,arg)] S)
 else if op=1 then cq (1,0) (bV p [(false,S.loc.getD arg.toNat (0,0))] S)
 else if op=2 then .ok ({S with loc:=S.loc.set arg.toNat (l.getD 0 v0).2},(1,0))
 else if op=3 then match dE la arg p (l.getD 0 v0) with
  |.error e=> .error e
  |.ok x=>cq (1,0) (bV p [(false,x)] S)
 else if op=4 then match dE la arg p (l.getD 0 v0) with
  |.error e=> .error e
  |.ok x=> .ok (S,(1,0))
 else if op=5 then cq (1,0) (bV p [l.getD 0 v0,l.getD 0 v0] S)
 else if op=7 then cq (1,0) (bV p [l.getD 1 v0,l.getD 0 v0] S)
 else if op=6\/op=35 then .ok (S,(1,0))
 else if op=34 then .ok (S,(1,1))
 else if op=32 then cq (1,0) (bV p [(false,0,4294967295)] S)
 else if op=26 then cq (1,0) (bV p [(false,0,1)] S)
 else if(eY op).2=[116] then cq (1,0) (bV p [(true,0,0)] S)
 else if(bg op (l.getD 0 v0).2 (l.getD 1 v0).2).2=0 then cq (1,0) (bV p [(false,(bg op (l.getD 0 v0).2 (l.getD 1 v0).2).1)] S)
 else .error (p,(bg op (l.getD 0 v0).2 (l.getD 1 v0).2).2)
def dL(la:List (Bool×Int))(op arg:Int)(p:Int)(base:Nat)(S:WS):Except Er (WS×Bd):=match eW p base (eY op).1 S with
 |.error e=> .error e
 |.ok (l,S1)=>b8 la op arg p l S1
def fv(cs:List (Int×Int))(la:List (Bool×Int))(base loop:Nat)(p:Nat)(S:WS):Except Er (WS×Bd):=
 if am cs p=30 then match eW p base [116] S with
  |.error e=> .error e
  |.ok (_,S1)=>if S1.st.length=loop then .ok ({S1 with lv:=S1.lv++[S1.loc]},(1,0)) else .error (p,14)
 else dL la (am cs p) (cs.getD p (0,0)).2 p base S
def g8(cs:List (Int×Int))(la:List (Bool×Int))(base loop:Nat):Nat->Nat->WS->Bd->Except Er (WS×Bd)
 |0,_,S,b=> .ok (S,b)
 |n+1,p,S,b=>match fv cs la base loop p S with
  |.error e=> .error e
  |.ok (S',x)=>g8 cs la base loop n (p+1) S' (bw b x)
def bK:List Iv->List Iv->List Iv
 |[],_=>[]
 |x::l,m=>fO x (m.headD (0,0))::bK l m.tail
def b9:List Iv->List Iv->Bool
 |[],[]=>true
 |x::l,y::m=>dm x y&&b9 l m
 |_,_=>false
def stoF(cs:List (Int×Int)):Nat->Nat->Nat->Bool
 |_,0,_=>false
 |p,n+1,i=>decide (cs.getD p (0,0)=(2,(i:Int)))||stoF cs (p+1) n i
def dT(sto:Nat->Bool)(pass:Int):Nat->List Iv->List Iv->List Iv
 |_,[],_=>[]
 |i,x::l,m=>(if pass<3 then ft x (fO x (m.headD (0,0))) else if sto i=true then(0,4294967295) else x)::dT sto pass (i+1) l m.tail
def gF(body:WS->Option (Except Er (WS×Bd)))(to h:Nat)(sto:Nat->Bool):Nat->Int->List Iv->WS->Option (Except Er (List Iv×WS×Bd))
 |0,_,_,_=>none
 |f+1,pass,head,S=>match body {S with loc:=head,lv:=[]} with
  |none=>none
  |some (.error e)=>some (.error e)
  |some (.ok (S',b))=>if S'.st.length=h then(if b9 S'.loc head=true then some (.ok (head,S',b)) else gF body to h sto f (pass+1) (dT sto pass 0 head S'.loc) S') else some (.error (to,14))
def fL:List (Int×Int)->Int->Int->List (Int×Int)
 |[],p,n=>[(p,n)]
 |x::l,p,n=>if x.1=p then(p,n)::l else x::fL l p n
def aR(cs:List (Int×Int))(la:List (Bool×Int)):Fo->Nat->Nat->WS->Bd->Option (Except Er (WS×Bd))
 |.nil,_,_,S,b=>some (.ok (S,b))
 |.pl x y r,base,loop,S,b=>match g8 cs la base loop (y-x) x S b with
  |.error e=>some (.error e)
  |.ok (S',b')=>aR cs la r base loop S' b'
 |.br op x y u v r,base,loop,S,b=>
  if op=27 then match eW x base [116] S with
   |.error e=>some (.error e)
   |.ok (_,S1)=>match aR cs la u S1.st.length loop S1 (0,0) with
    |none=>none
    |some (.error e)=>some (.error e)
    |some (.ok (S2,bx))=>
     if S2.st.length=S1.st.length then
      if am cs (u.lastB (x+1))=28 then match aR cs la v S1.st.length loop {S2 with loc:=S1.loc} (0,0) with
       |none=>none
       |some (.error e)=>some (.error e)
       |some (.ok (S4,by_))=>
        if S4.st.length=S1.st.length then aR cs la r base loop {S4 with loc:=bK S2.loc S4.loc} (bw b (bw (aQ bx.1 by_.1,aQ bx.2 by_.2) (1,0)))
        else some (.error ((v.lastB (u.lastB (x+1)+1):Nat),14))
      else aR cs la r base loop {S2 with loc:=bK S2.loc S1.loc} (bw b (bw (aQ bx.1 0,aQ bx.2 0) (1,0)))
     else some (.error ((u.lastB (x+1):Nat),14))
  else match eW x base [110] S with
   |.error e=>some (.error e)
   |.ok (l,S1)=>
    if(l.getD 0 v0).2.2<=65536 then match gF (λS'=>aR cs la u S1.st.length S1.st.length S' (0,0)) (u.lastB (x+1)) S1.st.length (stoF cs x (u.lastB (x+1)-x)) 6 1 S1.loc S1 with
     |none=>none
     |some (.error e)=>some (.error e)
     |some (.ok (head,S2,bx))=>aR cs la r base loop {S2 with loc:=S2.lv.foldl bK head,lv:=S1.lv,lp:=fL S2.lp x (l.getD 0 v0).2.2} (bw b (bw (fu bx (l.getD 0 v0).2.2) (1,0)))
    else some (.error (x,18))
def rV(n:Nat)(l:List Iv):Prop:=l.length=n/\∀x ∈ l,cN x
structure WF(n:Nat)(S:WS):Prop where
 loc:rV n S.loc
 st:∀v ∈ S.st,cN v.2
 lv:∀l ∈ S.lv,rV n l
def i5(b:Bd):Prop:=(0<=b.1/\b.1<=281474976710657)/\0<=b.2/\b.2<=281474976710657
theorem a7{b c:Bd}(hb:0<=b.1/\0<=b.2)(hc:0<=c.1/\0<=c.2):i5 (bw b c):=⟨aC (by omega),aC (by omega)⟩
theorem iE{b:Bd}(hb:i5 b){n:Int}(hn:0<=n):i5 (fu b n):=⟨bz (aC (by have:=hb.1;omega)).1 hn,bz hb.2.1 hn⟩
theorem eM:∀(l m:List Iv),(bK l m).length=l.length
 |[],_=>rfl
 |x::l,m=>by simp[bK,eM l m.tail]
theorem qS:∀(l m:List Iv),∀x ∈ bK l m,cN x
 |[],_,x,h=>by cases h
 |y::l,m,x,h=>by
  rcases List.mem_cons.1 h with rfl|h
  ·exact yA
  ·exact qS l m.tail x h
theorem dP{n:Nat}{l:List Iv}(h:l.length=n)(m:List Iv):rV n (bK l m):=⟨(eM l m).trans h,qS l m⟩
theorem qX{l:List Iv}(h:∀x ∈ l,cN x)(i:Nat):cN (l.getD i (0,0)):=by
 rw[List.getD_eq_getElem?_getD]
 cases hi:l[i]? with
 |none=>exact⟨by decide,by decide,by decide⟩
 |some x=>exact h x (List.mem_of_getElem? hi)
theorem dy{l:List Vl}(h:∀v ∈ l,cN v.2)(i:Nat):cN (l.getD i v0).2:=by
 rw[List.getD_eq_getElem?_getD]
 cases hi:l[i]? with
 |none=>exact⟨by decide,by decide,by decide⟩
 |some x=>exact h x (List.mem_of_getElem? hi)
theorem iM:∀(l m:List Iv) (i:Nat),i<l.length->(bK l m).getD i (0,0)=fO (l.getD i (0,0)) (m.getD i (0,0))
 |[],_,i,h=>absurd h (Nat.not_lt_zero _)
 |x::l,m,0,h=>by cases m<;>rfl
 |x::l,m,i+1,h=>by
  have:=iM l m.tail i (by simpa using h)
  cases m with
  |nil=>simpa [bK] using this
  |cons y m=>simpa [bK] using this
theorem ip{n:Nat}:∀(ls:List (List Iv)) (h:List Iv),rV n h->rV n (ls.foldl bK h)
 |[],h,hh=>hh
 |l::ls,h,hh=>ip ls _ (dP hh.1 l)
theorem jp(sto:Nat->Bool)(p:Int):∀(i:Nat) (l m:List Iv),(dT sto p i l m).length=l.length
 |_,[],_=>rfl
 |i,x::l,m=>by simp[dT,jp sto p (i+1) l m.tail]
theorem eS:cN (0,4294967295):=⟨by decide,by decide,by decide⟩
theorem oB(sto:Nat->Bool)(p:Int):∀(i:Nat) (l m:List Iv),(∀x ∈ l,cN x)->∀x ∈ dT sto p i l m,cN x
 |_,[],_,_,x,h=>by cases h
 |i,y::l,m,hl,x,h=>by
  rcases List.mem_cons.1 h with rfl|h
  ·split
   ·exact vc
   ·split
    ·exact eS
    ·exact hl y (List.mem_cons_self ..)
  ·exact oB sto p (i+1) l m.tail (λx hx=>hl x (List.mem_cons_of_mem _ hx)) x h
theorem gw{n:Nat}{l:List Iv}(h:rV n l)(sto:Nat->Bool)(p:Int)(i:Nat)(m:List Iv):rV n (dT sto p i l m):=⟨(jp sto p i l m).trans h.1,oB sto p i l m h.2⟩
theorem gq(sto:Nat->Bool)(p:Int):∀(k:Nat) (l m:List Iv) (i:Nat),i<l.length->(dT sto p k l m).getD i (0,0)=if p<3 then ft (l.getD i (0,0)) (fO (l.getD i (0,0)) (m.getD i (0,0))) else if sto (k+i)=true then(0,4294967295) else l.getD i (0,0)
 |_,[],_,i,h=>absurd h (Nat.not_lt_zero _)
 |k,x::l,m,0,h=>by cases m<;>rfl
 |k,x::l,m,i+1,h=>by
  have:=gq sto p (k+1) l m.tail i (by simpa using h)
  rw[show k+1+i=k+(i+1) by omega] at this
  cases m with
  |nil=>simpa [dT] using this
  |cons y m=>simpa [dT] using this
theorem lI{n:Nat}:∀{l m:List Iv},l.length=m.length->(∀i,i<l.length->dm (l.getD i (0,0)) (m.getD i (0,0))=true)->b9 l m=true
 |[],[],_,_=>rfl
 |[],_::_,h,_=>by simp at h
 |_::_,[],h,_=>by simp at h
 |x::l,y::m,h,hw=>by
  have h0:dm x y=true:=hw 0 (by simp)
  rw[b9,h0,Bool.true_and]
  exact lI (n:=n) (by simpa using h) λi hi=>hw (i+1) (by simpa using hi)
theorem jx(cs:List (Int×Int))(i:Nat):∀(p n:Nat),stoF cs p n i=true↔∃k,p<=k/\k<p+n/\cs.getD k (0,0)=(2,(i:Int))
 |p,0=>by
  constructor
  ·intro h;cases h
  ·rintro ⟨k,h1,h2,_⟩;omega
 |p,n+1=>by
  rw[stoF,Bool.or_eq_true,decide_eq_true_eq,jx cs i (p+1) n]
  constructor
  ·rintro (h|⟨k,h1,h2,h3⟩)
   ·exact⟨p,Nat.le_refl _,by omega,h⟩
   ·exact⟨k,by omega,by omega,h3⟩
  ·rintro ⟨k,h1,h2,h3⟩
   by_cases e:k=p
   ·subst e;exact .inl h3
   ·exact .inr ⟨k,by omega,by omega,h3⟩
theorem cy{cs:List (Int×Int)}{i a n a' n':Nat}(h:stoF cs a n i=false)(h1:a<=a')(h2:a'+n'<=a+n):stoF cs a' n' i=false:=by
 rw[<-Bool.not_eq_true] at h ⊢
 intro hh
 obtain⟨k,k1,k2,k3⟩:=(jx cs i a' n').1 hh
 exact h ((jx cs i a n).2 ⟨k,by omega,by omega,k3⟩)
/-! ### pops and pushes-/
theorem BV{p:Int}{base:Nat}{ty:List UInt8}{S S1:WS}{l:List Vl}(h:eW p base ty S= .ok (l,S1)):base+ty.length<=S.st.length/\l=S.st.drop (S.st.length-ty.length)/\S1={S with st:=S.st.take (S.st.length-ty.length)}/\jE l ty=true:=by
 unfold eW at h
 split at h
 ·cases h
 ·rename_i h1
  split at h
  ·rename_i h2
   cases h
   exact⟨by omega,rfl,rfl,h2⟩
  ·cases h
theorem cd{n:Nat}{p:Int}{base:Nat}{ty:List UInt8}{S S1:WS}{l:List Vl}(h:eW p base ty S= .ok (l,S1))(hS:WF n S):WF n S1/\(∀v ∈ l,cN v.2)/\S1.loc=S.loc/\S1.lv=S.lv/\S1.lp=S.lp:=by
 obtain⟨h1,rfl,rfl,_⟩:=BV h
 exact⟨⟨hS.loc,λv hv=>hS.st v (List.mem_of_mem_take hv),hS.lv⟩,λv hv=>hS.st v (List.mem_of_mem_drop hv),rfl,rfl,rfl⟩
theorem yi{p:Int}{l:List Vl}{S S1:WS}(h:bV p l S= .ok S1):(S.st++l).length<=32/\S1={S with st:=S.st++l,ht:=aQ S.ht ((S.st++l).length:Nat)}:=by
 unfold bV at h
 split at h
 ·rename_i h1;cases h;exact⟨h1,rfl⟩
 ·cases h
theorem yh{n:Nat}{p:Int}{l:List Vl}{S S1:WS}(h:bV p l S= .ok S1)(hS:WF n S)(hl:∀v ∈ l,cN v.2):WF n S1/\S1.loc=S.loc/\S1.lv=S.lv/\S1.lp=S.lp:=by
 obtain⟨_,rfl⟩:=yi h
 exact⟨⟨hS.loc,λv hv=>by rcases List.mem_append.1 hv with h|h;exact hS.st v h;exact hl v h,hS.lv⟩,rfl,rfl,rfl⟩
theorem xO{b b':Bd}{r:Except Er WS}{S:WS}(h:cq b r= .ok (S,b')):r= .ok S/\b'=b:=by
 cases r with
 |error e=>cases h
 |ok S'=>cases h;exact⟨rfl,rfl⟩
theorem Ad{la:List (Bool×Int)}{arg p:Int}{v:Vl}{x:Iv}(h:dE la arg p v= .ok x):cN x:=by
 unfold dE at h
 split at h
 ·cases h
  split
  ·exact eS
  ·exact⟨by decide,by decide,by decide⟩
 ·cases h
theorem fZ(x:Int):0<=IntKind.u32.wrap x/\IntKind.u32.wrap x<=4294967295:=by
 rw[IntKind.wrap_u32];omega
theorem tR{n:Int}(h:0<=n/\n<=4294967295):n<=fJ n/\fJ n<=4294967295:=by
 unfold fJ
 split
 ·omega
 ·rename_i h0
  obtain⟨k,rfl⟩:=Int.eq_ofNat_of_zero_le h.1
  have hk:k≠0:=by omega
  have h1:k<2^(Nat.log2 k+1):=Nat.lt_log2_self
  have h2:2^Nat.log2 k<=k:=Nat.log2_self_le hk
  have h3:Nat.log2 k<32:=(Nat.log2_lt hk).2 (by omega)
  have h4:2^(Nat.log2 k+1)<=2^32:=Nat.pow_le_pow_right (by decide) (by omega)
  have e:((2:Int)^(Nat.log2 (Int.toNat (k:Int))+1))=((2^(Nat.log2 k+1):Nat):Int):=by simp
  rw[e]
  omega
theorem jl{a b:Int}(ha:0<=a)(hb:0<=b):0<=a / b/\a / b<=a:=⟨Int.ediv_nonneg ha hb,Int.ediv_le_self _ ha⟩
theorem ju(k:Nat):(0:Int)<2^k:=by
 have:(0:Int)<2:=by decide
 exact Int.pow_pos this
theorem qC{op:Int}(h:8<=op/\op<=20):op=8\/op=9\/op=10\/op=11\/op=12\/op=13\/op=14\/op=15\/op=16\/op=17\/op=18\/op=19\/op=20:=by omega
theorem kA{op a b:Int}(h:8<=op/\op<=20)(ha:0<=a/\a<=4294967295)(hb:0<=b/\b<=4294967295)(hz:b=0->op≠11/\op≠12):0<=cC op a b/\cC op a b<=4294967295:=by
 have hd:=jl ha.1 hb.1
 have hd2:=jl ha.1 (Int.le_of_lt (ju (b%32).toNat))
 rcases qC h with rfl|rfl|rfl|rfl|rfl|rfl|rfl|rfl|rfl|rfl|rfl|rfl|rfl
 all_goals simp(config:={decide:=true}) only[cC,if_true,if_false]
 ·exact fZ _
 ·exact fZ _
 ·exact fZ _
 ·omega
 ·have h1:=Int.emod_nonneg a (show b≠0 from λh0=>(hz h0).2 rfl)
  have h2:=Int.emod_lt_of_pos a (show 0<b from by have:=λh0=>(hz h0).2 rfl;omega)
  omega
 ·exact fZ _
 ·exact fZ _
 ·exact fZ _
 ·exact fZ _
 ·omega
 ·unfold iY;split<;>omega
 ·unfold aQ;split<;>omega
 ·exact fZ _
theorem yL{a b c d:Int}(h0:0<=a)(h1:a<=b)(h2:0<=c)(h3:c<=d):0<=a*c/\a*c<=b*d:=⟨Int.mul_nonneg h0 h2,Int.mul_le_mul h1 h3 h2 (by omega)⟩
theorem qn{l h:Int}(h1: -4294967296<=l)(h2:l<=h)(h3:h<=8589934590):cN (cX l h):=by
 unfold cX
 repeat' split
 all_goals first|exact eS|(refine⟨?_,?_,?_⟩<;>dsimp only<;>omega)
theorem mN{a b c d:Int}(h0:0<=a)(h1:a<=b)(hc:0<c)(h2:c<=d):0<=a / d/\a / d<=b / c/\b / c<=b:=by
 refine⟨Int.ediv_nonneg h0 (by omega),?_,Int.ediv_le_self _ (by omega)⟩
 have e1:a / d*c<=a / d*d:=Int.mul_le_mul_of_nonneg_left h2 (Int.ediv_nonneg h0 (by omega))
 have e2:a / d*d<=a:=Int.ediv_mul_le a (by omega)
 exact(Int.le_ediv_iff_mul_le hc).2 (by omega)
theorem uW{a b:Nat}(h:a<=b):(2:Int)^a<=2^b:=by
 have:=Nat.pow_le_pow_right (show 0<2 by decide) h
 have e:∀k:Nat,((2:Int)^k)=((2^k:Nat):Int):=λk=>by simp
 rw[e,e]
 omega
theorem BL{op:Int}{x y:Iv}(h:8<=op/\op<=20)(hx:cN x)(hy:cN y)(hz:y.1=0->op≠11/\op≠12):cN (b7 op x y):=by
 obtain⟨a,b⟩:=x
 obtain⟨c,d⟩:=y
 obtain⟨x1,x2,x3⟩:=hx
 obtain⟨y1,y2,y3⟩:=hy
 dsimp only at x1 x2 x3 y1 y2 y3 hz
 have hone:=tR (n:=aQ b d) (by unfold aQ;split<;>omega)
 rcases qC h with rfl|rfl|rfl|rfl|rfl|rfl|rfl|rfl|rfl|rfl|rfl|rfl|rfl
 all_goals simp(config:={decide:=true}) only[b7,if_true,if_false]
 ·exact qn (by omega) (by omega) (by omega)
 ·exact qn (by omega) (by omega) (by omega)
 ·split
  ·exact eS
  ·rename_i hq
   have h1:=yL x1 x2 y1 y2
   refine⟨h1.1,h1.2,?_⟩
   by_cases hd:0<d
   ·exact Int.mul_le_of_le_ediv hd (show b<=4294967295 / d by omega)
   ·obtain rfl:d=0:=by omega
    show b*0<=_
    rw[Int.mul_zero];decide
 ·have h1:=mN x1 x2 (show 0<c from by have:=λh0=>(hz h0).1 rfl;omega) y2
  exact⟨h1.1,h1.2.1,by show b / c<=_;omega⟩
 ·have hc:0<c:=by have:=λh0=>(hz h0).2 rfl;omega
  unfold iY
  split
  ·exact⟨x1,x2,x3⟩
  ·refine⟨?_,?_,?_⟩<;>dsimp only<;>(repeat' split)<;>omega
 ·unfold iY
  refine⟨?_,?_,?_⟩<;>dsimp only<;>(repeat' split)<;>omega
 ·unfold aQ at*
  refine⟨?_,?_,?_⟩<;>dsimp only
  ·split<;>omega
  ·have:=hone.1
   split at this<;>split<;>omega
  ·exact hone.2
 ·exact⟨Int.le_refl _,by have:=hone.1;dsimp only;unfold aQ at*;split at this<;>omega,hone.2⟩
 ·split
  ·exact eS
  ·rename_i hq
   have hp:=ju (c%32).toNat
   have h1:=yL x1 x2 (Int.le_of_lt hp) (Int.le_refl (2^(c%32).toNat))
   exact⟨h1.1,h1.2,Int.mul_le_of_le_ediv hp (show b<=4294967295 / 2^(c%32).toNat by omega)⟩
 ·split
  ·have h1:=mN (c:=2^c.toNat) (d:=2^d.toNat) x1 x2 (ju _) (uW (by omega))
   exact⟨h1.1,h1.2.1,by show b / 2^c.toNat<=_;omega⟩
  ·split
   ·have h1:=mN (c:=2^(c%32).toNat) (d:=2^(c%32).toNat) x1 x2 (ju _) (Int.le_refl _)
    exact⟨h1.1,h1.2.1,by show b / 2^(c%32).toNat<=_;omega⟩
   ·exact⟨Int.le_refl _,by dsimp only;omega,x3⟩
 ·unfold iY
  refine⟨?_,?_,?_⟩<;>dsimp only<;>(repeat' split)<;>omega
 ·unfold aQ
  refine⟨?_,?_,?_⟩<;>dsimp only<;>(repeat' split)<;>omega
theorem wG{op:Int}{x y:Iv}(h:8<=op/\op<=20)(hx:cN x)(hy:cN y)(he:(bg op x y).2=0):cN (bg op x y).1:=by
 unfold bg at he ⊢
 split
 ·rename_i h1
  rw[if_pos h1] at he
  exact absurd he (by decide)
 ·rename_i h1
  have hz:y.1=0->op≠11/\op≠12:=λh0=>⟨λe=>h1 ⟨h0,.inl e⟩,λe=>h1 ⟨h0,.inr e⟩⟩
  split
  ·have:=kA h (a:=x.1) (b:=y.1) (by have:=hx.2;omega) (by have:=hy.2;omega) hz
   exact⟨this.1,Int.le_refl _,this.2⟩
  ·exact BL h hx hy hz
theorem sk{op:Int}(h:¬(8<=op/\op<=20))(x y:Iv):cN (b7 op x y):=by
 unfold b7
 rw[if_neg (by omega),if_neg (by omega),if_neg (by omega),if_neg (by omega),if_neg (by omega),if_neg (by omega),if_neg (by omega),if_neg (by omega),if_neg (by omega),if_neg (by omega),if_neg (by omega),if_neg (by omega)]
 exact eS
theorem rA{op:Int}(h:¬(8<=op/\op<=20))(a b:Int):0<=cC op a b/\cC op a b<=4294967295:=by
 unfold cC
 rw[if_neg (by omega),if_neg (by omega),if_neg (by omega),if_neg (by omega),if_neg (by omega),if_neg (by omega),if_neg (by omega),if_neg (by omega),if_neg (by omega),if_neg (by omega),if_neg (by omega),if_neg (by omega)]
 exact fZ _
theorem tj{op:Int}{x y:Iv}(hx:cN x)(hy:cN y)(he:(bg op x y).2=0):cN (bg op x y).1:=by
 by_cases h:8<=op/\op<=20
 ·exact wG h hx hy he
 ·unfold bg
  rw[if_neg (by omega)]
  split
  ·have:=rA h x.1 y.1
   exact⟨this.1,Int.le_refl _,this.2⟩
  ·exact sk h x y
def kD(cs:List (Int×Int)):Prop:=∀k,0<=(cs.getD k (0,0)).2/\(cs.getD k (0,0)).2<=4294967295
theorem cL.k{cs:List (Int×Int)}(h:cL cs):kD cs:=λk=>by
 rw[List.getD_eq_getElem?_getD]
 cases hk:cs[k]? with
 |none=>exact⟨by decide,by decide⟩
 |some x=>have:=h x (List.mem_of_getElem? hk);exact⟨this.1,by show x.2<=_;omega⟩
def JI(i:Nat)(x:Iv)(S:WS):Prop:=S.loc.getD i (0,0)=x/\∀l ∈ S.lv,l.getD i (0,0)=x
structure fB(cs:List (Int×Int))(n a b:Nat)(S S':WS):Prop where
 wf:WF n S'
 keep:∀i x,i<n->cN x->stoF cs a (b-a) i=false->JI i x S->JI i x S'
theorem fB.refl{cs:List (Int×Int)}{n a b:Nat}{S:WS}(h:WF n S):fB cs n a b S S:=⟨h,λ_ _ _ _ _ h=>h⟩
theorem fB.trans{cs:List (Int×Int)}{n a b c:Nat}{S S1 S2:WS}(h:fB cs n a b S S1)(h':fB cs n b c S1 S2)(h1:a<=b)(h2:b<=c):fB cs n a c S S2:=
 ⟨h'.wf,λi x hi hx hs hj=>h'.keep i x hi hx (cy hs h1 (by omega)) (h.keep i x hi hx (cy hs (Nat.le_refl _) (by omega)) hj)⟩
theorem fB.sub{cs:List (Int×Int)}{n a b a' b':Nat}{S S1:WS}(h:fB cs n a b S S1)(h1:a'<=a)(h2:b<=b')(h3:a<=b):fB cs n a' b' S S1:=
 ⟨h.wf,λi x hi hx hs hj=>h.keep i x hi hx (cy hs h1 (by omega)) hj⟩
theorem BG{n:Nat}{l:List Iv}(h:rV n l)(i:Nat){x:Iv}(hx:cN x):rV n (l.set i x):=⟨by rw[List.length_set];exact h.1,λy hy=>by
 rcases List.mem_or_eq_of_mem_set hy with hy|rfl
 ·exact h.2 y hy
 ·exact hx⟩
theorem ka:i5 (1,0):=⟨⟨by decide,by decide⟩,by decide,by decide⟩
theorem b11:i5 (1,1):=⟨⟨by decide,by decide⟩,by decide,by decide⟩
theorem jq:i5 (0,0):=⟨⟨by decide,by decide⟩,by decide,by decide⟩
theorem i5.nn{b:Bd}(h:i5 b):0<=b.1/\0<=b.2:=⟨h.1.1,h.2.1⟩
theorem abo:cN (0,1):=⟨by decide,by decide,by decide⟩
theorem nU:cN (0,0):=⟨by decide,by decide,by decide⟩
theorem kC{la:List (Bool×Int)}{n:Nat}{op arg p:Int}{l:List Vl}{S S':WS}{b:Bd}(h:b8 la op arg p l S= .ok (S',b))(ha:0<=arg/\arg<=4294967295)(hl:∀v ∈ l,cN v.2)(hS:WF n S):
  WF n S'/\i5 b/\S'.lv=S.lv/\S'.lp=S.lp/\(S'.loc=S.loc\/(op=2/\∃x,S'.loc=S.loc.set arg.toNat x)):=by
 have push:∀(l:List Vl) (b0:Bd),(∀v ∈ l,cN v.2)->i5 b0->cq b0 (bV p l S)= .ok (S',b)->WF n S'/\i5 b/\S'.lv=S.lv/\S'.lp=S.lp/\(S'.loc=S.loc\/(op=2/\∃x,S'.loc=S.loc.set arg.toNat x)):=λl b0 h1 h2 h3=>by
  obtain⟨k1,rfl⟩:=xO h3
  obtain⟨k2,k3,k4,k5⟩:=yh k1 hS h1
  exact⟨k2,h2,k4,k5,.inl k3⟩
 have one:∀(v:Vl),cN v.2->∀w ∈ [v],cN w.2:=λv hv w hw=>by rw[List.mem_singleton.1 hw];exact hv
 have two:∀(v u:Vl),cN v.2->cN u.2->∀w ∈ [v,u],cN w.2:=λv u hv hu w hw=>by
  rcases List.mem_cons.1 hw with rfl|hw
  ·exact hv
  ·rw[List.mem_singleton.1 hw];exact hu
 have g0:=dy hl 0
 have g1:=dy hl 1
 unfold b8 at h
 by_cases c:op=0
 ·rw[if_pos c] at h
  exact push _ _ (one _ ⟨ha.1,Int.le_refl _,ha.2⟩) ka h
 rw[if_neg c] at h;clear c
 by_cases c:op=1
 ·rw[if_pos c] at h
  exact push _ _ (one _ (qX hS.loc.2 _)) ka h
 rw[if_neg c] at h;clear c
 by_cases c:op=2
 ·rw[if_pos c] at h
  cases h
  exact⟨⟨BG hS.loc _ g0,hS.st,hS.lv⟩,ka,rfl,rfl,.inr ⟨c,_,rfl⟩⟩
 rw[if_neg c] at h;clear c
 by_cases c:op=3
 ·rw[if_pos c] at h
  cases he:dE la arg p (l.getD 0 v0) with
  |error e=>rw[he] at h;cases h
  |ok x=>rw[he] at h;exact push _ _ (one _ (Ad he)) ka h
 rw[if_neg c] at h;clear c
 by_cases c:op=4
 ·rw[if_pos c] at h
  cases he:dE la arg p (l.getD 0 v0) with
  |error e=>rw[he] at h;cases h
  |ok x=>rw[he] at h;cases h;exact⟨hS,ka,rfl,rfl,.inl rfl⟩
 rw[if_neg c] at h;clear c
 by_cases c:op=5
 ·rw[if_pos c] at h
  exact push _ _ (two _ _ g0 g0) ka h
 rw[if_neg c] at h;clear c
 by_cases c:op=7
 ·rw[if_pos c] at h
  exact push _ _ (two _ _ g1 g0) ka h
 rw[if_neg c] at h;clear c
 by_cases c:op=6\/op=35
 ·rw[if_pos c] at h
  cases h;exact⟨hS,ka,rfl,rfl,.inl rfl⟩
 rw[if_neg c] at h;clear c
 by_cases c:op=34
 ·rw[if_pos c] at h
  cases h;exact⟨hS,b11,rfl,rfl,.inl rfl⟩
 rw[if_neg c] at h;clear c
 by_cases c:op=32
 ·rw[if_pos c] at h
  exact push _ _ (one _ eS) ka h
 rw[if_neg c] at h;clear c
 by_cases c:op=26
 ·rw[if_pos c] at h
  exact push _ _ (one _ abo) ka h
 rw[if_neg c] at h;clear c
 by_cases c:(eY op).2=[116]
 ·rw[if_pos c] at h
  exact push _ _ (one _ nU) ka h
 rw[if_neg c] at h;clear c
 by_cases c:(bg op (l.getD 0 v0).2 (l.getD 1 v0).2).2=0
 ·rw[if_pos c] at h
  exact push _ _ (one _ (tj g0 g1 c)) ka h
 ·rw[if_neg c] at h;cases h
theorem iG{cs:List (Int×Int)}{la:List (Bool×Int)}{n base loop p:Nat}{S S':WS}{b:Bd}(h:fv cs la base loop p S= .ok (S',b))(ha:kD cs)(hS:WF n S):fB cs n p (p+1) S S'/\i5 b:=by
 unfold fv at h
 split at h
 ·split at h
  ·cases h
  ·rename_i l S1 hp
   obtain⟨k1,k2,k3,k4,k5⟩:=cd hp hS
   split at h
   ·cases h
    refine⟨⟨⟨k1.loc,k1.st,λl hl=>?_⟩,λi x hi hx hs hj=>⟨by rw[<-hj.1,<-k3],λl hl=>?_⟩⟩,ka⟩
    ·rcases List.mem_append.1 hl with hl|hl
     ·exact k1.lv l hl
     ·rw[List.mem_singleton.1 hl];exact k1.loc
    ·rcases List.mem_append.1 hl with hl|hl
     ·exact hj.2 l (k4 ▸ hl)
     ·rw[List.mem_singleton.1 hl,k3];exact hj.1
   ·cases h
 ·rename_i h30
  unfold dL at h
  split at h
  ·cases h
  ·rename_i l S1 hp
   obtain⟨k1,k2,k3,k4,k5⟩:=cd hp hS
   obtain⟨m1,m2,m3,m4,m5⟩:=kC h (ha p) k2 k1
   refine⟨⟨m1,λi x hi hx hs hj=>⟨?_,λl hl=>hj.2 l (by rw[<-k4,<-m3];exact hl)⟩⟩,m2⟩
   rcases m5 with m5|⟨m5,y,m6⟩
   ·rw[m5,k3];exact hj.1
   ·rw[m6,k3]
    have hne:(cs.getD p (0,0)).2.toNat≠i:=λe=>by
     have:stoF cs p (p+1-p) i=true:=(jx cs i p _).2 ⟨p,Nat.le_refl _,by omega,by
      have h1:(cs.getD p (0,0)).1=2:=m5
      have h2:(cs.getD p (0,0)).2=(i:Int):=by have:=(ha p).1;omega
      rw[<-h1,<-h2]⟩
     rw[hs] at this;cases this
    rw[List.getD_eq_getElem?_getD,List.getElem?_set_ne hne,<-List.getD_eq_getElem?_getD]
    exact hj.1
theorem gf{cs:List (Int×Int)}{la:List (Bool×Int)}{n base loop:Nat}(ha:kD cs):∀(k p:Nat) {S S':WS} {b b':Bd},g8 cs la base loop k p S b= .ok (S',b')->WF n S->i5 b->fB cs n p (p+k) S S'/\i5 b'
 |0,p,S,S',b,b',h,hS,hb=>by cases h;exact⟨.refl hS,hb⟩
 |k+1,p,S,S',b,b',h,hS,hb=>by
  rw[g8] at h
  split at h
  ·cases h
  ·rename_i S1 x hs
   obtain⟨k1,k2⟩:=iG hs ha hS
   obtain⟨m1,m2⟩:=gf ha k (p+1) h k1.wf (a7 hb.nn k2.nn)
   rw[show p+1+k=p+(k+1) by omega] at m1
   exact⟨k1.trans m1 (by omega) (by omega),m2⟩
theorem aM.lastB{cs:List (Int×Int)}{out:List Int}:∀{o:Fo} {a b:Nat},aM cs out o a b->o.lastB a=b
 |.nil,a,b,h=>h
 |.pl x y r,a,b,h=>by
  obtain⟨_,_,_,_,h4⟩:=h
  exact h4.lastB
 |.br op x y u v r,a,b,h=>by
  obtain⟨_,_,_,_,h4⟩:=h
  exact h4.lastB
theorem qY{n:Nat}{l:List Iv}(h:rV n l)(i:Nat):cN (l.getD i (0,0)):=qX h.2 i
theorem pj{n i:Nat}{x:Iv}{l m:List Iv}(hl:l.length=n)(hi:i<n)(hx:cN x)(h1:l.getD i (0,0)=x)(h2:m.getD i (0,0)=x):(bK l m).getD i (0,0)=x:=by
 rw[iM l m i (by omega),h1,h2,oa hx]
theorem uj{n i:Nat}{x:Iv}(hi:i<n)(hx:cN x):∀(ls:List (List Iv)) (h:List Iv),h.length=n->h.getD i (0,0)=x->(∀l ∈ ls,l.getD i (0,0)=x)->(ls.foldl bK h).getD i (0,0)=x
 |[],h,_,h1,_=>h1
 |l::ls,h,hl,h1,h2=>uj hi hx ls _ ((eM h l).trans hl) (pj hl hi hx h1 (h2 l (List.mem_cons_self ..))) λk hk=>h2 k (List.mem_cons_of_mem _ hk)
def iA(cs:List (Int×Int))(n a b:Nat)(body:WS->Option (Except Er (WS×Bd))):Prop:=∀S S' bd,body S=some (.ok (S',bd))->WF n S->fB cs n a b S S'/\i5 bd
theorem fH{cs:List (Int×Int)}{n a b x0 to h:Nat}{body:WS->Option (Except Er (WS×Bd))}(hB:iA cs n a b body)(ha:x0<=a)(hb:a<=b)(hto:b<=to):∀(f:Nat) (pass:Int) (head:List Iv) {S S':WS} {hd:List Iv} {bd:Bd},gF body to h (stoF cs x0 (to-x0)) f pass head S=some (.ok (hd,S',bd))->WF n S->rV n head->
  WF n S'/\rV n hd/\i5 bd/\S'.st.length=h/\∀i x,i<n->cN x->stoF cs x0 (to-x0) i=false->head.getD i (0,0)=x->hd.getD i (0,0)=x/\JI i x S'
 |0,pass,head,S,S',hd,bd,hr,_,_=>by cases hr
 |f+1,pass,head,S,S',hd,bd,hr,hS,hh=>by
  rw[gF] at hr
  split at hr
  ·cases hr
  ·cases hr
  ·rename_i S1 b1 hb1
   have hS0:WF n {S with loc:=head,lv:=[]}:=⟨hh,hS.st,λl hl=>by cases hl⟩
   obtain⟨k1,k2⟩:=hB _ _ _ hb1 hS0
   have hk:∀i x,i<n->cN x->stoF cs x0 (to-x0) i=false->head.getD i (0,0)=x->JI i x S1:=λi x hi hx hs hj=>
    k1.keep i x hi hx (cy hs ha (by omega)) ⟨hj,λl hl=>by cases hl⟩
   split at hr
   ·rename_i hlen
    split at hr
    ·cases hr
     exact⟨k1.wf,hh,k2,hlen,λi x hi hx hs hj=>⟨hj,hk i x hi hx hs hj⟩⟩
    ·obtain⟨m1,m2,m3,m4,m5⟩:=fH hB ha hb hto f (pass+1) _ hr k1.wf (gw hh _ _ _ _)
     refine⟨m1,m2,m3,m4,λi x hi hx hs hj=>m5 i x hi hx hs ?_⟩
     rw[gq _ _ _ _ _ _ (by rw[hh.1];exact hi),hj,(hk i x hi hx hs hj).1,oa hx,r7 hx,Nat.zero_add,hs]
     split<;>rfl
   ·cases hr
theorem aO{cs:List (Int×Int)}{la:List (Bool×Int)}{out:List Int}{n:Nat}(ha:kD cs):∀(o:Fo) (a b base loop:Nat) {S S':WS} {bd bd':Bd},aM cs out o a b->aR cs la o base loop S bd=some (.ok (S',bd'))->WF n S->i5 bd->fB cs n a b S S'/\i5 bd'
 |.nil,a,b,base,loop,S,S',bd,bd',hg,h,hS,hb=>by cases h;exact⟨.refl hS,hb⟩
 |.pl x y r,a,b,base,loop,S,S',bd,bd',hg,h,hS,hb=>by
  obtain⟨rfl,h1,_,_,h4⟩:=hg
  rw[aR] at h
  split at h
  ·cases h
  ·rename_i S1 b1 hr
   obtain⟨k1,k2⟩:=gf ha _ _ hr hS hb
   rw[show x+(y-x)=y by omega] at k1
   obtain⟨m1,m2⟩:=aO ha r y b base loop h4 h k1.wf k2
   exact⟨k1.trans m1 (by omega) h4.le,m2⟩
 |.br op x y u v r,a,b,base,loop,S,S',bd,bd',hg,h,hS,hb=>by
  obtain⟨rfl,hop,hopv,⟨m,g1,g2,g3,g4,g5⟩,h4⟩:=hg
  have hle:=h4.le
  have hul:=g4.le
  have hmy:m<y:=by rcases g5 with⟨_,e,_,q2,_,_,q5⟩|⟨_,_,q2⟩<;>omega
  rw[aR,g4.lastB] at h
  split at h
  ·rename_i h27
   split at h
   ·cases h
   ·rename_i l S1 hp
    obtain⟨k1,k2,k3,k4,k5⟩:=cd hp hS
    split at h
    ·cases h
    ·cases h
    ·rename_i S2 bx hu
     obtain⟨m1,m2⟩:=aO ha u (x+1) m _ loop g4 hu k1 jq
     split at h
     rotate_left
     ·cases h
     split at h
     ·rename_i h28
      rcases g5 with⟨_,e,q1,q2,q3,q4,q5⟩|⟨q0,_,_⟩
      rotate_left
      ·exact absurd h28 q0
      split at h
      ·cases h
      ·cases h
      ·rename_i S4 by_ hv
       have hS3:WF n {S2 with loc:=S1.loc}:=⟨k1.loc,m1.wf.st,m1.wf.lv⟩
       obtain⟨n1,n2⟩:=aO ha v (m+1) e _ loop q4 hv hS3 jq
       split at h
       rotate_left
       ·cases h
       have hS5:WF n {S4 with loc:=bK S2.loc S4.loc}:=⟨dP m1.wf.loc.1 _,n1.wf.st,n1.wf.lv⟩
       have hbd:i5 (bw bd (bw (aQ bx.1 by_.1,aQ bx.2 by_.2) (1,0))):=a7 hb.nn (a7 (by have:=m2.nn;have:=n2.nn;unfold aQ;dsimp only;constructor<;>split<;>omega) ka.nn).nn
       obtain⟨t1,t2⟩:=aO ha r y b base loop h4 h hS5 hbd
       refine⟨⟨t1.wf,λi z hi hz hs hj=>t1.keep i z hi hz (cy hs (by omega) (by omega)) ?_⟩,t2⟩
       have j1:JI i z S1:=⟨by rw[k3];exact hj.1,by rw[k4];exact hj.2⟩
       have j2:=m1.keep i z hi hz (cy hs (by omega) (by omega)) j1
       have j4:=n1.keep i z hi hz (cy hs (by omega) (by omega)) (show JI i z {S2 with loc:=S1.loc} from⟨j1.1,j2.2⟩)
       exact⟨pj m1.wf.loc.1 hi hz j2.1 j4.1,j4.2⟩
     ·have hS5:WF n {S2 with loc:=bK S2.loc S1.loc}:=⟨dP m1.wf.loc.1 _,m1.wf.st,m1.wf.lv⟩
      have hbd:i5 (bw bd (bw (aQ bx.1 0,aQ bx.2 0) (1,0))):=a7 hb.nn (a7 (by have:=m2.nn;unfold aQ;dsimp only;constructor<;>split<;>omega) ka.nn).nn
      obtain⟨t1,t2⟩:=aO ha r y b base loop h4 h hS5 hbd
      refine⟨⟨t1.wf,λi z hi hz hs hj=>t1.keep i z hi hz (cy hs (by omega) (by omega)) ?_⟩,t2⟩
      have j1:JI i z S1:=⟨by rw[k3];exact hj.1,by rw[k4];exact hj.2⟩
      have j2:=m1.keep i z hi hz (cy hs (by omega) (by omega)) j1
      exact⟨pj m1.wf.loc.1 hi hz j2.1 j1.1,j2.2⟩
  ·split at h
   ·cases h
   ·rename_i l S1 hp
    obtain⟨k1,k2,k3,k4,k5⟩:=cd hp hS
    have hmo:=dy k2 0
    split at h
    rotate_left
    ·cases h
    split at h
    ·cases h
    ·cases h
    ·rename_i head S2 bx hr
     have hB:iA cs n (x+1) m (λS'=>aR cs la u S1.st.length S1.st.length S' (0,0)):=λS3 S4 b4 h3 h5=>aO ha u (x+1) m _ _ g4 h3 h5 jq
     obtain⟨m1,m2,m3,m4,m5⟩:=fH hB (by omega) hul (Nat.le_refl _) 6 1 S1.loc hr k1 k1.loc
     have hS5:WF n {S2 with loc:=S2.lv.foldl bK head,lv:=S1.lv,lp:=fL S2.lp x (l.getD 0 v0).2.2}:=⟨ip _ _ m2,m1.st,k1.lv⟩
     have hbd:i5 (bw bd (bw (fu bx (l.getD 0 v0).2.2) (1,0))):=a7 hb.nn (a7 (iE m3 (by omega)).nn ka.nn).nn
     obtain⟨t1,t2⟩:=aO ha r y b base loop h4 h hS5 hbd
     refine⟨⟨t1.wf,λi z hi hz hs hj=>t1.keep i z hi hz (cy hs (by omega) (by omega)) ?_⟩,t2⟩
     obtain⟨j1,j2⟩:=m5 i z hi hz (cy hs (by omega) (by omega)) (by rw[k3];exact hj.1)
     exact⟨uj hi hz _ _ m2.1 j1 j2.2,by show ∀l ∈ S1.lv,_;rw[k4];exact hj.2⟩
/-! ### it ends-/
theorem uT{n:Nat}{sto:Nat->Bool}{head m:List Iv}(hh:rV n head){pass:Int}(hp:¬pass<3)(i:Nat)(hi:i<n):(dT sto pass 0 head m).getD i (0,0)=if sto i=true then(0,4294967295) else head.getD i (0,0):=by
 rw[gq _ _ _ _ _ _ (by rw[hh.1];exact hi),if_neg hp,Nat.zero_add]
theorem ki{cs:List (Int×Int)}{n a b x0 to h:Nat}{body:WS->Option (Except Er (WS×Bd))}(hB:iA cs n a b body)(hT:∀S,WF n S->∃r,body S=some r)(ha:x0<=a)(hb:a<=b)(hto:b<=to):∀(f:Nat) (pass:Int) (head:List Iv) (S:WS),WF n S->rV n head->(4<=pass->∀i,i<n->stoF cs x0 (to-x0) i=true->head.getD i (0,0)=(0,4294967295))->5<=pass+f->1<=f->∃r,gF body to h (stoF cs x0 (to-x0)) f pass head S=some r
 |0,pass,head,S,_,_,_,_,hf=>by omega
 |f+1,pass,head,S,hS,hh,h4,h5,_=>by
  rw[gF]
  have hS0:WF n {S with loc:=head,lv:=[]}:=⟨hh,hS.st,λl hl=>by cases hl⟩
  obtain⟨r,hr⟩:=hT _ hS0
  rw[hr]
  cases r with
  |error e=>exact⟨_,rfl⟩
  |ok q=>
   obtain⟨S1,b1⟩:=q
   obtain⟨k1,k2⟩:=hB _ _ _ hr hS0
   dsimp only
   by_cases hl:S1.st.length=h
   rotate_left
   ·rw[if_neg hl];exact⟨_,rfl⟩
   rw[if_pos hl]
   by_cases hw:b9 S1.loc head=true
   ·rw[if_pos hw];exact⟨_,rfl⟩
   rw[if_neg hw]
   have hp:pass<4:=by
    by_cases hp0:pass<4
    ·exact hp0
    ·have hp:4<=pass:=by omega
     refine absurd (lI (n:=n) (by rw[k1.wf.loc.1,hh.1]) λi hi=>?_) hw
     rw[k1.wf.loc.1] at hi
     cases hs:stoF cs x0 (to-x0) i with
     |true=>rw[h4 hp i hi hs];exact pW (qY k1.wf.loc i)
     |false=>
      have hx:=qY hh i
      have j:=k1.keep i (head.getD i (0,0)) hi hx (cy hs ha (by omega)) ⟨rfl,λl hl=>by cases hl⟩
      rw[j.1]
      exact pV hx
   refine ki hB hT ha hb hto f (pass+1) _ S1 k1.wf (gw hh _ _ _ _) (λhp4 i hi hs=>?_) (by omega) (by omega)
   rw[uT hh (by omega) i hi,if_pos hs]
theorem bT{cs:List (Int×Int)}{la:List (Bool×Int)}{out:List Int}{n:Nat}(ha:kD cs):∀(o:Fo) (a b base loop:Nat) (S:WS) (bd:Bd),aM cs out o a b->WF n S->i5 bd->∃r,aR cs la o base loop S bd=some r
 |.nil,a,b,base,loop,S,bd,hg,hS,hb=>⟨_,rfl⟩
 |.pl x y r,a,b,base,loop,S,bd,hg,hS,hb=>by
  obtain⟨rfl,h1,_,_,h4⟩:=hg
  rw[aR]
  split
  ·exact⟨_,rfl⟩
  ·rename_i S1 b1 hr
   obtain⟨k1,k2⟩:=gf ha _ _ hr hS hb
   exact bT ha r y b base loop S1 b1 h4 k1.wf k2
 |.br op x y u v r,a,b,base,loop,S,bd,hg,hS,hb=>by
  obtain⟨rfl,hop,hopv,⟨m,g1,g2,g3,g4,g5⟩,h4⟩:=hg
  have hle:=h4.le
  have hul:=g4.le
  have hmy:m<y:=by rcases g5 with⟨_,e,_,q2,_,_,q5⟩|⟨_,_,q2⟩<;>omega
  rw[aR,g4.lastB]
  split
  ·split
   ·exact⟨_,rfl⟩
   ·rename_i l S1 hp
    obtain⟨k1,k2,k3,k4,k5⟩:=cd hp hS
    obtain⟨ru,hu⟩:=bT ha u (x+1) m S1.st.length loop S1 (0,0) g4 k1 jq
    rw[hu]
    cases ru with
    |error e=>exact⟨_,rfl⟩
    |ok q=>
     obtain⟨S2,bx⟩:=q
     obtain⟨m1,m2⟩:=aO ha u (x+1) m _ loop g4 hu k1 jq
     dsimp only
     split
     rotate_left
     ·exact⟨_,rfl⟩
     split
     ·rename_i h28
      rcases g5 with⟨_,e,q1,q2,q3,q4,q5⟩|⟨q0,_,_⟩
      rotate_left
      ·exact absurd h28 q0
      have hS3:WF n {S2 with loc:=S1.loc}:=⟨k1.loc,m1.wf.st,m1.wf.lv⟩
      obtain⟨rv,hv⟩:=bT ha v (m+1) e S1.st.length loop _ (0,0) q4 hS3 jq
      rw[hv]
      cases rv with
      |error e=>exact⟨_,rfl⟩
      |ok q=>
       obtain⟨S4,by_⟩:=q
       obtain⟨n1,n2⟩:=aO ha v (m+1) e _ loop q4 hv hS3 jq
       dsimp only
       split
       rotate_left
       ·exact⟨_,rfl⟩
       exact bT ha r y b base loop _ _ h4 ⟨dP m1.wf.loc.1 _,n1.wf.st,n1.wf.lv⟩ (a7 hb.nn (a7 (by have:=m2.nn;have:=n2.nn;unfold aQ;dsimp only;constructor<;>split<;>omega) ka.nn).nn)
     ·exact bT ha r y b base loop _ _ h4 ⟨dP m1.wf.loc.1 _,m1.wf.st,m1.wf.lv⟩ (a7 hb.nn (a7 (by have:=m2.nn;unfold aQ;dsimp only;constructor<;>split<;>omega) ka.nn).nn)
  ·split
   ·exact⟨_,rfl⟩
   ·rename_i l S1 hp
    obtain⟨k1,k2,k3,k4,k5⟩:=cd hp hS
    have hmo:=dy k2 0
    split
    rotate_left
    ·exact⟨_,rfl⟩
    have hB:iA cs n (x+1) m (λS'=>aR cs la u S1.st.length S1.st.length S' (0,0)):=λS3 S4 b4 h3 h5=>aO ha u (x+1) m _ _ g4 h3 h5 jq
    obtain⟨rr,hr⟩:=ki (h:=S1.st.length) hB (λS' hS'=>bT ha u (x+1) m _ _ S' (0,0) g4 hS' jq) (show x<=x+1 by omega) hul (Nat.le_refl m) 6 1 S1.loc S1 k1 k1.loc (λh=>by omega) (by omega) (by omega)
    rw[hr]
    cases rr with
    |error e=>exact⟨_,rfl⟩
    |ok q=>
     obtain⟨head,S2,bx⟩:=q
     obtain⟨m1,m2,m3,m4,m5⟩:=fH hB (by omega) hul (Nat.le_refl _) 6 1 S1.loc hr k1 k1.loc
     exact bT ha r y b base loop _ _ h4 ⟨ip _ _ m2,m1.st,k1.lv⟩ (a7 hb.nn (a7 (iE m3 (by omega)).nn ka.nn).nn)
abbrev eV:=Int×Int×AV
def lh:eV:=(0,0,.ow)
theorem ox:AV.ow.cells=[.ow]:=rfl
theorem tS:AV.ow.one=true:=rfl
def abV(a:AV):Prop:=a= .ow\/∃n r,a= .fs 2 n r
def C4(l:List eV):Prop:=∀x ∈ l,abV x.2.2
def vI(l:List eV)(i j:Nat):AV:=if j=0 then .n .i64 (l.getD i lh).1 else if j=1 then .n .i64 (l.getD i lh).2.1 else(l.getD i lh).2.2
theorem vI0(l:List eV)(i:Nat):vI l i 0= .n .i64 (l.getD i lh).1:=rfl
theorem vI1(l:List eV)(i:Nat):vI l i 1= .n .i64 (l.getD i lh).2.1:=rfl
def k8(s e h:Int)(l:List eV):AV:= .agg [.n .i64 s,.n .i64 e,.n .i64 h,.fs 3 l.length (vI l)]
def bi:List eV->Int->Int
 |[],_=>0
 |x::l,a=>if x.1=a then x.2.1 else bi l a
def eJ(cs:List (Int×Int))(r:Nat):AV:= .agg [.fs 2 cs.length (pI cs),.cv (.map (some r))]
theorem tc(cs:List (Int×Int))(r a b:Nat)(hab:a<=b)(hb:b<=100000):bU Tryz.prog 36 [eJ cs r,.n .i64 a,.n .i64 b] [.v (.n .i64 ((b-a:Nat):Int))]:=by
 refine ah aE Dj ⟨by simp,by decide⟩ ?_
 simp only[aF,eJ]
 have w:IntKind.i64.wrap ((b:Int)-a)=((b-a:Nat):Int):=(aj (by omega)).trans (by omega)
 repeat first|with_reducible refine au ?_|simp only[w,go_sem,simprocAttr]
 exact ae rfl rfl
def cA(cs:List (Int×Int))(a:Nat):Nat->Nat
 |0=>0
 |n+1=>cA cs a n+if am cs (a+n)=34 then 1 else 0
theorem jU(cs:List (Int×Int))(a:Nat):∀n,cA cs a n<=n
 |0=>Nat.le_refl _
 |n+1=>by
  have:=jU cs a n
  rw[cA]
  split<;>omega
theorem tf(cs:List (Int×Int))(r a b:Nat)(hab:a<=b)(hb:b<=cs.length)(hcs:cs.length<=100000):bU Tryz.prog 37 [eJ cs r,.n .i64 a,.n .i64 b] [.v (.n .i64 (cA cs a (b-a):Nat))]:=by
 refine ah aE C9 ⟨by simp,by decide⟩ ?_
 simp only[aF,eJ]
 have s1:0<=(a:Int)/\(a:Int)<=b/\(b:Int)<=cs.length:=⟨by omega,by omega,by omega⟩
 repeat first|with_reducible refine au ?_|simp only[s1,s1.1,s1.2.1,s1.2.2,go_sem,simprocAttr]
 refine GA.loop (I:=λm e H=>∃k:Nat,m=(b-a)-k/\k<=b-a/\e=aA [(7,.n .i64 (cA cs a k:Nat)),(14,.fs 2 (b-a) λk=>pI cs (a+k)),(15,.n .i64 ((b-a:Nat):Int)),(16,.n .i64 k)]/\H=ag []) (Wk.mk [] [] ?_ ?_ ?_) ⟨0,rfl,Nat.zero_le _,rfl,rfl⟩ ?_
 ·exact aZ
 ·trivial
 ·simp
 rintro m e H ⟨k,rfl,hk,rfl,rfl⟩
 have h0:(0:Int)<=(k:Int):=by omega
 by_cases h:k<b-a
 rotate_left
 ·have h':¬(k:Int)<((b-a:Nat):Int):=by omega
  obtain rfl:k=b-a:=by omega
  repeat first|with_reducible refine au ?_|simp only[h',decide_false,go_sem,simprocAttr]
  exact ae rfl rfl
 have h':(k:Int)<((b-a:Nat):Int):=by omega
 have wk:IntKind.i64.wrap ((k:Int)+1)=((k+1:Nat):Int):=(aj (by omega)).trans (by omega)
 have hle:=jU cs a k
 by_cases e1:(cs.getD (a+k) (0,0)).1=34
 ·have hs:cA cs a (k+1)=cA cs a k+1:=by rw[cA,if_pos (show am cs (a+k)=34 from e1)]
  have we:IntKind.i64.wrap (((cA cs a k:Nat):Int)+1)=((cA cs a k+1:Nat):Int):=(aj (by omega)).trans (by omega)
  repeat first|with_reducible refine au ?_|simp only[h',h0,cT,oZ,e1,wk,we,decide_true,go_sem,simprocAttr]
  refine⟨_,_,_,?_,Wk.mk [] [] ?_ ?_ ?_,k+1,rfl,by omega,rfl,rfl⟩
  ·omega
  ·rw[hs]
   simp only[ej,cQ,go_sem,simprocAttr]
   repeat' refine aW ?_ ?_
   all_goals first|exact iW|skip
  ·trivial
  ·simp
 ·have hs:cA cs a (k+1)=cA cs a k:=by rw[cA,if_neg (show ¬am cs (a+k)=34 from e1)];rfl
  repeat first|with_reducible refine au ?_|simp only[h',h0,cT,oZ,e1,wk,decide_true,decide_false,go_sem,simprocAttr]
  refine⟨_,_,_,?_,Wk.mk [] [] ?_ ?_ ?_,k+1,rfl,by omega,rfl,rfl⟩
  ·omega
  ·rw[hs]
   simp only[ej,cQ,go_sem,simprocAttr]
   repeat' refine aW ?_ ?_
   all_goals first|exact iW|skip
  ·trivial
  ·simp
def Ba:Fo->Prop
 |.nil=>True
 |.pl x y r=>x<=y/\y<=100000/\Ba r
 |.br op x y u v r=>(op=27\/op=29)/\Ba u/\Ba v/\Ba r
theorem aM.okf{cs:List (Int×Int)}{out:List Int}:∀{o:Fo} {a b:Nat},aM cs out o a b->b<=100000->Ba o
 |.nil,_,_,_,_=>trivial
 |.pl x y r,a,b,h,hb=>by
  obtain⟨h0,h1,_,_,h4⟩:=h
  have:=h4.le
  exact⟨by omega,by omega,h4.okf hb⟩
 |.br op x y u v r,a,b,h,hb=>by
  obtain⟨_,_,h2,⟨m,_,g2,g3,g4,g5⟩,h4⟩:=h
  refine⟨h2,g4.okf (by omega),?_,h4.okf hb⟩
  rcases g5 with⟨_,e,_,_,q3,q4,_⟩|⟨_,q1,_⟩
  ·exact q4.okf (by omega)
  ·rw[q1];trivial
def aP(li:List eV):Fo->Int->Int
 |.nil,n=>n
 |.pl x y r,n=>aP li r (bj (n+(y-x)))
 |.br op x y u v r,n=>aP li r (if op=27 then bj (n+1+(if aP li u 0<aP li v 0 then aP li v 0 else aP li u 0)) else bj (n+1+bb (bj (aP li u 0+1)) (bi li x)))
theorem bW{li:List eV}(hm:∀a,0<=bi li a):∀(o:Fo) (n:Int),Ba o->0<=n/\n<=281474976710657->0<=aP li o n/\aP li o n<=281474976710657
 |.nil,n,_,h=>h
 |.pl x y r,n,ho,h=>bW hm r _ ho.2.2 (aC (by have:=ho.1;omega))
 |.br op x y u v r,n,ho,h=>by
  have hu:=bW hm u 0 ho.2.1 (by omega)
  have hv:=bW hm v 0 ho.2.2.1 (by omega)
  refine bW hm r _ ho.2.2.2 ?_
  split
  ·refine aC ?_
   split<;>omega
  ·refine aC ?_
   have:=(bz (aC (n:=aP li u 0+1) (by omega)).1 (hm x)).1
   omega
theorem Fo.len_le_size:∀o:Fo,o.len<=o.size
 |.nil=>Nat.le_refl _
 |.pl x y r=>by have:=Fo.len_le_size r;simp only[Fo.len,Fo.size];omega
 |.br op x y u v r=>by have:=Fo.len_le_size r;simp only[Fo.len,Fo.size];omega
theorem aM.size{cs:List (Int×Int)}{out:List Int}:∀{o:Fo} {a b:Nat},aM cs out o a b->a+o.size<=b
 |.nil,a,b,h=>by cases h;exact Nat.le_refl _
 |.pl x y r,a,b,h=>by
  obtain⟨_,h1,_,_,h2⟩:=h
  have:=h2.size
  simp only[Fo.size]
  omega
 |.br op x y u v r,a,b,h=>by
  obtain⟨_,_,_,⟨m,_,h1,_,h4,h2⟩,h3⟩:=h
  have e1:=h3.size
  have e2:=h4.size
  simp only[Fo.size]
  rcases h2 with⟨_,e,_,q2,_,q4,h5⟩|⟨_,q1,h5⟩
  ·have e3:=q4.size
   omega
  ·rw[q1]
   simp only[Fo.size]
   omega
def bI(li:List eV)(pl:Nat->Nat->Int)(own:Int):Fo->Int->Int
 |.nil,n=>n
 |.pl x y r,n=>bI li pl own r (bj (n+pl x y))
 |.br op x y u v r,n=>bI li pl own r (bj (n+(if op=27 then bj (own+(if bI li pl own u 0<bI li pl own v 0 then bI li pl own v 0 else bI li pl own u 0)) else bj (own+bb (bj (own+bI li pl own u 0)) (bi li x)))))
theorem cz{a b:Int}(h:0<=a):bj (a+bj b)=bj (a+b):=by
 unfold bj
 split<;>split<;>(try split)<;>omega
theorem dH{li:List eV}(hm:∀a,0<=bi li a):∀(o:Fo) (n:Int),Ba o->0<=n/\n<=281474976710657->bI li (λx y=>(y:Int)-x) 1 o n=aP li o n
 |.nil,n,_,_=>rfl
 |.pl x y r,n,ho,h=>by
  rw[bI,aP]
  exact dH hm r _ ho.2.2 (aC (by have:=ho.1;omega))
 |.br op x y u v r,n,ho,h=>by
  have hu:=bW hm u 0 ho.2.1 (by omega)
  have hv:=bW hm v 0 ho.2.2.1 (by omega)
  rw[bI,aP,dH hm u 0 ho.2.1 (by omega),dH hm v 0 ho.2.2.1 (by omega)]
  by_cases e:op=27
  ·rw[if_pos e,if_pos e,cz h.1,<-Int.add_assoc]
   refine dH hm r _ ho.2.2.2 (aC ?_)
   split<;>omega
  ·rw[if_neg e,if_neg e,cz h.1,<-Int.add_assoc,Int.add_comm 1 (aP li u 0)]
   refine dH hm r _ ho.2.2.2 (aC ?_)
   have:=(bz (aC (n:=aP li u 0+1) (by omega)).1 (hm x)).1
   omega
def a9(cs:List (Int×Int))(li:List eV):Fo->Int->Int
 |.nil,n=>n
 |.pl x y r,n=>a9 cs li r (bj (n+(cA cs x (y-x):Nat)))
 |.br op x y u v r,n=>a9 cs li r (if op=27 then bj (n+(if a9 cs li u 0<a9 cs li v 0 then a9 cs li v 0 else a9 cs li u 0)) else bj (n+bb (a9 cs li u 0) (bi li x)))
theorem bX{cs:List (Int×Int)}{li:List eV}(hm:∀a,0<=bi li a):∀(o:Fo) (n:Int),0<=n/\n<=281474976710657->0<=a9 cs li o n/\a9 cs li o n<=281474976710657
 |.nil,n,h=>h
 |.pl x y r,n,h=>bX hm r _ (aC (by omega))
 |.br op x y u v r,n,h=>by
  have hu:=bX (cs:=cs) hm u 0 (by omega)
  have hv:=bX (cs:=cs) hm v 0 (by omega)
  refine bX hm r _ ?_
  split
  ·refine aC ?_
   split<;>omega
  ·refine aC ?_
   have:=(bz hu.1 (hm x)).1
   omega
theorem pF{n:Int}(h:n<=281474976710657):bj n=n:=by unfold bj;split<;>omega
theorem dI{cs:List (Int×Int)}{li:List eV}(hm:∀a,0<=bi li a):∀(o:Fo) (n:Int),0<=n/\n<=281474976710657->bI li (λx y=>(cA cs x (y-x):Nat)) 0 o n=a9 cs li o n
 |.nil,n,_=>rfl
 |.pl x y r,n,h=>by
  rw[bI,a9]
  exact dI hm r _ (aC (by omega))
 |.br op x y u v r,n,h=>by
  have hu:=bX (cs:=cs) hm u 0 (by omega)
  have hv:=bX (cs:=cs) hm v 0 (by omega)
  rw[bI,a9,dI hm u 0 (by omega),dI hm v 0 (by omega)]
  by_cases e:op=27
  ·rw[if_pos e,if_pos e,cz h.1,Int.zero_add]
   refine dI hm r _ (aC ?_)
   split<;>omega
  ·rw[if_neg e,if_neg e,cz h.1,Int.zero_add,Int.zero_add,pF hu.2]
   refine dI hm r _ (aC ?_)
   have:=(bz hu.1 (hm x)).1
   omega
theorem jG:∀{li:List eV},(∀x ∈ li,0<=x.2.1/\x.2.1<=65536)->∀a,0<=bi li a/\bi li a<=65536
 |[],_,a=>⟨Int.le_refl _,(by decide:(0:Int)<=65536)⟩
 |x::l,h,a=>by
  unfold bi
  split
  ·exact h x (List.mem_cons_self ..)
  ·exact jG (λy hy=>h y (List.mem_cons_of_mem _ hy)) a
def oV(ls:List Int)(li:List eV):Int:=if ls.length=li.length/\(li.map λx=>x.1)=ls then(if ∀x ∈ li,0<=x.2.1/\x.2.1<=65536 then 0 else 2) else 23
def rI(cs:List (Int×Int)):Fo->Prop
 |.nil=>True
 |.pl x y r=>x<=y/\y<=cs.length/\rI cs r
 |.br op x y u v r=>(op=27\/op=29)/\rI cs u/\rI cs v/\rI cs r
theorem aM.oke{cs:List (Int×Int)}{out:List Int}:∀{o:Fo} {a b:Nat},aM cs out o a b->b<=cs.length->rI cs o
 |.nil,_,_,_,_=>trivial
 |.pl x y r,a,b,h,hb=>by
  obtain⟨h0,h1,_,_,h4⟩:=h
  have:=h4.le
  exact⟨by omega,by omega,h4.oke hb⟩
 |.br op x y u v r,a,b,h,hb=>by
  obtain⟨_,_,h2,⟨m,_,g2,g3,g4,g5⟩,h4⟩:=h
  refine⟨h2,g4.oke (by omega),?_,h4.oke hb⟩
  rcases g5 with⟨_,e,_,_,q3,q4,_⟩|⟨_,q1,_⟩
  ·exact q4.oke (by omega)
  ·rw[q1];trivial
theorem l5{p:Int}{base:Nat}{ty:List UInt8}{S S1:WS}{l:List Vl}(h:eW p base ty S= .ok (l,S1)):¬S.st.length<base+ty.length/\l=S.st.drop (S.st.length-ty.length)/\S1={S with st:=S.st.take (S.st.length-ty.length)}:=by
 unfold eW at h
 split at h
 ·cases h
 rename_i a
 split at h
 ·cases h;exact⟨a,rfl,rfl⟩
 ·cases h
structure Sm(p:Nat)(S:WS):Prop where
 st:S.st.length<=32
 ht:0<=S.ht/\S.ht<=32
 lv:S.lv.length<=p
theorem Sm.le{p q:Nat}{S:WS}(h:Sm p S)(hpq:p<=q):Sm q S:=⟨h.st,h.ht,Nat.le_trans h.lv hpq⟩
theorem gi{p:Int}{base q:Nat}{ty:List UInt8}{S S1:WS}{l:List Vl}(h:eW p base ty S= .ok (l,S1))(hS:Sm q S):Sm q S1:=by
 obtain⟨_,_,rfl⟩:=l5 h
 exact⟨by simp only[List.length_take];have:=hS.st;omega,hS.ht,hS.lv⟩
theorem dt{p:Int}{q:Nat}{S S1:WS}{l:List Vl}(h:bV p l S= .ok S1)(hS:Sm q S):Sm q S1:=by
 unfold bV at h
 split at h
 ·cases h
  rename_i hl
  refine⟨hl,?_,hS.lv⟩
  have:=hS.ht
  show 0<=aQ _ _/\aQ _ _<=32
  unfold aQ
  split<;>omega
 ·cases h
theorem dn{q:Nat}{b0 b:Bd}{S1:WS}{x:Except Er WS}(h:cq b0 x= .ok (S1,b))(hx:∀S,x= .ok S->Sm q S):Sm q S1:=by
 cases x with
 |error e=>cases h
 |ok S=>cases h;exact hx _ rfl
theorem C1{la:List (Bool×Int)}{op arg p:Int}{l:List Vl}{S S':WS}{b:Bd}{q:Nat}(h:b8 la op arg p l S= .ok (S',b))(hS:Sm q S):Sm q S':=by
 unfold b8 at h
 by_cases c:op=0
 ·rw[if_pos c] at h
  exact dn h λ_ h'=>dt h' hS
 rw[if_neg c] at h;clear c
 by_cases c:op=1
 ·rw[if_pos c] at h
  exact dn h λ_ h'=>dt h' hS
 rw[if_neg c] at h;clear c
 by_cases c:op=2
 ·rw[if_pos c] at h
  cases h;exact⟨hS.st,hS.ht,hS.lv⟩
 rw[if_neg c] at h;clear c
 by_cases c:op=3
 ·rw[if_pos c] at h
  cases he:dE la arg p (l.getD 0 v0) with
  |error e=>rw[he] at h;cases h
  |ok x=>rw[he] at h;exact dn h λ_ h'=>dt h' hS
 rw[if_neg c] at h;clear c
 by_cases c:op=4
 ·rw[if_pos c] at h
  cases he:dE la arg p (l.getD 0 v0) with
  |error e=>rw[he] at h;cases h
  |ok x=>rw[he] at h;cases h;exact hS
 rw[if_neg c] at h;clear c
 by_cases c:op=5
 ·rw[if_pos c] at h
  exact dn h λ_ h'=>dt h' hS
 rw[if_neg c] at h;clear c
 by_cases c:op=7
 ·rw[if_pos c] at h
  exact dn h λ_ h'=>dt h' hS
 rw[if_neg c] at h;clear c
 by_cases c:op=6\/op=35
 ·rw[if_pos c] at h
  cases h;exact hS
 rw[if_neg c] at h;clear c
 by_cases c:op=34
 ·rw[if_pos c] at h
  cases h;exact hS
 rw[if_neg c] at h;clear c
 by_cases c:op=32
 ·rw[if_pos c] at h
  exact dn h λ_ h'=>dt h' hS
 rw[if_neg c] at h;clear c
 by_cases c:op=26
 ·rw[if_pos c] at h
  exact dn h λ_ h'=>dt h' hS
 rw[if_neg c] at h;clear c
 by_cases c:(eY op).2=[116]
 ·rw[if_pos c] at h
  exact dn h λ_ h'=>dt h' hS
 rw[if_neg c] at h;clear c
 by_cases c:(bg op (l.getD 0 v0).2 (l.getD 1 v0).2).2=0
 ·rw[if_pos c] at h
  exact dn h λ_ h'=>dt h' hS
 ·rw[if_neg c] at h;cases h
theorem oM{cs:List (Int×Int)}{la:List (Bool×Int)}{base loop p:Nat}{S S':WS}{b:Bd}(h:fv cs la base loop p S= .ok (S',b))(hS:Sm p S):Sm (p+1) S':=by
 unfold fv at h
 split at h
 ·split at h
  ·cases h
  ·rename_i l S1 hp
   have h1:=gi hp hS
   split at h
   ·cases h
    refine⟨h1.st,h1.ht,?_⟩
    simp only[List.length_append,List.length_cons,List.length_nil]
    have:=h1.lv
    omega
   ·cases h
 ·unfold dL at h
  split at h
  ·cases h
  ·rename_i l S1 hp
   exact(C1 h (gi hp hS)).le (by omega)
theorem qp{cs:List (Int×Int)}{la:List (Bool×Int)}{base loop:Nat}:∀(n p:Nat) {S S':WS} {b b':Bd},g8 cs la base loop n p S b= .ok (S',b')->Sm p S->Sm (p+n) S'
 |0,p,S,S',b,b',h,hS=>by cases h;exact hS
 |n+1,p,S,S',b,b',h,hS=>by
  rw[g8] at h
  split at h
  ·cases h
  ·rename_i S1 x h1
   have:=qp n (p+1) h (oM h1 hS)
   rwa [show p+1+n=p+(n+1) by omega] at this
theorem tJ{body:WS->Option (Except Er (WS×Bd))}{to h a m:Nat}{sto:Nat->Bool}(hB:∀S S' b,body S=some (.ok (S',b))->Sm a S->Sm m S')(hm:∀S,Sm m S->S.lv=[]->Sm a S):∀(f:Nat) (pass:Int) (head:List Iv) {S S':WS} {hd:List Iv} {b:Bd},gF body to h sto f pass head S=some (.ok (hd,S',b))->(S.st.length<=32/\0<=S.ht/\S.ht<=32)->Sm m S'
 |0,pass,head,S,S',hd,b,h,hS=>by cases h
 |f+1,pass,head,S,S',hd,b,h,hS=>by
  rw[gF] at h
  split at h
  ·cases h
  ·cases h
  ·rename_i S1 b1 hb
   have h1:=hB _ _ _ hb ⟨hS.1,hS.2,Nat.zero_le _⟩
   split at h
   ·split at h
    ·cases h;exact h1
    ·exact tJ hB hm f _ _ h ⟨h1.st,h1.ht⟩
   ·cases h
theorem cj{cs:List (Int×Int)}{la:List (Bool×Int)}{out:List Int}:∀(o:Fo) (a b base loop:Nat) {S S':WS} {bd bd':Bd},aM cs out o a b->aR cs la o base loop S bd=some (.ok (S',bd'))->Sm a S->Sm b S'
 |.nil,a,b,base,loop,S,S',bd,bd',hg,h,hS=>by cases h;exact hS.le hg.le
 |.pl x y r,a,b,base,loop,S,S',bd,bd',hg,h,hS=>by
  obtain⟨rfl,h1,_,_,h4⟩:=hg
  rw[aR] at h
  split at h
  ·cases h
  ·rename_i S1 b1 hr
   have:=qp _ _ hr hS
   rw[show x+(y-x)=y by omega] at this
   exact cj r y b base loop h4 h this
 |.br op x y u v r,a,b,base,loop,S,S',bd,bd',hg,h,hS=>by
  obtain⟨rfl,hop,hopv,⟨m,g1,g2,g3,g4,g5⟩,h4⟩:=hg
  have hle:=h4.le
  have hul:=g4.le
  have hmy:m<y:=by rcases g5 with⟨_,e,_,q2,_,_,q5⟩|⟨_,_,q2⟩<;>omega
  rw[aR,g4.lastB] at h
  split at h
  ·rename_i h27
   split at h
   ·cases h
   ·rename_i l S1 hp
    have k1:=gi hp hS
    split at h
    ·cases h
    ·cases h
    ·rename_i S2 bx hu
     have m1:=cj u (x+1) m _ loop g4 hu (k1.le (by omega))
     split at h
     rotate_left
     ·cases h
     split at h
     ·rename_i h28
      rcases g5 with⟨_,e,q1,q2,q3,q4,q5⟩|⟨q0,_,_⟩
      rotate_left
      ·exact absurd h28 q0
      split at h
      ·cases h
      ·cases h
      ·rename_i S4 by_ hv
       have n1:=cj v (m+1) e _ loop q4 hv (show Sm (m+1) {S2 with loc:=S1.loc} from⟨m1.st,m1.ht,Nat.le_trans m1.lv (by omega)⟩)
       split at h
       rotate_left
       ·cases h
       exact cj r y b base loop h4 h ⟨n1.st,n1.ht,Nat.le_trans n1.lv (by omega)⟩
     ·exact cj r y b base loop h4 h ⟨m1.st,m1.ht,Nat.le_trans m1.lv (by omega)⟩
  ·split at h
   ·cases h
   ·rename_i l S1 hp
    have k1:=gi hp hS
    split at h
    rotate_left
    ·cases h
    split at h
    ·cases h
    ·cases h
    ·rename_i head S2 bx hr
     have m1:=tJ (a:=x+1) (m:=m) (λS3 S4 b4 h3 h5=>cj u (x+1) m _ _ g4 h3 h5) (λS h1 h2=>⟨h1.st,h1.ht,by rw[h2];exact Nat.zero_le _⟩) 6 1 S1.loc hr ⟨k1.st,k1.ht⟩
     exact cj r y b base loop h4 h ⟨m1.st,m1.ht,Nat.le_trans k1.lv (by omega)⟩
def eI(cs:List (Int×Int))(la:List (Bool×Int))(x:Nat)(u v:Fo)(base loop:Nat)(S:WS):Option (Except Er (WS×Bd)):=match eW x base [116] S with
 |.error e=>some (.error e)
 |.ok (_,S1)=>match aR cs la u S1.st.length loop S1 (0,0) with
  |none=>none
  |some (.error e)=>some (.error e)
  |some (.ok (S2,bx))=>
   if S2.st.length=S1.st.length then
    if am cs (u.lastB (x+1))=28 then match aR cs la v S1.st.length loop {S2 with loc:=S1.loc} (0,0) with
     |none=>none
     |some (.error e)=>some (.error e)
     |some (.ok (S4,by_))=>
      if S4.st.length=S1.st.length then some (.ok ({S4 with loc:=bK S2.loc S4.loc},bw (aQ bx.1 by_.1,aQ bx.2 by_.2) (1,0)))
      else some (.error ((v.lastB (u.lastB (x+1)+1):Nat),14))
    else some (.ok ({S2 with loc:=bK S2.loc S1.loc},bw (aQ bx.1 0,aQ bx.2 0) (1,0)))
   else some (.error ((u.lastB (x+1):Nat),14))
def jJ(cs:List (Int×Int))(la:List (Bool×Int))(x:Nat)(u:Fo)(base:Nat)(S:WS):Option (Except Er (WS×Bd)):=match eW x base [110] S with
 |.error e=>some (.error e)
 |.ok (l,S1)=>
  if(l.getD 0 v0).2.2<=65536 then match gF (λS'=>aR cs la u S1.st.length S1.st.length S' (0,0)) (u.lastB (x+1)) S1.st.length (stoF cs x (u.lastB (x+1)-x)) 6 1 S1.loc S1 with
   |none=>none
   |some (.error e)=>some (.error e)
   |some (.ok (head,S2,bx))=>some (.ok ({S2 with loc:=S2.lv.foldl bK head,lv:=S1.lv,lp:=fL S2.lp x (l.getD 0 v0).2.2},bw (fu bx (l.getD 0 v0).2.2) (1,0)))
  else some (.error (x,18))
def aaO(cs:List (Int×Int))(la:List (Bool×Int))(r:Fo)(base loop:Nat)(b:Bd):Option (Except Er (WS×Bd))->Option (Except Er (WS×Bd))
 |none=>none
 |some (.error e)=>some (.error e)
 |some (.ok (S',z))=>aR cs la r base loop S' (bw b z)
theorem mO{cs:List (Int×Int)}{la:List (Bool×Int)}{op:Int}{x y:Nat}{u v r:Fo}{base loop:Nat}{S:WS}{b:Bd}:aR cs la (.br op x y u v r) base loop S b=aaO cs la r base loop b (if op=27 then eI cs la x u v base loop S else jJ cs la x u base S):=by
 rw[aR]
 by_cases h:op=27
 ·rw[if_pos h,if_pos h]
  unfold eI
  cases eW x base [116] S with
  |error e=>rfl
  |ok q=>
   obtain⟨l,S1⟩:=q
   dsimp only
   cases aR cs la u S1.st.length loop S1 (0,0) with
   |none=>rfl
   |some q=>
    cases q with
    |error e=>rfl
    |ok q=>
     obtain⟨S2,bx⟩:=q
     dsimp only
     by_cases h1:S2.st.length=S1.st.length
     ·rw[if_pos h1,if_pos h1]
      by_cases h2:am cs (u.lastB (x+1))=28
      ·rw[if_pos h2,if_pos h2]
       cases aR cs la v S1.st.length loop {S2 with loc:=S1.loc} (0,0) with
       |none=>rfl
       |some q=>
        cases q with
        |error e=>rfl
        |ok q=>
         obtain⟨S4,b4⟩:=q
         dsimp only
         by_cases h3:S4.st.length=S1.st.length
         ·rw[if_pos h3,if_pos h3];rfl
         ·rw[if_neg h3,if_neg h3];rfl
      ·rw[if_neg h2,if_neg h2];rfl
     ·rw[if_neg h1,if_neg h1];rfl
 ·rw[if_neg h,if_neg h]
  unfold jJ
  cases eW x base [110] S with
  |error e=>rfl
  |ok q=>
   obtain⟨l,S1⟩:=q
   dsimp only
   by_cases h1:(l.getD 0 v0).2.2<=65536
   ·rw[if_pos h1,if_pos h1]
    cases gF (λS'=>aR cs la u S1.st.length S1.st.length S' (0,0)) (u.lastB (x+1)) S1.st.length (stoF cs x (u.lastB (x+1)-x)) 6 1 S1.loc S1 with
    |none=>rfl
    |some q=>
     cases q with
     |error e=>rfl
     |ok q=>rfl
   ·rw[if_neg h1,if_neg h1];rfl
def dw(cs:List (Int×Int)):List Int×Int:=if 1024<cs.length then([],6) else match cR cs with
 |.ok (_,pt)=>(pt,0)
 |.error _=>([],15)
def j9(cs:List (Int×Int))(φ:Fz)(w:World)(e:Ending)(w':World):Prop:=∃(v:Value) (φ':Fz),e= .returned (.tuple #[v,.int .i64 (dw cs).2])/\
 VR (Sg.data φ') (.fs 1 (dw cs).1.length (iC (dw cs).1)) v/\pm φ' w'/\Below w.heap.size w w'/\∀c,c<w.heap.size->φ' c=φ c
def rP(w:World):World:=(w.alloc (Obj.cells #[.int .i64 0] 30)).alloc (Obj.cells #[.int .i64 0] 3)
theorem pY(w:World):(rP w).heap.size=w.heap.size+2:=by simp[rP]
theorem EU(w:World):(rP w).heap[w.heap.size]? =some (.cells #[.int .i64 0] 30 (0,0)):=by
 rw[rP,Below.heap_alloc _ _ _ (by simp)]
 exact lC w _
theorem aaN(w:World):(rP w).heap[w.heap.size+1]? =some (.cells #[.int .i64 0] 3 (0,0)):=by
 have:=lC (w.alloc (Obj.cells #[.int .i64 0] 30)) (Obj.cells #[.int .i64 0] 3)
 simpa [rP] using this
theorem tz(w:World):Below w.heap.size w (rP w):=((Below.refl _ _).alloc (by simp) _).alloc (by simp) _
theorem kO{cs:List (Int×Int)}{φ:Fz}{w w2:World}{a n:Int}(hφ:pm φ w)(hb:Below (rP w).heap.size (rP w) w2)(hp:dw cs=([],n))(tm:Array Value)(h2:tm[2]? =some (.slice none 0 0))(h3:tm[3]? =some (.pointer (some ⟨w.heap.size,0,none⟩))):
  Leaves Tryz.prog Tryz.f52 tm (j9 cs φ w) [{target:= .fn (.func 82) #[],args:= #[.pointer (some ⟨w.heap.size+1,0,none⟩),.pointer (some ⟨w.heap.size,0,none⟩)]}] (.panicking (fA a n)) w2:=by
 have hz:=pY w
 have q1:w2.heap[w.heap.size]? =some (.cells #[.int .i64 0] 30 (0,0)):=by rw[hb.block _ (by omega)];exact EU w
 have q2:w2.heap[w.heap.size+1]? =some (.cells #[.int .i64 0] 3 (0,0)):=by rw[hb.block _ (by omega)];exact aaN w
 refine leaves_cons (f:=82) (args:= #[.pointer (some ⟨w.heap.size+1,0,none⟩),.pointer (some ⟨w.heap.size,0,none⟩)]) (by simp) (by simp[go_sem]) ?_
 refine(fG (w.heap.size+1) w.heap.size 0 0 a n [] w2 q2 q1 (by omega) (by omega)).mono ?_
 rintro e u' w3 ⟨rfl,rfl,b1,b2,b3,ho3,ht3,hp3,hs3⟩
 have hsz:=hb.size
 have hB:=tz w
 have y2:w3.cell? ⟨w.heap.size,0,none⟩=some (.int .i64 n):=by simp[World.cell?,b2]
 have hbl:∀k,k<w.heap.size->w3.heap[k]? =w.heap[k]? :=λk hk=>by rw[b3 k (by omega) (by omega) (by omega),hb.block k (by omega),hB.block k hk]
 have hfin:j9 cs φ w (.returned (.tuple #[.slice none 0 0,.int .i64 n])) w3:=by
  refine⟨.slice none 0 0,φ,by rw[hp],by rw[hp];exact .fs0 _ _ _ _,iQ hφ hbl,⟨ho3.trans (hb.os.trans hB.os),ht3.trans (hb.tape.trans hB.tape),hp3.trans (hb.output.trans hB.output),by omega,hbl⟩,λ_ _=>rfl⟩
 have H:=gP.mk hfin
 clear hfin
 simp[Leaves,settle,results,Tryz.results52,go_sem,y2,h2,h3]
 exact H.out
theorem ym(cs:List (Int×Int))(φ:Fz)(w:World)(u:Value)(hφ:pm φ w)(hu:VR (Sg.data φ) (.fs 2 cs.length (pI cs)) u):Calls Tryz.prog 52 #[u] w (j9 cs φ w):=by
 have HU:=gP.mk hu
 have HF:=gP.mk hφ
 clear hu hφ
 go_enter_defers Tryz.func52,Tryz.ntmps52
 go_wp2_with fail
 show Calls _ _ _ (rP w) _
 have hz:=pY w
 have hB:=tz w
 refine((rq cs).2 (rP w).heap.size (Sg.data φ) (rP w) #[u] (HR.empty (rP w) (iQ HF.out λk hk=>hB.block k hk)) ⟨rfl,λi v hv=>?_⟩).mono ?_
 ·cases i with
  |zero=>cases hv;exact HU.out
  |succ i=>simp at hv
 rintro e w2 hp
 cases e with
 |outgrown=>exact hp.elim
 |panicked c=>
  obtain⟨H',σ',⟨hlong,rfl⟩,hHR,hA⟩:=hp
  exact kO HF.out hA.bel (by rw[dw,if_pos hlong]) _ rfl rfl
 |returned v=>
  obtain⟨v',H1,σ1,⟨hle,rfl,rfl⟩,hv,hHR1,hA1⟩:=hp
  cases hv with
  |@p _ _ _ c0 oc hs=>
  have H1:=gP.mk hHR1
  have H2:=gP.mk hA1
  have H3:=gP.mk hs
  have H4:=gP.mk hB
  clear hHR1 hA1 hs hB
  go_wp2_with fail
  refine((pX cs hle _ rfl).2 (rP w).heap.size σ1 w2 _ H1.out ⟨rfl,λi v hv=>?_⟩).mono ?_
  ·cases i with
   |zero=>cases hv;exact .p H3.out
   |succ i=>simp at hv
  rintro e w3 hp
  have hb2:=H2.out.bel
  cases e with
  |outgrown=>exact hp.elim
  |panicked c=>
   obtain⟨H',σ',⟨x,hx,rfl⟩,hHR,hA⟩:=hp
   exact kO HF.out (hb2.trans hA.bel) (by rw[dw,if_neg (by omega),hx]) _ rfl rfl
  |returned v2=>
   obtain⟨v',H',σ2,⟨o,pt,hrd,rfl,rfl⟩,hv2,hHR2,hA2⟩:=hp
   have hs2:=hA2.kp 0 _ rfl H3.out
   obtain⟨cs0,t1,t2,t3⟩:=hHR2.blk 0 _ _ _ (by simp only[go_sem,simprocAttr]<;>rfl) hs2
   have t4:=t3.cell 2 (by show 2<3;decide)
   have t5:=t3.sz
   obtain⟨u3,hu3⟩:∃u3,cs0.getD 2 undef=u3:=⟨_,rfl⟩
   rw[hu3] at t4
   have hg:(aa 0 173 [.fs 2 cs.length (pI cs),.n .i64 cs.length,.os 1 pt.length]).get 2= .os 1 pt.length:=by simp only[go_sem,simprocAttr]
   rw[hg] at t4
   obtain⟨σ3,m1,m2,m3,m4,m5,m6,m7⟩:=hHR2.marks [1]
   have hd:VR σ3.bare (.fs 1 pt.length (iC pt)) u3:=(Cv.ownb (ty:=3) (z:=0) (M:=[1]) (by simp only[go_sem,simprocAttr]) (λi j _ _=>rfl) (by simp):Cv [1] (ag [ai 3 1 pt.length 0 (iC pt),aa 0 173 [.fs 2 cs.length (pI cs),.n .i64 cs.length,.os 1 pt.length]]) (.os 1 pt.length) (.fs 1 pt.length (iC pt))).ok hHR2 m1 m2 m7 t4
   have z2:w3.cell? ⟨c0,2,none⟩=some u3:=by
    have hlt:2<cs0.size:=by have:3<=cs0.size:=t5;omega
    simp[World.cell?,t2,<-hu3,hlt,Array.getD]
   have hb3:=hb2.trans hA2.bel
   have q1:w3.heap[w.heap.size]? =some (.cells #[.int .i64 0] 30 (0,0)):=by rw[hb3.block _ (by omega)];exact EU w
   have z0:w3.cell? ⟨w.heap.size,0,none⟩=some (.int .i64 0):=by simp[World.cell?,q1]
   have f0:w3.frozen? ⟨w.heap.size,0,none⟩=false:=by simp[World.frozen?,q1]
   have hpf:dw cs=(pt,0):=by rw[dw,if_neg (by omega),hrd]
   have hfz:∀c,c<(rP w).heap.size->σ3.fz c=φ c:=λc hc=>(m4.eq c hc).trans ((hA2.fzb.eq c hc).trans (H2.out.fzb.eq c hc))
   have G1:=gP.mk m6
   have G2:=gP.mk hfz
   have G3:=gP.mk hd
   have G4:=gP.mk hb3
   have G5:=gP.mk q1
   clear hHR2 hA2 hv2 hb3 hb2 q1 t1 t2 t3 t4 t5 m1 m2 m3 m4 m5 m6 m7 hd hfz hs2 hg hu3
   go_wp2
   have y1:(w3.setCell ⟨w.heap.size,0,none⟩ (.int .i64 0)).cell? ⟨w.heap.size,0,none⟩=some (.int .i64 0):=by
    simp[World.cell?,World.setCell,Array.getElem?_modify,G5.out]
   have hd:∀k,k≠w.heap.size->(w3.setCell ⟨w.heap.size,0,none⟩ (.int .i64 0)).heap[k]? =w3.heap[k]? :=λk h1=>by
    rw[Below.heap_setCell _ _ _ _ (show k≠(⟨w.heap.size,0,none⟩:Addr).block from h1)]
   have hnb:∀c fs,σ3.fz c=some fs->c≠w.heap.size:=λc fs hf=>by
    by_cases hc:c<(rP w).heap.size
    ·rw[G2.out c hc] at hf
     obtain⟨cs',t,fr,e1,_⟩:=HF.out c fs hf
     have:=(Array.getElem?_eq_some_iff.1 e1).1
     omega
    ·omega
   have hfin:j9 cs φ w (.returned (.tuple #[u3,.int .i64 0])) (w3.setCell ⟨w.heap.size,0,none⟩ (.int .i64 0)):=by
    refine⟨u3,σ3.fz,by rw[hpf],by rw[hpf];exact G3.out,λc fs hf=>?_,((H4.out.trans (G4.out.mono (by omega))).setCell (Nat.le_refl _) _),λc hc=>G2.out c (by omega)⟩
    obtain⟨cs',t,fr,e1,e2,_⟩:=G1.out.frz c fs hf
    exact⟨cs',t,fr,by rw[hd c (hnb c fs hf)];exact e1,e2⟩
   refine leaves_cons (f:=82) (args:= #[.pointer (some ⟨w.heap.size+1,0,none⟩),.pointer (some ⟨w.heap.size,0,none⟩)]) (by simp) (by simp[go_sem]) ?_
   refine(kM (w.heap.size+1) w.heap.size _).mono ?_
   rintro e u' w'' ⟨rfl,rfl,rfl⟩
   have HH:=gP.mk hfin
   clear hfin hd hnb
   refine⟨.tuple #[u3,.int .i64 0],?_,HH.out⟩
   simp[results,Tryz.results52,go_sem,y1]
theorem yn(cs:List (Int×Int)):bU Tryz.prog 52 [.fs 2 cs.length (pI cs)] [.v (.fs 1 (dw cs).1.length (iC (dw cs).1)),.v (.n .i64 (dw cs).2)]:=by
 refine⟨⟨_,Tryz.func52,by kernel_rfl,rfl⟩,λφ w args' hφ ha=>?_⟩
 obtain⟨u,rfl,hu⟩:∃u,args'= #[u]/\VR (Sg.data φ) (.fs 2 cs.length (pI cs)) u:=by
  obtain⟨l⟩:=args'
  obtain⟨h1,h2⟩:=ha
  match l,h1 with
  |[x],_=>exact⟨x,rfl,h2 0 _ rfl⟩
 refine(ym cs φ w u hφ hu).mono λe w' hp=>?_
 obtain⟨v,φ',rfl,hv,hin,hb,hfz⟩:=hp
 refine⟨.tup [.fs 1 (dw cs).1.length (iC (dw cs).1),.n .i64 (dw cs).2],⟨.nil,0,2^40,λ_=>none,[]⟩,Sg.data φ',⟨[.fs 1 (dw cs).1.length (iC (dw cs).1),.n .i64 (dw cs).2],rfl,⟨rfl,rfl⟩,⟨rfl,rfl⟩,trivial⟩,?_,HR.emptyAt w' hb.size hin,hb,hfz⟩
 exact(aV.nil.cons (.n _ _)).cons hv |>.tup
end Go.Proofs.YtdpkgnmmikebdaaGreat