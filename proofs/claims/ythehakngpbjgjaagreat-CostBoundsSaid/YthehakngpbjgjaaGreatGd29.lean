/- A part of the proof of CostBounds: FlG FlH FlI FlT FlU FlV FlW FlX FlY FlZ CbA CbB. No condition. -/
import Derived.ChangeAlike
import Derived.Defers
import Derived.Recover
import Derived.RegionTactic
import Derived.Test.YthehakngpbjgjaaGreatGd28
import Derived.Test.YthehakngpbjgjaaGreatGd27
import Derived.Test.YthehakngpbjgjaaGreatGd24
set_option linter.unusedSimpArgs false
set_option linter.unusedVariables false
set_option linter.constructorNameAsVariable false
set_option maxRecDepth 100000
set_option maxHeartbeats 4000000
namespace Go.Proofs.YthehakngpbjgjaaGreat
open Go.RowKit
theorem lM(w:World):(binOp .eql 20 .nilIface .nilIface).run Tryz.prog w= .ok (.bool true) w:=by kernel_rfl
theorem kE(a n:Int)(w:World):(binOp .eql 20 (.iface 166 (.agg #[.int .i64 a,.int .i64 n])) .nilIface).run Tryz.prog w= .ok (.bool false) w:=by kernel_rfl
theorem lU(a n:Int)(w:World):(Instr.typeAssert (.iface 166 (.agg #[.int .i64 a,.int .i64 n])) 20 166 true).run Tryz.prog w= .ok (.tuple #[.agg #[.int .i64 a,.int .i64 n],.bool true]) w:=by kernel_rfl
theorem ig(p q x:Value): #[p,q]++((Array.replicate 24 undef).setIfInBounds 5 x).setIfInBounds 2 x=
  #[p,q,undef,undef,x,undef,undef,x,undef,undef,undef,undef,undef,undef,undef,undef,undef,undef,undef,undef,undef,undef,undef,undef,undef,undef]:=by kernel_rfl
theorem lb(ab eb:Nat)(w:World):
  CallsD Tryz.prog 80 #[.pointer (some ⟨ab,0,none⟩),.pointer (some ⟨eb,0,none⟩)] .returning w λe u' w'=>e= .returned (.tuple #[])/\u'= .returning/\w'=w:=by
 refine callsD_of_wpS Tryz.func80 rfl λc₀ cs hu=>?_
 apply wpS_seq
 apply wpS_region
 simp[wpOpsS,go_sem,recoverD,hu,Tryz.ntmps80,Exit.thenS]
 refine wpS_of_wp ?_
 rw[ig]
 have hq:=lM
 go_wp2
 cases c₀
 simp_all [bodyPostS,results,Tryz.results80]
theorem gV(ab eb:Nat)(x y a n:Int)(older:List PanicEntry)(w:World)(ha:w.heap[ab]? =some (.cells #[.int .i64 x] 3 (0,0)))(he:w.heap[eb]? =some (.cells #[.int .i64 y] 28 (0,0)))(hne:¬ab=eb)(hne2:¬eb=ab):
  CallsD Tryz.prog 80 #[.pointer (some ⟨ab,0,none⟩),.pointer (some ⟨eb,0,none⟩)] (.panicking ({v:= .iface 166 (.agg #[.int .i64 a,.int .i64 n]),recovered:=false}::older)) w λe u' w'=>
   e= .returned (.tuple #[])/\u'= .panicking ({v:= .iface 166 (.agg #[.int .i64 a,.int .i64 n]),recovered:=true}::older)/\w'.heap[ab]? =some (.cells #[.int .i64 a] 3 (0,0))/\w'.heap[eb]? =some (.cells #[.int .i64 n] 28 (0,0))/\(∀k,k<w.heap.size->k≠ab->k≠eb->w'.heap[k]? =w.heap[k]?)/\w'.os=w.os/\w'.tape=w.tape/\w'.output=w.output/\w.heap.size<=w'.heap.size:=by
 have hq:=kE a n
 have hta:=lU a n
 refine callsD_of_wpS Tryz.func80 rfl λc₀ cs hu=>?_
 apply wpS_seq
 apply wpS_region
 simp[wpOpsS,go_sem,recoverD,hu,Tryz.ntmps80,Exit.thenS]
 refine wpS_of_wp ?_
 rw[ig]
 go_wp2
 have hal:ab<w.heap.size:=(Array.getElem?_eq_some_iff.1 ha).1
 have hel:eb<w.heap.size:=(Array.getElem?_eq_some_iff.1 he).1
 have z0:w.cell? ⟨ab,0,none⟩=some (.int .i64 x):=by simp[World.cell?,ha]
 have z1:w.cell? ⟨eb,0,none⟩=some (.int .i64 y):=by simp[World.cell?,he]
 have f0:w.frozen? ⟨ab,0,none⟩=false:=by simp[World.frozen?,ha]
 have f1:w.frozen? ⟨eb,0,none⟩=false:=by simp[World.frozen?,he]
 have y0:∀v,(w.setCell ⟨eb,0,none⟩ v).cell? ⟨ab,0,none⟩=some (.int .i64 x):=λv=>by rw[World.cell?_of_block (Below.heap_setCell _ _ _ _ hne)];exact z0
 have y1:∀v,(w.setCell ⟨ab,0,none⟩ v).cell? ⟨eb,0,none⟩=some (.int .i64 y):=λv=>by rw[World.cell?_of_block (Below.heap_setCell _ _ _ _ hne2)];exact z1
 have g0:∀v,(w.setCell ⟨eb,0,none⟩ v).frozen? ⟨ab,0,none⟩=false:=λv=>by simp only[World.frozen?];rw[Below.heap_setCell _ _ _ _ (show ab≠(⟨eb,0,none⟩:Addr).block from hne),ha];rfl
 have g1:∀v,(w.setCell ⟨ab,0,none⟩ v).frozen? ⟨eb,0,none⟩=false:=λv=>by simp only[World.frozen?];rw[Below.heap_setCell _ _ _ _ (show eb≠(⟨ab,0,none⟩:Addr).block from hne2),he];rfl
 go_region
 go_wp2
 cases c₀
 simp only at hu
 subst hu
 simp only[bodyPostS]
 refine⟨trivial,_,rfl,?_⟩
 refine⟨_,results_none rfl _ _ _,?_⟩
 refine⟨rfl,rfl,?_⟩
 have hs:((w.setCell ⟨ab,0,none⟩ (.int .i64 a)).setCell ⟨eb,0,none⟩ (.int .i64 n)).heap.size=w.heap.size:=by simp[World.setCell]
 have hd:∀k,k<w.heap.size->((((w.setCell ⟨ab,0,none⟩ (.int .i64 a)).setCell ⟨eb,0,none⟩ (.int .i64 n)).alloc (Obj.cells #[.int .i64 a,.int .i64 n] 166)).drew).heap[k]? =((w.setCell ⟨ab,0,none⟩ (.int .i64 a)).setCell ⟨eb,0,none⟩ (.int .i64 n)).heap[k]? :=λk hk=>Below.heap_alloc _ _ _ (by rw[hs];exact hk)
 refine⟨?_,?_,λk hk h1 h2=>?_,rfl,rfl,rfl,?_⟩
 ·rw[hd ab hal,Below.heap_setCell _ _ _ _ (show ab≠(⟨eb,0,none⟩:Addr).block from hne)]
  simp only[World.setCell,Array.getElem?_modify,if_true,ha]
  rfl
 ·rw[hd eb hel]
  simp only[World.setCell,Array.getElem?_modify,if_true,if_neg hne,he]
  rfl
 ·rw[hd k hk,Below.heap_setCell _ _ _ _ (show k≠(⟨eb,0,none⟩:Addr).block from h2),Below.heap_setCell _ _ _ _ (show k≠(⟨ab,0,none⟩:Addr).block from h1)]
 ·have:((((w.setCell ⟨ab,0,none⟩ (.int .i64 a)).setCell ⟨eb,0,none⟩ (.int .i64 n)).alloc (Obj.cells #[.int .i64 a,.int .i64 n] 166)).drew).heap.size=w.heap.size+1:=by rw[<-hs];exact Array.size_push ..
  omega
structure ow(p:Prop):Prop where
 out:p
def au(cs:List (Int×Int)):Fo×Int×Int:=if 1024<cs.length then(.nil,0,6) else match fg cs with
 |.ok (o,_)=>(o,0,0)
 |.error x=>(.nil,x,15)
def fI(cs:List (Int×Int))(φ:Fz)(w:World)(e:Ending)(w':World):Prop:=∃(v:Value) (φ':Fz),e= .returned (.tuple #[v,.int .i64 (au cs).2.1,.int .i64 (au cs).2.2])/\
 VR (Sg.data φ') (.fs 5 (au cs).1.len (au cs).1.cell) v/\nZ φ' w'/\Below w.heap.size w w'/\∀c,c<w.heap.size->φ' c=φ c
theorem jT{φ:Fz}{w w':World}(h:nZ φ w)(hb:∀k,k<w.heap.size->w'.heap[k]? =w.heap[k]?):nZ φ w':=λc fs hf=>by
 obtain⟨cs,t,fr,e1,e2⟩:=h c fs hf
 exact⟨cs,t,fr,by rw[hb c (Array.getElem?_eq_some_iff.1 e1).1];exact e1,e2⟩
def l7(w:World):World:=(w.alloc (Obj.cells #[.int .i64 0] 3)).alloc (Obj.cells #[.int .i64 0] 28)
theorem kS(w:World):(l7 w).heap.size=w.heap.size+2:=by simp[l7]
theorem n8(w:World)(o:Obj):(w.alloc o).heap[w.heap.size]? =some o:=by
 show(w.heap.push o)[w.heap.size]? =some o
 simp
theorem zM(w:World):(l7 w).heap[w.heap.size]? =some (.cells #[.int .i64 0] 3 (0,0)):=by
 rw[l7,Below.heap_alloc _ _ _ (by simp)]
 exact n8 w _
theorem zL(w:World):(l7 w).heap[w.heap.size+1]? =some (.cells #[.int .i64 0] 28 (0,0)):=by
 have:=n8 (w.alloc (Obj.cells #[.int .i64 0] 3)) (Obj.cells #[.int .i64 0] 28)
 simpa [l7] using this
theorem nH(w:World):Below w.heap.size w (l7 w):=((Below.refl _ _).alloc (by simp) _).alloc (by simp) _
theorem gk{cs:List (Int×Int)}{φ:Fz}{w w2:World}{a n:Int}(hφ:nZ φ w)(hb:Below (l7 w).heap.size (l7 w) w2)(hp:au cs=(.nil,a,n))(tm:Array Value)(h2:tm[2]? =some (.slice none 0 0))(h3:tm[3]? =some (.pointer (some ⟨w.heap.size,0,none⟩)))(h4:tm[4]? =some (.pointer (some ⟨w.heap.size+1,0,none⟩))):
  Leaves Tryz.prog Tryz.f53 tm (fI cs φ w) [{target:= .fn (.func 80) #[],args:= #[.pointer (some ⟨w.heap.size,0,none⟩),.pointer (some ⟨w.heap.size+1,0,none⟩)]}] (.panicking (eJ a n)) w2:=by
 have hz:=kS w
 have q1:w2.heap[w.heap.size]? =some (.cells #[.int .i64 0] 3 (0,0)):=by rw[hb.block _ (by omega)];exact zM w
 have q2:w2.heap[w.heap.size+1]? =some (.cells #[.int .i64 0] 28 (0,0)):=by rw[hb.block _ (by omega)];exact zL w
 refine leaves_cons (f:=80) (args:= #[.pointer (some ⟨w.heap.size,0,none⟩),.pointer (some ⟨w.heap.size+1,0,none⟩)]) (by simp) (by simp[go_sem]) ?_
 refine(gV w.heap.size (w.heap.size+1) 0 0 a n [] w2 q1 q2 (by omega) (by omega)).mono ?_
 rintro e u' w3 ⟨rfl,rfl,b1,b2,b3,ho3,ht3,hp3,hs3⟩
 have hsz:=hb.size
 have hB:=nH w
 have y1:w3.cell? ⟨w.heap.size,0,none⟩=some (.int .i64 a):=by simp[World.cell?,b1]
 have y2:w3.cell? ⟨w.heap.size+1,0,none⟩=some (.int .i64 n):=by simp[World.cell?,b2]
 have hbl:∀k,k<w.heap.size->w3.heap[k]? =w.heap[k]? :=λk hk=>by rw[b3 k (by omega) (by omega) (by omega),hb.block k (by omega),hB.block k hk]
 have hfin:fI cs φ w (.returned (.tuple #[.slice none 0 0,.int .i64 a,.int .i64 n])) w3:=by
  refine⟨.slice none 0 0,φ,by rw[hp],by rw[hp];exact .fs0 _ _ _ _,jT hφ hbl,⟨ho3.trans (hb.os.trans hB.os),ht3.trans (hb.tape.trans hB.tape),hp3.trans (hb.output.trans hB.output),by omega,hbl⟩,λ_ _=>rfl⟩
 have H:=ow.mk hfin
 clear hfin
 simp[Leaves,settle,results,Tryz.results53,go_sem,y1,y2,h2,h3,h4]
 exact H.out
theorem oU(cs:List (Int×Int))(φ:Fz)(w:World)(u:Value)(hφ:nZ φ w)(hu:VR (Sg.data φ) (.fs 2 cs.length (pI cs)) u):Calls Tryz.prog 53 #[u] w (fI cs φ w):=by
 have HU:=ow.mk hu
 have HF:=ow.mk hφ
 clear hu hφ
 go_enter_defers Tryz.func53,Tryz.ntmps53
 go_wp2_with fail
 show Calls _ _ _ (l7 w) _
 have hz:=kS w
 have hB:=nH w
 refine((tZ cs).2 (l7 w).heap.size (Sg.data φ) (l7 w) #[u] (HR.empty (l7 w) (jT HF.out λk hk=>hB.block k hk)) ⟨rfl,λi v hv=>?_⟩).mono ?_
 ·cases i with
  |zero=>cases hv;exact HU.out
  |succ i=>simp at hv
 rintro e w2 hp
 cases e with
 |outgrown=>exact hp.elim
 |panicked c=>
  obtain⟨H',σ',⟨hlong,rfl⟩,hHR,hA⟩:=hp
  exact gk HF.out hA.bel (by rw[au,if_pos hlong]) _ rfl rfl rfl
 |returned v=>
  obtain⟨v',H1,σ1,⟨hle,rfl,rfl⟩,hv,hHR1,hA1⟩:=hp
  cases hv with
  |p hs=>
  have H1:=ow.mk hHR1
  have H2:=ow.mk hA1
  have H3:=ow.mk hs
  have H4:=ow.mk hB
  clear hHR1 hA1 hs hB
  go_wp2_with fail
  refine((rk cs hle _ rfl).2 (l7 w).heap.size σ1 w2 _ H1.out ⟨rfl,λi v hv=>?_⟩).mono ?_
  ·cases i with
   |zero=>cases hv;exact .p H3.out
   |succ i=>simp at hv
  rintro e w3 hp
  have hb2:=H2.out.bel
  cases e with
  |outgrown=>exact hp.elim
  |panicked c=>
   obtain⟨H',σ',⟨x,hx,rfl⟩,hHR,hA⟩:=hp
   exact gk HF.out (hb2.trans hA.bel) (by rw[au,if_neg (by omega),hx]) _ rfl rfl rfl
  |returned v2=>
   obtain⟨v',H',σ2,⟨o,pt,hrd,rfl,rfl⟩,hv2,hHR2,hA2⟩:=hp
   have hb3:=hb2.trans hA2.bel
   have q1:w3.heap[w.heap.size]? =some (.cells #[.int .i64 0] 3 (0,0)):=by rw[hb3.block _ (by omega)];exact zM w
   have q2:w3.heap[w.heap.size+1]? =some (.cells #[.int .i64 0] 28 (0,0)):=by rw[hb3.block _ (by omega)];exact zL w
   have z0:w3.cell? ⟨w.heap.size,0,none⟩=some (.int .i64 0):=by simp[World.cell?,q1]
   have z1:w3.cell? ⟨w.heap.size+1,0,none⟩=some (.int .i64 0):=by simp[World.cell?,q2]
   have f0:w3.frozen? ⟨w.heap.size,0,none⟩=false:=by simp[World.frozen?,q1]
   have f1:w3.frozen? ⟨w.heap.size+1,0,none⟩=false:=by simp[World.frozen?,q2]
   have G1:=ow.mk hHR2
   have G2:=ow.mk hA2
   have G3:=ow.mk hv2
   have G4:=ow.mk hb3
   have G5:=ow.mk q1
   have G6:=ow.mk q2
   clear hHR2 hA2 hv2 hb3 hb2 q1 q2
   go_wp2
   have hn1:w.heap.size≠w.heap.size+1:=by omega
   have hd:∀k,k≠w.heap.size->k≠w.heap.size+1->((w3.setCell ⟨w.heap.size,0,none⟩ (.int .i64 0)).setCell ⟨w.heap.size+1,0,none⟩ (.int .i64 0)).heap[k]? =w3.heap[k]? :=λk h1 h2=>by
    rw[Below.heap_setCell _ _ _ _ (show k≠(⟨w.heap.size+1,0,none⟩:Addr).block from h2),Below.heap_setCell _ _ _ _ (show k≠(⟨w.heap.size,0,none⟩:Addr).block from h1)]
   have y1:((w3.setCell ⟨w.heap.size,0,none⟩ (.int .i64 0)).setCell ⟨w.heap.size+1,0,none⟩ (.int .i64 0)).cell? ⟨w.heap.size,0,none⟩=some (.int .i64 0):=by
    rw[World.cell?_of_block (Below.heap_setCell _ _ _ _ (show w.heap.size≠(⟨w.heap.size+1,0,none⟩:Addr).block from hn1))]
    simp[World.cell?,World.setCell,Array.getElem?_modify,G5.out]
   have y2:((w3.setCell ⟨w.heap.size,0,none⟩ (.int .i64 0)).setCell ⟨w.heap.size+1,0,none⟩ (.int .i64 0)).cell? ⟨w.heap.size+1,0,none⟩=some (.int .i64 0):=by
    simp[World.cell?,World.setCell,Array.getElem?_modify,G6.out]
   have hpf:au cs=(o,0,0):=by rw[au,if_neg (by omega),hrd]
   have hfz:∀c,c<(l7 w).heap.size->σ2.fz c=φ c:=λc hc=>(G2.out.fzb.eq c hc).trans (H2.out.fzb.eq c hc)
   have hnb:∀c fs,σ2.fz c=some fs->c≠w.heap.size/\c≠w.heap.size+1:=λc fs hf=>by
    by_cases hc:c<(l7 w).heap.size
    ·rw[hfz c hc] at hf
     obtain⟨cs',t,fr,e1,_⟩:=HF.out c fs hf
     have:=(Array.getElem?_eq_some_iff.1 e1).1
     omega
    ·omega
   have hfin:fI cs φ w (.returned (.tuple #[v2,.int .i64 0,.int .i64 0])) ((w3.setCell ⟨w.heap.size,0,none⟩ (.int .i64 0)).setCell ⟨w.heap.size+1,0,none⟩ (.int .i64 0)):=by
    refine⟨v2,σ2.fz,by rw[hpf],by rw[hpf];exact G3.out.pure 3 rfl,λc fs hf=>?_,((H4.out.trans (G4.out.mono (by omega))).setCell (Nat.le_refl _) _).setCell (Nat.le_succ _) _,λc hc=>hfz c (by omega)⟩
    obtain⟨cs',t,fr,e1,e2,_⟩:=G1.out.frz c fs hf
    obtain⟨h1,h2⟩:=hnb c fs hf
    exact⟨cs',t,fr,by rw[hd c h1 h2];exact e1,e2⟩
   refine leaves_cons (f:=80) (args:= #[.pointer (some ⟨w.heap.size,0,none⟩),.pointer (some ⟨w.heap.size+1,0,none⟩)]) (by simp) (by simp[go_sem]) ?_
   refine(lb w.heap.size (w.heap.size+1) _).mono ?_
   rintro e u' w'' ⟨rfl,rfl,rfl⟩
   have HH:=ow.mk hfin
   clear hfin hd hfz hnb
   refine⟨.tuple #[v2,.int .i64 0,.int .i64 0],?_,HH.out⟩
   simp[results,Tryz.results53,go_sem,y1,y2]
theorem gW(cs:List (Int×Int)):cg Tryz.prog 53 [.fs 2 cs.length (pI cs)] [.v (.fs 5 (au cs).1.len (au cs).1.cell),.v (.n .i64 (au cs).2.1),.v (.n .i64 (au cs).2.2)]:=by
 refine⟨⟨_,Tryz.func53,by kernel_rfl,rfl⟩,λφ w args' hφ ha=>?_⟩
 obtain⟨u,rfl,hu⟩:∃u,args'= #[u]/\VR (Sg.data φ) (.fs 2 cs.length (pI cs)) u:=by
  obtain⟨l⟩:=args'
  obtain⟨h1,h2⟩:=ha
  match l,h1 with
  |[x],_=>exact⟨x,rfl,h2 0 _ rfl⟩
 refine(oU cs φ w u hφ hu).mono λe w' hp=>?_
 obtain⟨v,φ',rfl,hv,hin,hb,hfz⟩:=hp
 refine⟨.tup [.fs 5 (au cs).1.len (au cs).1.cell,.n .i64 (au cs).2.1,.n .i64 (au cs).2.2],⟨.nil,0,2^40,λ_=>none,[]⟩,Sg.data φ',⟨[.fs 5 (au cs).1.len (au cs).1.cell,.n .i64 (au cs).2.1,.n .i64 (au cs).2.2],rfl,⟨rfl,rfl⟩,⟨rfl,rfl⟩,⟨rfl,rfl⟩,trivial⟩,?_,HR.emptyAt w' hb.size hin,hb,hfz⟩
 exact((aM.nil.cons (.n _ _)).cons (.n _ _)).cons hv |>.tup
def aU(cs:List (Int×Int)):Nat->List Int
 |0=>[]
 |k+1=>if ax cs k=29 then aU cs k++[(k:Int)] else aU cs k
def bN(cs:List (Int×Int)):List Int:=if(au cs).2.2=0 then aU cs cs.length else[]
theorem dg(cs:List (Int×Int)):∀k,(aU cs k).length<=k
 |0=>Nat.le_refl _
 |k+1=>by
  have:=dg cs k
  rw[aU]
  split
  ·rw[List.length_append];simp;omega
  ·omega
theorem px(cs:List (Int×Int))(hcs:cs.length<=100000):cg Tryz.prog 52 [.fs 2 cs.length (pI cs)] [.o 3 1 (bN cs).length 0 (iC (bN cs)),.v (.n .i64 (au cs).2.2)]:=by
 refine az am yk ⟨by simp,by decide⟩ ?_
 simp only[aQ]
 repeat first|with_reducible refine ay ?_|simp only[go_sem,simprocAttr]
 refine ae [] (fargs:=[.fs 2 cs.length (pI cs)]) (aV.same rfl) (gW cs) ?_ ?_
 ·simp only[go_sem,simprocAttr]
 by_cases he:(au cs).2.2=0
 ·have hF:bN cs=aU cs cs.length:=if_pos he
  rw[hF,he]
  repeat first|with_reducible refine ay ?_|simp only[he,decide_false,decide_true,ne_eq,not_true_eq_false,go_sem,simprocAttr]
  refine GA.wk (Wk.nil 7 1 3 (by simp only[go_sem,simprocAttr]) (by decide) (by simp only[go_sem,simprocAttr])) ?_
  simp only[da]
  refine GA.loop (I:=λm e H=>∃(k:Nat),m=cs.length-k/\k<=cs.length/\e=aC [(7,.os 0 (aU cs k).length),(19,.fs 2 cs.length (pI cs)),(20,.n .i64 cs.length),(21,.n .i64 k)]/\H=ag [ah 3 1 (aU cs k).length 0 (iC (aU cs k))]) (Wk.mk [0] [] ?_ ?_ ?_) ⟨0,rfl,by omega,rfl,rfl⟩ ?_
  ·simp only[aK,aJ,go_sem,simprocAttr]
   repeat' refine af ?_ ?_
   all_goals first|exact aR|skip
  ·exact .cons rfl (.rows (x:=_) (by simp only[go_sem,simprocAttr];rfl) (by rfl) (by rfl) (by rfl) (Nat.zero_le _) (by decide) (by decide) (λi j h=>absurd h (Nat.not_lt_zero _)) (λi j h=>absurd h (Nat.not_lt_zero _))) .nil
  ·simp
  rintro m e H ⟨k,rfl,hk,rfl,rfl⟩
  have h0:(0:Int)<=(k:Int):=by omega
  have hll:=dg cs k
  obtain⟨l,hl⟩:∃l,l=aU cs k:=⟨_,rfl⟩
  rw[<-hl] at hll ⊢
  by_cases h:(k:Int)<cs.length
  rotate_left
  ·repeat first|with_reducible refine ay ?_|simp only[h,decide_false,go_sem,simprocAttr]
   have:k=cs.length:=by omega
   subst this
   exact⟨[_,_],rfl,.inr ⟨0,by rw[hl],by simp,_,by simp only[go_sem,simprocAttr];rfl,rfl,rfl,by decide,rfl,by rw[hl];exact Nat.le_refl _,Nat.le_refl _,λi j _ hj=>by rw[hl];exact aE i j hj,λ_ _ _ _=>rfl⟩,rfl,⟨rfl,rfl⟩,trivial⟩
  have hk':k<cs.length:=by omega
  have wk:IntKind.i64.wrap ((k:Int)+1)=((k+1:Nat):Int):=(ao (by omega)).trans (by omega)
  have hlap:(l.length+1<1099511627776/\(l.length+1)*8<=140737488355328)/\l.length<=9223372036854775806:=⟨⟨by omega,by omega⟩,by omega⟩
  by_cases e1:(cs.getD k (0,0)).1=29
  ·have hs:aU cs (k+1)=l++[(k:Int)]:=by rw[aU,if_pos (show ax cs k=29 from e1),hl]
   repeat first|with_reducible refine ay ?_|simp only[h,h0,bp,ja,e1,wk,hlap,decide_true,go_sem,simprocAttr]
   refine⟨_,_,_,?_,Wk.mk [3] [] ?_ ?_ ?_,k+1,rfl,by omega,rfl,rfl⟩
   ·omega
   ·rw[hs,List.length_append]
    simp only[aK,aJ,go_sem,simprocAttr]
    repeat' refine af ?_ ?_
    all_goals first|exact aR|skip
   ·rw[hs,List.length_append]
    exact .cons rfl (.snoc (row:=iC l) (n:=l.length) (o:=l.length) (l:=[.n .i64 (k:Int)]) (by simp only[go_sem,simprocAttr]) (by omega) rfl rfl (by decide) (by omega) (λi j hi _=>by simp only[iC];rw[bS hi]) (λj hj=>by cases Nat.lt_one_iff.1 hj;simp only[iC];rw[bT];rfl) (λ_ _ _ _=>rfl)) .nil
   ·simp
  ·have hs:aU cs (k+1)=l:=by rw[aU,if_neg (show ¬ax cs k=29 from e1),hl]
   repeat first|with_reducible refine ay ?_|simp only[h,h0,bp,ja,e1,wk,decide_true,decide_false,go_sem,simprocAttr]
   refine⟨_,_,_,?_,Wk.mk [0] [] ?_ ?_ ?_,k+1,rfl,by omega,rfl,rfl⟩
   ·omega
   ·rw[hs]
    simp only[aK,aJ,go_sem,simprocAttr]
    repeat' refine af ?_ ?_
    all_goals first|exact aR|skip
   ·rw[hs]
    exact .cons rfl .k1 .nil
   ·simp
 ·have hF:bN cs=[]:=if_neg he
  rw[hF]
  repeat first|with_reducible refine ay ?_|simp only[he,decide_false,decide_true,ne_eq,not_false_eq_true,go_sem,simprocAttr]
  exact⟨[_,_],rfl,.inl ⟨rfl,rfl⟩,rfl,⟨rfl,rfl⟩,trivial⟩
def bf(l:List Nat):List Int:=(l.map λb:Nat=>(b:Int)).reverse
theorem bJ(l:List Nat):(bf l).length=l.length:=by simp[bf]
theorem ed(b:Nat)(l:List Nat):bf (b::l)=bf l++[(b:Int)]:=by simp[bf]
theorem iH(b:Nat)(l:List Nat):(bf (b::l)).getD l.length 0=b:=by
 rw[ed]
 have:=bT (l:=bf l) (x:=(b:Int)) (d:=0)
 rw[bJ] at this
 exact this
theorem iI(b:Nat)(l:List Nat){i:Nat}(h:i<l.length):(bf (b::l)).getD i 0=(bf l).getD i 0:=by
 rw[ed,bS (by rw[bJ];exact h)]
def cK(cs:List (Int×Int)):List Nat->Int
 |[]=> -1
 |b::l=>if ax cs b=29 then b else cK cs l
theorem eG(cs:List (Int×Int)):∀l,cK cs l<0↔eh cs l=false
 |[]=>by simp[cK,eh]
 |b::l=>by
  have:=eG cs l
  unfold cK
  by_cases h:ax cs b=29
  ·rw[if_pos h]
   simp[eh,h]
  ·rw[if_neg h,this]
   simp[eh,h]
theorem gw(cs:List (Int×Int))(l:List Nat)(hl:l.length<=8)(hlt:∀b ∈ l,b<cs.length):
  PC Tryz.prog cm 100 [.fs 2 cs.length (pI cs),.os 0 (bf l).length] (ag [ah 3 1 (bf l).length 0 (iC (bf l))])
   (λv H'=>v= .n .i64 (cK cs l)/\H'=ag [ah 3 1 (bf l).length 0 (iC (bf l))]) (λ_ _=>False):=by
 have hlen:=bJ l
 refine PC.vw (fP qQ ⟨by simp,by decide⟩ ?_)
 simp only[aQ]
 have w1:IntKind.i64.wrap (((bf l).length:Int)-1)=((bf l).length:Int)-1:=ao (by omega)
 repeat (first|(with_reducible refine GE.go am rfl ?_)|simp only[w1,go_sem,simprocAttr])
 refine GE.loop (I:=λm e H=>∃rest:List Nat,m=rest.length/\rest.length<=l.length/\cK cs l=cK cs rest/\(∀b ∈ rest,b<cs.length)/\(∀i,i<rest.length->(bf l).getD i 0=(bf rest).getD i 0)/\e=aC [(0,.fs 2 cs.length (pI cs)),(1,.os 0 (bf l).length),(5,.n .i64 ((rest.length:Int)-1))]/\H=ag [ah 3 1 (bf l).length 0 (iC (bf l))]) (ce.mk [0] [] ?_ ?_ (by simp) (aO rfl)) ⟨l,rfl,Nat.le_refl _,rfl,hlt,λ_ _=>rfl,rfl,rfl⟩ ?_
 ·simp only[aK,aJ,go_sem,simprocAttr]
  repeat' refine af ?_ ?_
  all_goals first|exact aR|skip
 ·exact .cons rfl .k1 .nil
 rintro m e H ⟨rest,rfl,hr1,hr2,hr3,hr4,rfl,rfl⟩
 cases rest with
 |nil=>
  have hm:¬(0:Int)<=((([]:List Nat).length:Nat):Int)-1:=by simp
  repeat (first|(with_reducible refine GE.go am rfl ?_)|simp only[hm,ge_iff_le,decide_false,go_sem,simprocAttr])
  refine eP [0] [] (.n .i64 (cK cs l)) [ah 3 1 (bf l).length 0 (iC (bf l))] (.cons rfl .k1 .nil) (Wv.n (by rw[hr2];rfl)) (by simp) (aO rfl) ⟨rfl,rfl⟩
 |cons b rest=>
  obtain⟨q,hq⟩:∃q:Nat,q=rest.length:=⟨_,rfl⟩
  have hm:(((b::rest).length:Nat):Int)-1=(q:Int):=by simp;omega
  rw[hm]
  have h0:(0:Int)<=(q:Int):=by omega
  have hbl:b<cs.length:=hr3 b (List.mem_cons_self ..)
  have hbi:(b:Int)<cs.length:=by omega
  have h0b:(0:Int)<=(b:Int):=by omega
  have hql:q<(bf l).length:=by simp only[List.length_cons] at hr1;omega
  have hqi:(q:Int)<(bf l).length:=by omega
  have hg:(ah 3 1 (bf l).length 0 (iC (bf l))).get q= .n .i64 (b:Int):=by
   rw[dd]
   simp only[iC]
   rw[hr4 q (by simp;omega),hq,iH]
  have wq:IntKind.i64.wrap ((q:Int)-1)=(q:Int)-1:=ao (by omega)
  by_cases e29:(cs.getD b (0,0)).1=29
  ·repeat (first|(with_reducible refine GE.go am rfl ?_)|simp only[h0,hqi,hql,hg,hbi,h0b,bp,e29,ge_iff_le,decide_true,go_sem,simprocAttr])
   refine eP [0] [] (.n .i64 (cK cs l)) [ah 3 1 (bf l).length 0 (iC (bf l))] (.cons rfl .k1 .nil) (Wv.n (by rw[hr2,cK,if_pos (show ax cs b=29 from e29)])) (by simp) (aO rfl) ⟨rfl,rfl⟩
  ·repeat (first|(with_reducible refine GE.go am rfl ?_)|simp only[h0,hqi,hql,hg,hbi,h0b,bp,e29,wq,ge_iff_le,decide_true,decide_false,go_sem,simprocAttr])
   refine⟨rest.length,_,_,by simp,ce.mk [0] [] ?_ ?_ (by simp) (aO rfl),rest,rfl,by simp only[List.length_cons] at hr1;omega,by rw[hr2,cK,if_neg (show ¬ax cs b=29 from e29)],λc hc=>hr3 c (List.mem_cons_of_mem _ hc),λi hi=>(hr4 i (by simp;omega)).trans (iI b rest hi),rfl,rfl⟩
   ·simp only[aK,aJ,go_sem,simprocAttr]
    repeat' refine af ?_ ?_
    all_goals first|exact aR|skip
   ·exact .cons rfl .k1 .nil
structure qx(cs:List (Int×Int))(s:RS)(i:Nat):Prop where
 len:s.out.length=cs.length
 op:∀b ∈ s.op,b<i/\(ax cs b=27\/ax cs b=29)
 ot:∀c ∈ s.ot,c<0\/(c<i/\ax cs c.toNat=28)
 eq:s.op.length=s.ot.length
theorem rE(cs:List (Int×Int)):qx cs (l9 cs) 0:=⟨by simp[l9],λb hb=>by simp[l9] at hb,λc hc=>by simp[l9] at hc,rfl⟩
theorem cS{cs:List (Int×Int)}{i:Nat}{s s1:RS}(h:a7 cs i s=some s1)(hi:i<cs.length)(H:qx cs s i):
  qx cs s1 (i+1)/\(∀j,j<i->ax cs j=31->s1.out.getD j 0=s.out.getD j 0)/\
   ((ax cs i=31/\∃b,s.op=b::s1.op/\s1.out.getD i 0=b)\/(ax cs i=29/\s1.op=i::s.op)\/(ax cs i=27/\s1.op=i::s.op)\/(ax cs i=30/\s1.op=s.op/\eh cs s.op=true)\/(ax cs i≠31/\ax cs i≠29/\ax cs i≠27/\ax cs i≠30/\s1.op=s.op)):=by
 have low:∀j,j<i->(s.out.set i (-1)).getD j 0=s.out.getD j 0:=λj hj=>bQ (by omega)
 have opm:∀b ∈ s.op,b<i+1/\(ax cs b=27\/ax cs b=29):=λb hb=>⟨by have:=(H.op b hb).1;omega,(H.op b hb).2⟩
 have otm:∀c ∈ s.ot,c<0\/(c<(i+1:Nat)/\ax cs c.toNat=28):=λc hc=>(H.ot c hc).imp id λh=>⟨by omega,h.2⟩
 rw[a7] at h
 by_cases c1:ax cs i=27\/ax cs i=29
 ·rw[if_pos c1] at h
  split at h
  ·cases h
  ·cases h
   refine⟨⟨by simp[H.len],λb hb=>?_,λc hc=>?_,by simp[H.eq]⟩,λj hj _=>low j hj,?_⟩
   ·rcases List.mem_cons.1 hb with rfl|hb
    ·exact⟨by omega,c1⟩
    ·exact opm b hb
   ·rcases List.mem_cons.1 hc with rfl|hc
    ·exact .inl (by decide)
    ·exact otm c hc
   ·rcases c1 with c1|c1
    ·exact .inr (.inr (.inl ⟨c1,rfl⟩))
    ·exact .inr (.inl ⟨c1,rfl⟩)
 rw[if_neg c1] at h
 by_cases c2:ax cs i=28
 ·rw[if_pos c2] at h
  split at h
  ·rename_i b op c ot h1 h2
   split at h
   ·cases h
   ·cases h
    have hb:=H.op b (by rw[h1];exact List.mem_cons_self ..)
    refine⟨⟨by simp[H.len],λx hx=>opm x (by rw[h1];exact hx),λx hx=>?_,?_⟩,λj hj h31=>?_,.inr (.inr (.inr (.inr ⟨by rw[c2];decide,by rw[c2];decide,by rw[c2];decide,by rw[c2];decide,h1.symm⟩)))⟩
    ·rcases List.mem_cons.1 hx with rfl|hx
     ·exact .inr ⟨by omega,by rw[Int.toNat_natCast];exact c2⟩
     ·exact otm x (by rw[h2];exact List.mem_cons_of_mem _ hx)
    ·have:=H.eq;rw[h1,h2] at this;simpa using this
    ·refine(bQ ?_).trans (low j hj)
     rintro rfl
     rcases hb.2 with h|h<;>rw[h31] at h<;>exact absurd h (by decide)
  ·cases h
 rw[if_neg c2] at h
 by_cases c3:ax cs i=30
 ·rw[if_pos c3] at h
  split at h
  ·rename_i hin
   cases h
   exact⟨⟨by simp[H.len],opm,otm,H.eq⟩,λj hj _=>low j hj,.inr (.inr (.inr (.inl ⟨c3,rfl,hin⟩)))⟩
  ·cases h
 rw[if_neg c3] at h
 by_cases c4:ax cs i=31
 ·rw[if_pos c4] at h
  split at h
  ·rename_i b op c ot h1 h2
   cases h
   have hb:=H.op b (by rw[h1];exact List.mem_cons_self ..)
   have hc:=H.ot c (by rw[h2];exact List.mem_cons_self ..)
   have hne:∀j,ax cs j=31->j≠b:=λj hj=>by
    rintro rfl
    rcases hb.2 with h|h<;>rw[hj] at h<;>exact absurd h (by decide)
   have hnc:0<=c->∀j,ax cs j=31->j≠c.toNat:=λh0 j hj=>by
    rintro rfl
    rcases hc with h|h
    ·omega
    ·rw[hj] at h;exact absurd h.2 (by decide)
   have hil:i<(s.out.set i (-1)).length:=by rw[List.length_set,H.len];exact hi
   refine⟨⟨by split<;>simp[H.len],λx hx=>opm x (by rw[h1];exact List.mem_cons_of_mem _ hx),λx hx=>otm x (by rw[h2];exact List.mem_cons_of_mem _ hx),?_⟩,λj hj h31=>?_,.inl ⟨c4,b,h1,?_⟩⟩
   ·have:=H.eq;rw[h1,h2] at this;simpa using this
   ·dsimp only
    split
    ·rename_i h0
     exact(bQ (hnc h0 j h31)).trans ((bQ (by omega)).trans (low j hj))
    ·exact(bQ (hne j h31)).trans ((bQ (by omega)).trans (low j hj))
   ·dsimp only
    split
    ·rename_i h0
     exact(bQ (hnc h0 i c4)).trans (iW hil)
    ·exact(bQ (hne i c4)).trans (iW hil)
  ·cases h
 rw[if_neg c4] at h
 cases h
 exact⟨⟨by simp[H.len],opm,otm,H.eq⟩,λj hj _=>low j hj,.inr (.inr (.inr (.inr ⟨c4,λh=>c1 (.inr h),λh=>c1 (.inl h),c3,rfl⟩)))⟩
theorem jM{cs:List (Int×Int)}:∀(n i:Nat) (s s2:RS),bm cs n i s= .ok s2->i+n<=cs.length->qx cs s i->∀j,j<i->ax cs j=31->s2.out.getD j 0=s.out.getD j 0
 |0,i,s,s2,h,_,_,j,_,_=>by cases h;rfl
 |n+1,i,s,s2,h,hn,H,j,hj,h31=>by
  rw[bm] at h
  cases hs:a7 cs i s with
  |none=>rw[hs] at h;cases h
  |some s1=>
   rw[hs] at h
   obtain⟨H1,k1,_⟩:=cS hs (by omega) H
   exact(jM n (i+1) s1 s2 h (by omega) H1 j (by omega) h31).trans (k1 j hj h31)
def nU(cs:List (Int×Int)):Nat->Nat->List Int->List Nat->Option (List Int)
 |0,_,out,_=>some out
 |n+1,i,out,lp=>
  if ax cs i=29 then nU cs n (i+1) out (i::lp)
  else if ax cs i=31 then
   if 0<=out.getD i 0/\out.getD i 0<cs.length then
    if ax cs (out.getD i 0).toNat=29 then match lp with
     |_::l=>nU cs n (i+1) out l
     |[]=>none
    else nU cs n (i+1) out lp
   else none
  else if ax cs i=30 then match lp with
   |b::l=>nU cs n (i+1) (out.set i (out.getD b 0)) (b::l)
   |[]=>none
  else nU cs n (i+1) out lp
def bO(cs:List (Int×Int))(l:List Nat):List Nat:=l.filter λb=>decide (ax cs b=29)
theorem je{cs:List (Int×Int)}:∀(n i:Nat) (s s2:RS) (out:List Int),bm cs n i s= .ok s2->i+n=cs.length->qx cs s i->(∀j,i<=j->ax cs j=31->out.getD j 0=s2.out.getD j 0)->out.length=cs.length->
  ∃out',nU cs n i out (bO cs s.op)=some out'/\out'.length=cs.length/\∀j,ax cs j≠30->out'.getD j 0=out.getD j 0
 |0,i,s,s2,out,h,hn,H,ho,hl=>⟨out,rfl,hl,λ_ _=>rfl⟩
 |n+1,i,s,s2,out,h,hn,H,ho,hl=>by
  rw[bm] at h
  cases hs:a7 cs i s with
  |none=>rw[hs] at h;cases h
  |some s1=>
   rw[hs] at h
   obtain⟨H1,k1,k2⟩:=cS hs (by omega) H
   have ih:=λout' (q1:∀j,i+1<=j->ax cs j=31->out'.getD j 0=s2.out.getD j 0) (q2:out'.length=cs.length)=>je n (i+1) s1 s2 out' h (by omega) H1 q1 q2
   have ih0:=ih out (λj hj h31=>ho j (by omega) h31) hl
   rw[nU.eq_def];dsimp only
   rcases k2 with⟨c,b,e1,e2⟩|⟨c,e1⟩|⟨c,e1⟩|⟨c,e1,e2⟩|⟨c1,c2,c3,c4,e1⟩
   ·have hb:=H.op b (by rw[e1];exact List.mem_cons_self ..)
    have hv:out.getD i 0=b:=by
     rw[ho i (Nat.le_refl _) c,jM n (i+1) s1 s2 h (by omega) H1 i (by omega) c,e2]
    rw[if_neg (by rw[c];decide),if_pos c,hv,if_pos ⟨by omega,by omega⟩,Int.toNat_natCast]
    by_cases h29:ax cs b=29
    ·have:bO cs s.op=b::bO cs s1.op:=by rw[e1];simp[bO,h29]
     rw[if_pos h29,this]
     exact ih0
    ·have:bO cs s.op=bO cs s1.op:=by rw[e1];simp[bO,h29]
     rw[if_neg h29,this]
     exact ih0
   ·rw[if_pos c]
    have:bO cs s1.op=i::bO cs s.op:=by rw[e1];simp[bO,c]
    rw[<-this]
    exact ih0
   ·rw[if_neg (by rw[c];decide),if_neg (by rw[c];decide),if_neg (by rw[c];decide)]
    have:bO cs s1.op=bO cs s.op:=by rw[e1];simp[bO,c]
    rw[<-this]
    exact ih0
   ·rw[if_neg (by rw[c];decide),if_neg (by rw[c];decide),if_pos c]
    have hne:∃b l,bO cs s.op=b::l:=by
     obtain⟨b,hb,hb2⟩:=List.any_eq_true.1 e2
     cases hlp:bO cs s.op with
     |nil=>
      have:b ∈ bO cs s.op:=List.mem_filter.2 ⟨hb,hb2⟩
      rw[hlp] at this
      cases this
     |cons b l=>exact⟨b,l,rfl⟩
    obtain⟨b,l,hbl⟩:=hne
    rw[hbl]
    obtain⟨out',p1,p2,p3⟩:=ih (out.set i (out.getD b 0)) (λj hj h31=>(bQ (by omega)).trans (ho j (by omega) h31)) (by rw[List.length_set];exact hl)
    rw[e1,hbl] at p1
    exact⟨out',p1,p2,λj hj=>(p3 j hj).trans (bQ (by rintro rfl;exact hj c))⟩
   ·rw[if_neg c2,if_neg c1,if_neg c4,<-e1]
    exact ih0
theorem mT{n:Nat}(l:List Int)(k:Nat):(ah 3 1 n 0 (iC l)).get k= .n .i64 (l.getD k 0):=by rw[dd];rfl
theorem pE(cs:List (Int×Int))(hcs:cs.length<=1024)(out out':List Int)(hol:out.length=cs.length)(h:nU cs cs.length 0 out []=some out'):
  PC Tryz.prog (λ_=>false) 101 [.fs 2 cs.length (pI cs),.os 0 out.length] (ag [ah 3 1 out.length 0 (iC out)])
   (λv H'=>v= .os 0 out'.length/\H'=ag [ah 3 1 out'.length 0 (iC out')]) (λ_ _=>False):=by
 refine PC.vw (fP qP ⟨by simp,by decide⟩ ?_)
 simp only[aQ]
 repeat (first|(with_reducible refine GE.go am rfl ?_)|simp only[go_sem,simprocAttr])
 refine GE.wk (ce.nil 5 1 3 (by simp only[go_sem,simprocAttr]) (by decide) (by simp only[go_sem,simprocAttr])) ?_
 simp only[da]
 refine GE.loop (I:=λm e H=>∃(k:Nat) (o:List Int) (lp:List Nat),m=cs.length-k/\k<=cs.length/\o.length=cs.length/\nU cs (cs.length-k) k o lp=some out'/\lp.length<=k/\(∀b ∈ lp,b<cs.length)/\e=aC [(0,.fs 2 cs.length (pI cs)),(1,.os 0 o.length),(5,.os 1 (bf lp).length),(6,.n .i64 k)]/\H=ag [ah 3 1 (bf lp).length 0 (iC (bf lp)),ah 3 1 o.length 0 (iC o)]) (ce.mk [1,0] [] ?_ ?_ (by simp) eF) ⟨0,out,[],rfl,Nat.zero_le _,hol,h,Nat.le_refl _,λb hb=>(by cases hb),rfl,rfl⟩ ?_
 ·simp only[aK,aJ,go_sem,simprocAttr]
  repeat' refine af ?_ ?_
  all_goals first|exact aR|skip
 ·exact .cons rfl (.rows (x:=_) (by simp only[go_sem,simprocAttr];rfl) (by rfl) (by rfl) (by rfl) (by simp[bf]) (by decide) (by decide) (λi j h=>absurd h (Nat.not_lt_zero _)) (λi j h=>absurd h (Nat.not_lt_zero _))) (.cons rfl .k1 .nil)
 rintro m e H ⟨k,o,lp,rfl,hk,ho,hlv,hlp,hlt,rfl,rfl⟩
 have h0:(0:Int)<=(k:Int):=by omega
 by_cases hkl:k<cs.length
 rotate_left
 ·have hk':¬(k:Int)<cs.length:=by omega
  have he:k=cs.length:=by omega
  subst he
  rw[Nat.sub_self] at hlv
  cases hlv
  repeat (first|(with_reducible refine GE.go am rfl ?_)|simp only[hk',decide_false,go_sem,simprocAttr])
  refine eP [0] [] (.os 0 out'.length) [ah 3 1 out'.length 0 (iC out')] (.cons rfl .k1 .nil) (Wv.os rfl) (by simp) eF ⟨rfl,rfl⟩
 have hk':(k:Int)<cs.length:=by omega
 have wk:IntKind.i64.wrap ((k:Int)+1)=((k+1:Nat):Int):=(ao (by omega)).trans (by omega)
 rw[show cs.length-k=(cs.length-(k+1))+1 by omega,nU.eq_def] at hlv
 dsimp only at hlv
 have hll:=bJ lp
 have hki:(k:Int)<o.length:=by omega
 have hkn:k<o.length:=by omega
 have hgk:=mT (n:=o.length) o k
 by_cases e29:(cs.getD k (0,0)).1=29
 ·rw[if_pos (show ax cs k=29 from e29)] at hlv
  have hlap:((bf lp).length+1<1099511627776/\((bf lp).length+1)*8<=140737488355328)/\(bf lp).length<=9223372036854775806:=⟨⟨by omega,by omega⟩,by omega⟩
  have hs:bf (k::lp)=bf lp++[(k:Int)]:=ed k lp
  repeat (first|(with_reducible refine GE.go am rfl ?_)|simp only[hk',h0,bp,e29,wk,hlap,decide_true,go_sem,simprocAttr])
  refine⟨cs.length-(k+1),_,_,by omega,ce.mk [3,0] [] ?_ ?_ (by simp) eF,k+1,o,k::lp,rfl,by omega,ho,hlv,by simp;omega,λb hb=>(List.mem_cons.1 hb).elim (λe=>e ▸ hkl) (hlt b),rfl,rfl⟩
  ·rw[hs,List.length_append]
   simp only[aK,aJ,go_sem,simprocAttr]
   repeat' refine af ?_ ?_
   all_goals first|exact aR|skip
  ·rw[hs,List.length_append]
   exact .cons rfl (.snoc (row:=iC (bf lp)) (n:=(bf lp).length) (o:=(bf lp).length) (l:=[.n .i64 (k:Int)]) (by simp only[go_sem,simprocAttr]) (by omega) rfl rfl (by decide) (by omega) (λi j hi _=>by simp only[iC];rw[bS hi]) (λj hj=>by cases Nat.lt_one_iff.1 hj;simp only[iC];rw[bT];rfl) (λ_ _ _ _=>rfl)) (.cons rfl .k1 .nil)
 rw[if_neg (show ¬ax cs k=29 from e29)] at hlv
 by_cases e31:(cs.getD k (0,0)).1=31
 ·rw[if_pos (show ax cs k=31 from e31)] at hlv
  by_cases hv:0<=o.getD k 0/\o.getD k 0<cs.length
  rotate_left
  ·rw[if_neg hv] at hlv;cases hlv
  rw[if_pos hv] at hlv
  obtain⟨z,hz⟩:∃z:Nat,o.getD k 0=(z:Int):=⟨(o.getD k 0).toNat,by omega⟩
  rw[hz] at hgk hv hlv
  rw[Int.toNat_natCast] at hlv
  have hz0:=hv.1
  have hz1:=hv.2
  by_cases z29:(cs.getD z (0,0)).1=29
  ·rw[if_pos (show ax cs z=29 from z29)] at hlv
   cases lp with
   |nil=>cases hlv
   |cons b lp=>
   dsimp only at hlv
   have hlp':lp.length+1<=k:=hlp
   have w1:IntKind.i64.wrap (((bf (b::lp)).length:Int)-1)=((bf lp).length:Int):=by rw[bJ,bJ,List.length_cons];exact(ao (by omega)).trans (by omega)
   have hp0:(0:Int)<=((bf lp).length:Int):=by omega
   have hp1:((bf lp).length:Int)<=(bf (b::lp)).length:=by rw[bJ,bJ,List.length_cons];omega
   repeat (first|(with_reducible refine GE.go am rfl ?_)|simp only[hk',h0,bp,e29,e31,hki,hkn,hgk,hz0,hz1,z29,w1,hp0,hp1,wk,decide_true,decide_false,go_sem,simprocAttr])
   refine⟨cs.length-(k+1),_,_,by omega,ce.mk [1,0] [] ?_ ?_ (by simp) eF,k+1,o,lp,rfl,by omega,ho,hlv,by simp only[List.length_cons] at hlp;omega,λc hc=>hlt c (List.mem_cons_of_mem _ hc),rfl,rfl⟩
   ·simp only[aK,aJ,go_sem,simprocAttr]
    repeat' refine af ?_ ?_
    all_goals first|exact aR|skip
   ·exact .cons rfl (.pop (row:=iC (bf (b::lp))) (n:=(bf (b::lp)).length) (by simp only[go_sem,simprocAttr]) rfl (by decide) (by rw[bJ,bJ];simp) (λi j hi _=>by simp only[iC];rw[iI b lp (by rw[bJ] at hi;exact hi)]) (λ_ _ _ _=>rfl)) (.cons rfl .k1 .nil)
  ·rw[if_neg (show ¬ax cs z=29 from z29)] at hlv
   repeat (first|(with_reducible refine GE.go am rfl ?_)|simp only[hk',h0,bp,e29,e31,hki,hkn,hgk,hz0,hz1,z29,wk,decide_true,decide_false,go_sem,simprocAttr])
   refine⟨cs.length-(k+1),_,_,by omega,ce.mk [1,0] [] ?_ ?_ (by simp) eF,k+1,o,lp,rfl,by omega,ho,hlv,by omega,hlt,rfl,rfl⟩
   ·simp only[aK,aJ,go_sem,simprocAttr]
    repeat' refine af ?_ ?_
    all_goals first|exact aR|skip
   ·exact .cons rfl .k1 (.cons rfl .k1 .nil)
 rw[if_neg (show ¬ax cs k=31 from e31)] at hlv
 by_cases e30:(cs.getD k (0,0)).1=30
 ·rw[if_pos (show ax cs k=30 from e30)] at hlv
  cases lp with
  |nil=>cases hlv
  |cons b lp=>
  dsimp only at hlv
  have hbl:b<cs.length:=hlt b (List.mem_cons_self ..)
  obtain⟨q,hq⟩:∃q:Nat,q=lp.length:=⟨_,rfl⟩
  have hlen:(bf (b::lp)).length=q+1:=by rw[bJ,hq];rfl
  have w1:IntKind.i64.wrap (((bf (b::lp)).length:Int)-1)=(q:Int):=by rw[hlen];exact(ao (by simp at hlp;omega)).trans (by omega)
  have hp0:(0:Int)<=(q:Int):=by omega
  have hp1:(q:Int)<(bf (b::lp)).length:=by omega
  have hp2:q<(bf (b::lp)).length:=by omega
  have hgq:(ah 3 1 (bf (b::lp)).length 0 (iC (bf (b::lp)))).get q= .n .i64 (b:Int):=by rw[mT,hq,iH]
  have hb0:(0:Int)<=(b:Int):=by omega
  have hb1:(b:Int)<o.length:=by omega
  have hb2:b<o.length:=by omega
  have hgb:=mT (n:=o.length) o b
  have hk1:k+1<=o.length:=hkn
  repeat (first|(with_reducible refine GE.go am rfl ?_)|simp only[hk',h0,bp,e29,e31,e30,hki,hkn,w1,hp0,hp1,hp2,hgq,hb0,hb1,hb2,hgb,hk1,wk,decide_true,decide_false,go_sem,simprocAttr])
  refine⟨cs.length-(k+1),_,_,by omega,ce.mk [1,0] [] ?_ ?_ (by simp) eF,k+1,o.set k (o.getD b 0),b::lp,rfl,by omega,by rw[List.length_set];exact ho,hlv,by omega,hlt,rfl,rfl⟩
  ·rw[List.length_set]
   simp only[aK,aJ,go_sem,simprocAttr]
   repeat' refine af ?_ ?_
   all_goals first|exact aR|skip
  ·rw[List.length_set]
   exact .cons rfl .k1 (.cons rfl (.put1 (row:=iC o) (row2:=iC (o.set k (o.getD b 0))) (o:=k) (q:=k) (t:=0) (v:= .n .i64 (o.getD b 0)) (by simp only[go_sem,simprocAttr]) (by omega) (by decide) (by omega) rfl (by omega) (λi j hi hj=>by simp only[iC];rw[bR hkn];by_cases hh:i=k<;>simp[hh];omega) (λ_ _ _ _=>rfl)) .nil)
 rw[if_neg (show ¬ax cs k=30 from e30)] at hlv
 repeat (first|(with_reducible refine GE.go am rfl ?_)|simp only[hk',h0,bp,e29,e31,e30,wk,decide_true,decide_false,go_sem,simprocAttr])
 refine⟨cs.length-(k+1),_,_,by omega,ce.mk [1,0] [] ?_ ?_ (by simp) eF,k+1,o,lp,rfl,by omega,ho,hlv,by omega,hlt,rfl,rfl⟩
 ·simp only[aK,aJ,go_sem,simprocAttr]
  repeat' refine af ?_ ?_
  all_goals first|exact aR|skip
 ·exact .cons rfl .k1 (.cons rfl .k1 .nil)
def dw(l:List Int):List Int:=l.reverse
theorem fD(l:List Int):(dw l).length=l.length:=by simp[dw]
theorem fh(c:Int)(l:List Int):dw (c::l)=dw l++[c]:=by simp[dw]
theorem kj(c:Int)(l:List Int):(dw (c::l)).getD l.length 0=c:=by
 rw[fh]
 have:=bT (l:=dw l) (x:=c) (d:=0)
 rw[fD] at this
 exact this
theorem iE(c:Int)(l:List Int){i:Nat}(h:i<l.length):(dw (c::l)).getD i 0=(dw l).getD i 0:=by
 rw[fh,bS (by rw[fD];exact h)]
theorem nL{pt:List Int}{a c d:Nat}(ha:a<pt.length)(hc:c<pt.length)(hd:d<pt.length)(u v w:Int)(i:Nat):(if i=d then AV.n .i64 w else if i=c then AV.n .i64 v else if i=a then AV.n .i64 u else iC pt i 0)=iC (((pt.set a u).set c v).set d w) i 0:=by
 rw[dN ha hc u v i]
 simp only[iC]
 rw[bR (l:=(pt.set a u).set c v) (by simp;exact hd)]
 by_cases h:i=d
 ·rw[if_pos h,if_pos h]
 ·rw[if_neg h,if_neg h]
def cz(cs:List (Int×Int)):List Int×Int×Int:=if 1024<cs.length then([],0,6) else match d9 cs with
 |.error x=>([],x,15)
 |.ok out=>((nU cs cs.length 0 out []).getD [],0,0)
def dB(s:RS):List AB:=[ah 3 1 (dw s.ot).length 0 (iC (dw s.ot)),ah 3 1 (bf s.op).length 0 (iC (bf s.op)),ah 3 1 s.out.length 0 (iC s.out)]
def zV(cs:List (Int×Int))(v:AV)(H:AH):Prop:=∃l,v=aZ l/\gQ [.o 3 1 (cz cs).1.length 0 (iC (cz cs).1),.v (.n .i64 (cz cs).2.1),.v (.n .i64 (cz cs).2.2)] l H
theorem cH{cs:List (Int×Int)}{x e:Int}(h:cz cs=([],x,e))(H:AH):zV cs (.tup [.sl0,.n .i64 x,.n .i64 e]) H:=by
 refine⟨[_,_,_],rfl,?_⟩
 rw[h]
 exact⟨.inl ⟨rfl,rfl⟩,rfl,⟨rfl,rfl⟩,⟨rfl,rfl⟩,trivial⟩
theorem PC.no{P:Program}{kk:Nat->Bool}{g:FuncId}{args:List AV}{H:AH}{Q:AV->AH->Prop}{E:List PanicEntry->AH->Prop}(h:PC P kk g args H Q E):PC P (λ_=>false) g args H Q E:=
 ⟨h.1,λB σ w args' hH ha=>(h.2 B σ w args' hH ha).mono λen w' hp=>by
  cases en with
  |returned u=>obtain⟨v,H',σ',q,q1,q2,q3⟩:=hp;exact⟨v,H',σ',q,q1,q2,q3.no⟩
  |panicked c=>exact hp
  |outgrown=>exact hp.elim⟩
theorem dq.put3{r:Nat->Option Nat}{M:List Nat}{H:AH}{b ty n z a c d:Nat}{row row2:Nat->Nat->AV}{u v w:AV}(hx:H.at b=some ((((ah ty 1 n z row).putN a [u]).putN c [v]).putN d [w]))(hn:n<999999)(ha:a<n)(hc:c<n)(hd:d<n)(hM:M.contains b=false)
  (h2:∀i,i<n->(if i=d then w else if i=c then v else if i=a then u else row i 0)=row2 i 0) (hp:∀i j,i<n->j<1->(row2 i j).pu 3=true):dq r M H b (ah ty 1 n z row2):=by
 refine dq.rows hx rfl rfl rfl (Nat.le_refl _) (by rw[if_neg (by simpa using hM)];exact Nat.le_refl _) (by decide) (λi j hi hj=>?_) hp
 obtain rfl:j=0:=by omega
 have key:∀(x:AB) (q:Nat) (y:AV),q<n->(x.putN q [y]).get (i*1+0)=if i=q then y else x.get (i*1+0):=λx q y hq=>by
  rw[dC (by simp only[List.length_cons,List.length_nil];omega)]
  simp only[List.length_cons,List.length_nil,Nat.mul_one,Nat.add_zero,Nat.zero_add]
  by_cases e:i=q
  ·subst e
   rw[if_pos (by omega),if_pos rfl,Nat.sub_self]
   rfl
  ·rw[if_neg (by omega),if_neg e]
 rw[<-h2 i hi,key _ d w hd,key _ c v hc,key _ a u ha]
 have:(ah ty 1 n z row).get (i*1+0)=row i 0:=by rw[Nat.mul_one];exact dd i
 rw[this]
theorem lh(cs:List (Int×Int))(hcs:cs.length<=100000):PC Tryz.prog (λ_=>false) 83 [.fs 2 cs.length (pI cs)] (ag []) (zV cs) (λ_ _=>False):=by
 refine fP qS ⟨by simp,by decide⟩ ?_
 simp only[aQ]
 by_cases h1024:1024<cs.length
 ·have hb:(1024:Int)<cs.length:=by omega
  repeat (first|(with_reducible refine GE.go am rfl ?_)|simp only[hb,gt_iff_lt,decide_true,go_sem,simprocAttr])
  exact cH (by rw[cz,if_pos h1024]) _
 have hb:¬(1024:Int)<cs.length:=by omega
 have hms:0<=(cs.length:Int)/\(cs.length:Int)<=cs.length/\(cs.length:Int)<=16777216/\8*cs.length<=140737488355328/\cs.length<1099511627776:=⟨by omega,by omega,by omega,by omega,by omega⟩
 repeat (first|(with_reducible refine GE.go am rfl ?_)|simp only[hb,hms,gt_iff_lt,decide_false,go_sem,simprocAttr])
 refine GE.wk (ce.nil 6 1 3 (by simp only[go_sem,simprocAttr]) (by decide) (by simp only[go_sem,simprocAttr]<;>decide)) ?_
 simp only[da]
 refine GE.wk (ce.nil 7 1 3 (by simp only[go_sem,simprocAttr]) (by decide) (by simp only[go_sem,simprocAttr]<;>decide)) ?_
 simp only[da]
 refine GE.loop (I:=λm e H=>∃(k:Nat) (s:RS),m=cs.length-k/\k<=cs.length/\qx cs s k/\s.op.length<=8/\bm cs (cs.length-k) k s=bm cs cs.length 0 (l9 cs)/\
  e=aC [(0,.fs 2 cs.length (pI cs)),(5,.os 0 s.out.length),(6,.os 1 (bf s.op).length),(7,.os 2 (dw s.ot).length),(8,.n .i64 k)]/\H=ag (dB s)) (ce.mk [2,1,0] [] ?_ ?_ (by simp[dB]) eF) ⟨0,l9 cs,rfl,Nat.zero_le _,rE cs,by simp[l9],rfl,rfl,rfl⟩ ?_
 ·show aK _ _ _ _ [(0,.fs 2 cs.length (pI cs)),(5,.os 0 (List.replicate cs.length (0:Int)).length),(6,.os 1 0),(7,.os 2 0),(8,.n .i64 (0:Nat))]
  rw[List.length_replicate]
  simp only[aK,aJ,go_sem,simprocAttr]
  repeat' refine af ?_ ?_
  all_goals first|exact aR|skip
 ·show aJ _ _ _ _ [ah 3 1 0 0 (iC []),ah 3 1 0 0 (iC []),ah 3 1 (List.replicate cs.length (0:Int)).length 0 (iC (List.replicate cs.length 0))]
  rw[List.length_replicate]
  exact .cons rfl (.rows (x:=_) (by simp only[go_sem,simprocAttr];rfl) (by rfl) (by rfl) (by rfl) (Nat.zero_le _) (by decide) (by decide) (λi j h=>absurd h (Nat.not_lt_zero _)) (λi j h=>absurd h (Nat.not_lt_zero _))) (.cons rfl (.rows (x:=_) (by simp only[go_sem,simprocAttr];rfl) (by rfl) (by rfl) (by rfl) (Nat.zero_le _) (by decide) (by decide) (λi j h=>absurd h (Nat.not_lt_zero _)) (λi j h=>absurd h (Nat.not_lt_zero _))) (.cons rfl (.same (row:=λ_ j=>[AV.n .i64 0][j]?.getD .u) (by simp only[go_sem,simprocAttr]) rfl (by decide) (λi j hi hj=>by cases Nat.lt_one_iff.1 hj;simp only[iC,List.getD_eq_getElem?_getD,List.getElem?_replicate,if_pos hi];rfl) (λ_ _ _ _=>rfl)) .nil))
 rintro m e H ⟨k,⟨out,op,ot⟩,rfl,hk,HI,h8,hrs,rfl,rfl⟩
 have hol:out.length=cs.length:=HI.len
 have hE:op.length=ot.length:=HI.eq
 have h8':op.length<=8:=h8
 have hpl:=bJ op
 have htl:=fD ot
 have h0:(0:Int)<=(k:Int):=by omega
 dsimp only[dB]
 by_cases hkl:k<cs.length
 rotate_left
 ·have hk':¬(k:Int)<cs.length:=by omega
  obtain rfl:k=cs.length:=by omega
  rw[Nat.sub_self] at hrs
  have hrs':bm cs cs.length 0 (l9 cs)= .ok ⟨out,op,ot⟩:=hrs.symm
  cases op with
  |nil=>
   have hsc:d9 cs= .ok out:=by rw[d9,hrs'];rfl
   obtain⟨out',p1',p2,p3⟩:=je cs.length 0 (l9 cs) ⟨out,[],ot⟩ out hrs' (by omega) (rE cs) (λ_ _ _=>rfl) hol
   have p1:nU cs cs.length 0 out []=some out':=p1'
   have hz:¬(0:Int)<((bf []).length:Int):=by simp[bf]
   repeat (first|(with_reducible refine GE.go am rfl ?_)|simp only[hk',hz,gt_iff_lt,decide_false,go_sem,simprocAttr])
   refine gH (λ_=>false) [] [ah 3 1 (dw ot).length 0 (iC (dw ot)),ah 3 1 (bf []).length 0 (iC (bf []))] [ah 3 1 out.length 0 (iC out)] (pE cs (by omega) out out' hol p1) rfl trivial ?_ ?_ ?_ (λb hb=>by cases hb) ?_ ?_ ?_ ?_ ?_ ?_ ?_
   ·simp
   ·rfl
   ·exact λb hb=>by cases hb
   ·exact λb x hb _=>by cases hb
   ·simp[AV.nm]
   ·rfl
   ·exact .cons (.row (by decide) (λi j _ _=>rfl)) .nil
   ·exact .cons (.row (by decide) (λi j _ _=>rfl)) (.cons (.row (by decide) (λi j _ _=>rfl)) .nil)
   ·rintro v H' ⟨rfl,rfl⟩
    refine⟨_,rfl,rfl,?_⟩
    simp only[List.cons_append,List.nil_append]
    repeat (first|(with_reducible refine GE.go am rfl ?_)|simp only[go_sem,simprocAttr])
    refine⟨[_,_,_],rfl,?_⟩
    rw[show cz cs=(out',0,0) from by rw[cz,if_neg h1024,hsc];dsimp only;rw[p1];rfl]
    exact⟨.inr ⟨0,rfl,by simp,_,by simp only[go_sem,simprocAttr]<;>rfl,rfl,rfl,by decide,rfl,Nat.le_refl _,Nat.le_refl _,λi j _ hj=>aE i j hj,λ_ _ _ _=>rfl⟩,rfl,⟨rfl,rfl⟩,⟨rfl,rfl⟩,trivial⟩
   ·exact λc H' h=>h.elim
  |cons b op=>
   have hz:(0:Int)<((bf (b::op)).length:Int):=by rw[bJ,List.length_cons];omega
   repeat (first|(with_reducible refine GE.go am rfl ?_)|simp only[hk',hz,gt_iff_lt,decide_true,decide_false,go_sem,simprocAttr])
   exact cH (by rw[cz,if_neg h1024,d9,hrs'];rfl) _
 have hk':(k:Int)<cs.length:=by omega
 have hkn:k<out.length:=by omega
 have hki:(k:Int)<out.length:=by omega
 have hk1:k+1<=out.length:=hkn
 have wk:IntKind.i64.wrap ((k:Int)+1)=((k+1:Nat):Int):=(ao (by omega)).trans (by omega)
 rw[show cs.length-k=(cs.length-(k+1))+1 by omega,bm] at hrs
 have herr:a7 cs k ⟨out,op,ot⟩=none->cz cs=([],(k:Int),15):=λh=>by
  rw[h] at hrs
  have hrs':bm cs cs.length 0 (l9 cs)= .error k:=hrs.symm
  rw[cz,if_neg h1024,d9,hrs']
 by_cases c1:ax cs k=27\/ax cs k=29
 ·have hmain:∀v:Int,(v=27\/v=29)->(cs.getD k (0,0)).1=v->True:=λ_ _ _=>trivial
  by_cases hL:op.length=8
  ·have hL':((bf op).length:Int)=8:=by omega
   rcases c1 with e|e
   all_goals
    have e':(cs.getD k (0,0)).1=_:=e
    repeat (first|(with_reducible refine GE.go am rfl ?_)|simp only[h0,hk',hki,hk1,bp,e',hL',decide_true,go_sem,simprocAttr])
    exact cH (herr (by rw[a7,if_pos (by first|exact .inl e|exact .inr e)];exact if_pos hL)) _
  ·have hL':¬((bf op).length:Int)=8:=by omega
   have hst:a7 cs k ⟨out,op,ot⟩=some ⟨out.set k (-1),k::op,-1::ot⟩:=by rw[a7,if_pos c1];exact if_neg hL
   have hinv:=(cS hst hkl HI).1
   rw[hst] at hrs
   have hla:((bf op).length+1<1099511627776/\((bf op).length+1)*8<=140737488355328)/\(bf op).length<=9223372036854775806:=⟨⟨by omega,by omega⟩,by omega⟩
   have hlb:((dw ot).length+1<1099511627776/\((dw ot).length+1)*8<=140737488355328)/\(dw ot).length<=9223372036854775806:=⟨⟨by omega,by omega⟩,by omega⟩
   have hs1:(bf (k::op)).length=(bf op).length+1:=by rw[ed,List.length_append];rfl
   have hs2:(dw (-1::ot)).length=(dw ot).length+1:=by rw[fh,List.length_append];rfl
   rcases c1 with e|e
   all_goals
    have e':(cs.getD k (0,0)).1=_:=e
    repeat (first|(with_reducible refine GE.go am rfl ?_)|simp only[h0,hk',hki,hk1,bp,e',hL',hla,hlb,wk,decide_true,decide_false,go_sem,simprocAttr])
    refine⟨cs.length-(k+1),_,_,by omega,ce.mk [6,4,0] [] ?_ ?_ (by simp[dB]) eF,k+1,⟨out.set k (-1),k::op,-1::ot⟩,rfl,by omega,hinv,by simp only[List.length_cons];omega,hrs,rfl,rfl⟩
    ·dsimp only
     rw[List.length_set,hs1,hs2]
     simp only[aK,aJ,go_sem,simprocAttr]
     repeat' refine af ?_ ?_
     all_goals first|exact aR|skip
    ·dsimp only[dB]
     rw[List.length_set,hs1,hs2]
     exact .cons rfl (.snoc (row:=iC (dw ot)) (n:=(dw ot).length) (o:=(dw ot).length) (l:=[.n .i64 (-1)]) (by simp only[go_sem,simprocAttr]) (by omega) rfl rfl (by decide) (by omega) (λi j hi _=>by simp only[iC];rw[fh,bS hi]) (λj hj=>by cases Nat.lt_one_iff.1 hj;simp only[iC];rw[fh,bT];rfl) (λ_ _ _ _=>rfl)) (.cons rfl (.snoc (row:=iC (bf op)) (n:=(bf op).length) (o:=(bf op).length) (l:=[.n .i64 (k:Int)]) (by simp only[go_sem,simprocAttr]) (by omega) rfl rfl (by decide) (by omega) (λi j hi _=>by simp only[iC];rw[ed,bS hi]) (λj hj=>by cases Nat.lt_one_iff.1 hj;simp only[iC];rw[ed,bT];rfl) (λ_ _ _ _=>rfl)) (.cons rfl (.put1 (row:=iC out) (row2:=iC (out.set k (-1))) (o:=k) (q:=k) (t:=0) (v:= .n .i64 (-1)) (by simp only[go_sem,simprocAttr]) (by omega) (by decide) (by omega) rfl (by omega) (λi j hi hj=>by cases Nat.lt_one_iff.1 hj;simp only[iC];rw[bR hkn];by_cases hh:i=k<;>simp[hh]) (λ_ _ _ _=>rfl)) .nil))
 have c27:¬(cs.getD k (0,0)).1=27:=λh=>c1 (.inl h)
 have c29:¬(cs.getD k (0,0)).1=29:=λh=>c1 (.inr h)
 by_cases c28:ax cs k=28
 ·have e':(cs.getD k (0,0)).1=28:=c28
  cases op with
  |nil=>
   have hz:((bf []).length:Int)=0:=by simp[bf]
   repeat (first|(with_reducible refine GE.go am rfl ?_)|simp only[h0,hk',hki,hk1,bp,e',hz,decide_true,decide_false,go_sem,simprocAttr])
   exact cH (herr (by rw[a7,if_neg c1,if_pos c28])) _
  |cons b op=>
  cases ot with
  |nil=>cases hE
  |cons c ot=>
  have hE':op.length=ot.length:=by simpa using hE
  obtain⟨q,hq⟩:∃q:Nat,q=op.length:=⟨_,rfl⟩
  rw[List.length_cons] at hpl htl h8'
  have hz:¬((bf (b::op)).length:Int)=0:=by omega
  have w1:IntKind.i64.wrap (((bf (b::op)).length:Int)-1)=(q:Int):=(ao (by omega)).trans (by omega)
  have q0:(0:Int)<=(q:Int):=by omega
  have q1:(q:Int)<(bf (b::op)).length:=by omega
  have q2:q<(bf (b::op)).length:=by omega
  have q3:(q:Int)<(dw (c::ot)).length:=by omega
  have q4:q<(dw (c::ot)).length:=by omega
  have q5:q+1<=(dw (c::ot)).length:=q4
  have hgq:(ah 3 1 (bf (b::op)).length 0 (iC (bf (b::op)))).get q= .n .i64 (b:Int):=by rw[mT,hq,iH]
  have hgc:(ah 3 1 (dw (c::ot)).length 0 (iC (dw (c::ot)))).get q= .n .i64 c:=by rw[mT,hq,hE',kj]
  have hb:=HI.op b (List.mem_cons_self ..)
  have hbk:b<k:=hb.1
  have b0:(0:Int)<=(b:Int):=by omega
  have b1:(b:Int)<cs.length:=by omega
  have b2:(b:Int)<out.length:=by omega
  have b3:b+1<=out.length:=by omega
  by_cases hb27:(cs.getD b (0,0)).1=27
  ·by_cases hc0:0<=c
   ·repeat (first|(with_reducible refine GE.go am rfl ?_)|simp only[h0,hk',hki,hk1,bp,e',hz,w1,q0,q1,q2,q3,q4,hgq,hgc,b0,b1,hb27,hc0,ge_iff_le,ne_eq,decide_true,decide_false,not_true_eq_false,go_sem,simprocAttr])
    exact cH (herr (by rw[a7,if_neg c1,if_pos c28];exact if_pos (.inr hc0))) _
   ·have hst:a7 cs k ⟨out,b::op,c::ot⟩=some ⟨(out.set k (-1)).set b k,b::op,(k:Int)::ot⟩:=by
     rw[a7,if_neg c1,if_pos c28]
     exact if_neg (λh=>h.elim (λh=>h hb27) hc0)
    have hinv:=(cS hst hkl HI).1
    rw[hst] at hrs
    repeat (first|(with_reducible refine GE.go am rfl ?_)|simp only[h0,hk',hki,hk1,bp,e',hz,w1,q0,q1,q2,q3,q4,q5,hgq,hgc,b0,b1,b2,b3,hb27,hc0,wk,ge_iff_le,ne_eq,decide_true,decide_false,not_true_eq_false,go_sem,simprocAttr])
    have hs2:(dw ((k:Int)::ot)).length=(dw (c::ot)).length:=by rw[fD,fD];rfl
    refine⟨cs.length-(k+1),_,_,by omega,ce.mk [2,1,0] [] ?_ ?_ (by simp[dB]) eF,k+1,⟨(out.set k (-1)).set b k,b::op,(k:Int)::ot⟩,rfl,by omega,hinv,h8,hrs,rfl,rfl⟩
    ·dsimp only
     rw[List.length_set,List.length_set,hs2]
     simp only[aK,aJ,go_sem,simprocAttr]
     repeat' refine af ?_ ?_
     all_goals first|exact aR|skip
    ·dsimp only[dB]
     rw[List.length_set,List.length_set,hs2]
     exact .cons rfl (.put1 (row:=iC (dw (c::ot))) (row2:=iC (dw ((k:Int)::ot))) (o:=q) (q:=q) (t:=0) (v:= .n .i64 (k:Int)) (by simp only[go_sem,simprocAttr]) (by omega) (by decide) (by omega) rfl (by omega) (λi j hi hj=>by
      cases Nat.lt_one_iff.1 hj
      simp only[iC,and_true]
      by_cases hh:i=q
      ·rw[if_pos hh,hh,hq,hE',kj]
      ·rw[if_neg hh,iE c ot (by omega),iE (k:Int) ot (by omega)]) (λ_ _ _ _=>rfl)) (.cons rfl .k1 (.cons rfl (.put2 (row:=iC out) (row2:=iC ((out.set k (-1)).set b k)) (a:=k) (c:=b) (v:= .n .i64 (-1)) (w:= .n .i64 (k:Int)) (by simp only[go_sem,simprocAttr]) (by omega) (by omega) rfl (by omega) (λi hi=>dN (by omega) (by omega) _ _ i) (λ_ _ _ _=>rfl)) .nil))
  ·repeat (first|(with_reducible refine GE.go am rfl ?_)|simp only[h0,hk',hki,hk1,bp,e',hz,w1,q0,q1,q2,q3,q4,hgq,hgc,b0,b1,hb27,ge_iff_le,ne_eq,decide_true,decide_false,not_false_eq_true,go_sem,simprocAttr])
   exact cH (herr (by rw[a7,if_neg c1,if_pos c28];exact if_pos (.inl hb27))) _
 have d28:¬(cs.getD k (0,0)).1=28:=c28
 by_cases c30:ax cs k=30
 ·have e':(cs.getD k (0,0)).1=30:=c30
  obtain⟨outK,hK⟩:∃l,l=out.set k (-1):=⟨_,rfl⟩
  have hKl:outK.length=out.length:=by rw[hK,List.length_set]
  repeat (first|(with_reducible refine GE.go am rfl ?_)|simp only[h0,hk',hki,hk1,bp,e',decide_true,decide_false,go_sem,simprocAttr])
  cases op with
  |nil=>
   refine dj (ob:=λ_=>none) (λ_=>false) [2,0,1] [] [(8,.n .i64 k)] [.fs 2 cs.length (pI cs),.os 0 (bf []).length] [ah 3 1 (dw ot).length 0 (iC (dw ot)),ah 3 1 (outK).length 0 (iC (outK))] [ah 3 1 (bf []).length 0 (iC (bf []))] (gw cs [] (by simp) (λb hb=>by cases hb)).no.o ?_ ?_ ?_ ?_ ?_ ?_ ?_ ?_ ?_ ?_ ?_ ?_ ?_ ?_
   ·(try rw[hKl])
    simp only[aK,aJ,go_sem,simprocAttr]
    repeat' refine af ?_ ?_
    all_goals first|exact aR|skip
   ·rw[hKl]
    exact .cons rfl .k1 (.cons rfl (.put1 (row:=iC out) (row2:=iC outK) (o:=k) (q:=k) (t:=0) (v:= .n .i64 (-1)) (by simp only[go_sem,simprocAttr]) (by omega) (by decide) (by omega) rfl (by omega) (λi j hi hj=>by cases Nat.lt_one_iff.1 hj;rw[hK];simp only[iC];rw[bR hkn];by_cases hh:i=k<;>simp[hh]) (λ_ _ _ _=>rfl)) (.cons rfl .k1 .nil))
   ·exact⟨Wv.same rfl,Wv.os rfl,trivial⟩
   ·exact λr x hx=>by cases hx
   ·simp
   ·rfl
   ·exact λb hb=>by cases hb
   ·exact λb x hb _=>by cases hb
   ·simp[AV.nm]
   ·rfl
   ·exact .cons (.row (by decide) (λi j _ _=>rfl)) .nil
   ·exact .cons (.row (by decide) (λi j _ _=>rfl)) (.cons (.row (by decide) (λi j _ _=>rfl)) .nil)
   ·rintro v H' ⟨rfl,rfl⟩
    refine⟨λ_=>none,λ_=>none,[ah 3 1 (bf []).length 0 (iC (bf []))],[],[],[],_,[(8,.n .i64 k)],(aw _).symm,rfl,?_,?_,Wv.same rfl,by simp,(λr x hx=>by cases hx),(λb hb=>by cases hb),?_⟩
    ·simp only[aK,aJ,go_sem,simprocAttr]
     repeat' refine af ?_ ?_
     all_goals first|exact aR|skip
    ·simp only[List.cons_append,List.nil_append,aw]
     exact trivial
    rw[aw]
    have hneg:cK cs []<0:=(eG cs []).2 rfl
    repeat (first|(with_reducible refine GE.go am rfl ?_)|simp only[hneg,decide_true,go_sem,simprocAttr])
    exact cH (herr (by rw[a7,if_neg c1,if_neg c28,if_pos c30];exact if_neg (by simp[eh]))) _
   ·exact λc H' h=>h.elim
  |cons b op=>
   have hlt:∀x ∈ b::op,x<cs.length:=λx hx=>by have:=(HI.op x hx).1;omega
   refine dj (ob:=λ_=>none) cm [2,0,1] [] [(0,.fs 2 cs.length (pI cs)),(5,.os 1 outK.length),(6,.os 0 (bf (b::op)).length),(7,.os 2 (dw ot).length),(8,.n .i64 k)] [.fs 2 cs.length (pI cs),.os 0 (bf (b::op)).length] [ah 3 1 (dw ot).length 0 (iC (dw ot)),ah 3 1 (outK).length 0 (iC (outK))] [ah 3 1 (bf (b::op)).length 0 (iC (bf (b::op)))] (gw cs (b::op) h8' hlt).o ?_ ?_ ?_ ?_ ?_ ?_ ?_ ?_ ?_ ?_ ?_ ?_ ?_ ?_
   ·(try rw[hKl])
    simp only[aK,aJ,go_sem,simprocAttr]
    repeat' refine af ?_ ?_
    all_goals first|exact aR|skip
   ·rw[hKl]
    exact .cons rfl .k1 (.cons rfl (.put1 (row:=iC out) (row2:=iC outK) (o:=k) (q:=k) (t:=0) (v:= .n .i64 (-1)) (by simp only[go_sem,simprocAttr]) (by omega) (by decide) (by omega) rfl (by omega) (λi j hi hj=>by cases Nat.lt_one_iff.1 hj;rw[hK];simp only[iC];rw[bR hkn];by_cases hh:i=k<;>simp[hh]) (λ_ _ _ _=>rfl)) (.cons rfl .k1 .nil))
   ·exact⟨Wv.same rfl,Wv.os rfl,trivial⟩
   ·exact λr x hx=>by cases hx
   ·simp
   ·rfl
   ·exact λb hb=>by simp[cm] at hb;simp;omega
   ·rw[aw];exact fm (by simp) (by show some (decide (0<(bf (b::op)).length*1))=some true;rw[decide_eq_true (by rw[bJ,List.length_cons];omega)])
   ·simp[AV.nm]
   ·simp[AV.nm,cm]
   ·exact .cons (.row (by decide) (λi j _ _=>rfl)) .nil
   ·exact .cons (.row (by decide) (λi j _ _=>rfl)) (.cons (.row (by decide) (λi j _ _=>rfl)) .nil)
   ·rintro v H' ⟨rfl,rfl⟩
    refine⟨λ_=>none,λ_=>none,[ah 3 1 (bf (b::op)).length 0 (iC (bf (b::op)))],[ah 3 1 (dw ot).length 0 (iC (dw ot)),ah 3 1 (bf (b::op)).length 0 (iC (bf (b::op))),ah 3 1 (outK).length 0 (iC (outK))],[2,0,1],[],_,[(0,.fs 2 cs.length (pI cs)),(5,.os 0 outK.length),(6,.os 1 (bf (b::op)).length),(7,.os 2 (dw ot).length),(8,.n .i64 k)],(aw _).symm,rfl,?_,?_,Wv.same rfl,by simp,(λr x hx=>by cases hx),(λb hb=>by cases hb),?_⟩
    ·simp only[aK,aJ,go_sem,simprocAttr]
     repeat' refine af ?_ ?_
     all_goals first|exact aR|skip
    ·simp only[List.cons_append,List.nil_append,aw]
     exact .cons rfl .k1 (.cons rfl .k1 (.cons rfl .k1 .nil))
    rw[aw]
    by_cases hin:eh cs (b::op)=true
    ·have hneg:¬cK cs (b::op)<0:=λh=>by rw[(eG cs _).1 h] at hin;cases hin
     have hst:a7 cs k ⟨out,b::op,ot⟩=some ⟨outK,b::op,ot⟩:=by rw[a7,if_neg c1,if_neg c28,if_pos c30,hK];exact if_pos hin
     have hinv:=(cS hst hkl HI).1
     rw[hst] at hrs
     repeat (first|(with_reducible refine GE.go am rfl ?_)|simp only[hneg,wk,decide_false,go_sem,simprocAttr])
     refine⟨cs.length-(k+1),_,_,by omega,ce.mk [2,1,0] [] ?_ ?_ (by simp[dB]) eF,k+1,⟨outK,b::op,ot⟩,rfl,by omega,hinv,h8,hrs,rfl,rfl⟩
     ·dsimp only
      simp only[aK,aJ,go_sem,simprocAttr]
      repeat' refine af ?_ ?_
      all_goals first|exact aR|skip
     ·dsimp only[dB]
      exact .cons rfl .k1 (.cons rfl .k1 (.cons rfl .k1 .nil))
    ·have hneg:cK cs (b::op)<0:=(eG cs _).2 (by simpa using hin)
     repeat (first|(with_reducible refine GE.go am rfl ?_)|simp only[hneg,decide_true,go_sem,simprocAttr])
     exact cH (herr (by rw[a7,if_neg c1,if_neg c28,if_pos c30];exact if_neg hin)) _
   ·exact λc H' h=>h.elim
 have d30:¬(cs.getD k (0,0)).1=30:=c30
 by_cases c31:ax cs k=31
 ·have e':(cs.getD k (0,0)).1=31:=c31
  cases op with
  |nil=>
   have hz:((bf []).length:Int)=0:=by simp[bf]
   repeat (first|(with_reducible refine GE.go am rfl ?_)|simp only[h0,hk',hki,hk1,bp,e',hz,decide_true,decide_false,go_sem,simprocAttr])
   exact cH (herr (by rw[a7,if_neg c1,if_neg c28,if_neg c30,if_pos c31])) _
  |cons b op=>
  cases ot with
  |nil=>cases hE
  |cons c ot=>
  have hE':op.length=ot.length:=by simpa using hE
  have hpl2:=bJ op
  have htl2:=fD ot
  rw[List.length_cons] at hpl htl h8'
  have hz:¬((bf (b::op)).length:Int)=0:=by omega
  have w1:IntKind.i64.wrap (((bf (b::op)).length:Int)-1)=((bf op).length:Int):=(ao (by omega)).trans (by omega)
  have hql:(dw ot).length=(bf op).length:=by omega
  have q0:(0:Int)<=((bf op).length:Int):=by omega
  have q1:((bf op).length:Int)<(bf (b::op)).length:=by omega
  have q2:(bf op).length<(bf (b::op)).length:=by omega
  have q3:((bf op).length:Int)<(dw (c::ot)).length:=by omega
  have q4:(bf op).length<(dw (c::ot)).length:=by omega
  have q6:((bf op).length:Int)<=(bf (b::op)).length:=by omega
  have q7:((bf op).length:Int)<=(dw (c::ot)).length:=by omega
  have hgq:(ah 3 1 (bf (b::op)).length 0 (iC (bf (b::op)))).get (bf op).length= .n .i64 (b:Int):=by rw[mT,bJ op,iH]
  have hgc:(ah 3 1 (dw (c::ot)).length 0 (iC (dw (c::ot)))).get (bf op).length= .n .i64 c:=by rw[mT,bJ op,hE',kj]
  have hb:=HI.op b (List.mem_cons_self ..)
  have hbk:b<k:=hb.1
  have b0:(0:Int)<=(b:Int):=by omega
  have b2:(b:Int)<out.length:=by omega
  have b3:b+1<=out.length:=by omega
  have hci:=HI.ot c (List.mem_cons_self ..)
  have hst:a7 cs k ⟨out,b::op,c::ot⟩=some ⟨if 0<=c then((out.set k (-1)).set k b).set c.toNat k else((out.set k (-1)).set k b).set b k,op,ot⟩:=by
   rw[a7,if_neg c1,if_neg c28,if_neg c30,if_pos c31]
  have hinv:=(cS hst hkl HI).1
  rw[hst] at hrs
  by_cases hc0:0<=c
  ·obtain⟨z,rfl⟩:∃z:Nat,c=(z:Int):=⟨c.toNat,by omega⟩
   have hzk:z<k:=by rcases hci with h|h<;>omega
   have z0:(z:Int)<out.length:=by omega
   have z1:z+1<=out.length:=by omega
   rw[if_pos hc0,Int.toNat_natCast] at hrs hinv
   repeat (first|(with_reducible refine GE.go am rfl ?_)|simp only[h0,hk',hki,hk1,bp,e',hz,w1,q0,q1,q2,q3,q4,q6,q7,hgq,hgc,b0,b2,b3,hc0,z0,z1,wk,ge_iff_le,decide_true,decide_false,go_sem,simprocAttr])
   refine⟨cs.length-(k+1),_,_,by omega,ce.mk [2,1,0] [] ?_ ?_ (by simp[dB]) eF,k+1,⟨((out.set k (-1)).set k b).set z k,op,ot⟩,rfl,by omega,hinv,by dsimp only;omega,hrs,rfl,rfl⟩
   ·dsimp only
    rw[List.length_set,List.length_set,List.length_set,hql]
    simp only[aK,aJ,go_sem,simprocAttr]
    repeat' refine af ?_ ?_
    all_goals first|exact aR|skip
   ·dsimp only[dB]
    rw[List.length_set,List.length_set,List.length_set]
    exact .cons rfl (.pop (row:=iC (dw ((z:Int)::ot))) (n:=(dw ((z:Int)::ot)).length) (by simp only[go_sem,simprocAttr]) rfl (by decide) (by omega) (λi j hi _=>by simp only[iC];rw[iE (z:Int) ot (by omega)]) (λ_ _ _ _=>rfl)) (.cons rfl (.pop (row:=iC (bf (b::op))) (n:=(bf (b::op)).length) (by simp only[go_sem,simprocAttr]) rfl (by decide) (by omega) (λi j hi _=>by simp only[iC];rw[iI b op (by omega)]) (λ_ _ _ _=>rfl)) (.cons rfl (.put3 (row:=iC out) (row2:=iC (((out.set k (-1)).set k b).set z k)) (a:=k) (c:=k) (d:=z) (u:= .n .i64 (-1)) (v:= .n .i64 (b:Int)) (w:= .n .i64 (k:Int)) (by simp only[go_sem,simprocAttr]) (by omega) (by omega) (by omega) (by omega) rfl (λi hi=>nL (by omega) (by omega) (by omega) _ _ _ i) (λ_ _ _ _=>rfl)) .nil))
  ·rw[if_neg hc0] at hrs hinv
   repeat (first|(with_reducible refine GE.go am rfl ?_)|simp only[h0,hk',hki,hk1,bp,e',hz,w1,q0,q1,q2,q3,q4,q6,q7,hgq,hgc,b0,b2,b3,hc0,wk,ge_iff_le,decide_true,decide_false,go_sem,simprocAttr])
   refine⟨cs.length-(k+1),_,_,by omega,ce.mk [2,1,0] [] ?_ ?_ (by simp[dB]) eF,k+1,⟨((out.set k (-1)).set k b).set b k,op,ot⟩,rfl,by omega,hinv,by dsimp only;omega,hrs,rfl,rfl⟩
   ·dsimp only
    rw[List.length_set,List.length_set,List.length_set,hql]
    simp only[aK,aJ,go_sem,simprocAttr]
    repeat' refine af ?_ ?_
    all_goals first|exact aR|skip
   ·dsimp only[dB]
    rw[List.length_set,List.length_set,List.length_set]
    exact .cons rfl (.pop (row:=iC (dw (c::ot))) (n:=(dw (c::ot)).length) (by simp only[go_sem,simprocAttr]) rfl (by decide) (by omega) (λi j hi _=>by simp only[iC];rw[iE c ot (by omega)]) (λ_ _ _ _=>rfl)) (.cons rfl (.pop (row:=iC (bf (b::op))) (n:=(bf (b::op)).length) (by simp only[go_sem,simprocAttr]) rfl (by decide) (by omega) (λi j hi _=>by simp only[iC];rw[iI b op (by omega)]) (λ_ _ _ _=>rfl)) (.cons rfl (.put3 (row:=iC out) (row2:=iC (((out.set k (-1)).set k b).set b k)) (a:=k) (c:=k) (d:=b) (u:= .n .i64 (-1)) (v:= .n .i64 (b:Int)) (w:= .n .i64 (k:Int)) (by simp only[go_sem,simprocAttr]) (by omega) (by omega) (by omega) (by omega) rfl (λi hi=>nL (by omega) (by omega) (by omega) _ _ _ i) (λ_ _ _ _=>rfl)) .nil))
 have d31:¬(cs.getD k (0,0)).1=31:=c31
 have hst:a7 cs k ⟨out,op,ot⟩=some ⟨out.set k (-1),op,ot⟩:=by rw[a7,if_neg c1,if_neg c28,if_neg c30,if_neg c31]
 have hinv:=(cS hst hkl HI).1
 rw[hst] at hrs
 repeat (first|(with_reducible refine GE.go am rfl ?_)|simp only[h0,hk',hki,hk1,bp,c27,c29,d28,d30,d31,wk,decide_true,decide_false,go_sem,simprocAttr])
 refine⟨cs.length-(k+1),_,_,by omega,ce.mk [2,1,0] [] ?_ ?_ (by simp[dB]) eF,k+1,⟨out.set k (-1),op,ot⟩,rfl,by omega,hinv,h8,hrs,rfl,rfl⟩
 ·dsimp only
  rw[List.length_set]
  simp only[aK,aJ,go_sem,simprocAttr]
  repeat' refine af ?_ ?_
  all_goals first|exact aR|skip
 ·dsimp only[dB]
  rw[List.length_set]
  exact .cons rfl .k1 (.cons rfl .k1 (.cons rfl (.put1 (row:=iC out) (row2:=iC (out.set k (-1))) (o:=k) (q:=k) (t:=0) (v:= .n .i64 (-1)) (by simp only[go_sem,simprocAttr]) (by omega) (by decide) (by omega) rfl (by omega) (λi j hi hj=>by cases Nat.lt_one_iff.1 hj;simp only[iC];rw[bR hkn];by_cases hh:i=k<;>simp[hh]) (λ_ _ _ _=>rfl)) .nil))
theorem gj(cs:List (Int×Int))(hcs:cs.length<=100000):cg Tryz.prog 83 [.fs 2 cs.length (pI cs)] [.o 3 1 (cz cs).1.length 0 (iC (cz cs).1),.v (.n .i64 (cz cs).2.1),.v (.n .i64 (cz cs).2.2)]:=xw (lh cs hcs)
def Fo.size:Fo->Nat
 |.nil=>0
 |.pl _ _ r=>r.size+1
 |.br _ _ _ u v r=>u.size+v.size+r.size+1
theorem Fo.app_assoc:∀(f g h:Fo),(f.app g).app h=f.app (g.app h)
 |.nil,_,_=>rfl
 |.pl a b r,g,h=>by simp only[Fo.app,Fo.app_assoc r]
 |.br op a b u v r,g,h=>by simp only[Fo.app,Fo.app_assoc r]
theorem Fo.size_app:∀(f g:Fo),(f.app g).size=f.size+g.size
 |.nil,g=>by simp[Fo.app,Fo.size]
 |.pl a b r,g=>by simp only[Fo.app,Fo.size,Fo.size_app r];omega
 |.br op a b u v r,g=>by simp only[Fo.app,Fo.size,Fo.size_app r];omega
theorem Fo.app_nil:∀f:Fo,f.app .nil=f
 |.nil=>rfl
 |.pl a b r=>by simp only[Fo.app,Fo.app_nil r]
 |.br op a b u v r=>by simp only[Fo.app,Fo.app_nil r]
def uh(cs:List (Int×Int))(out:List Int)(o:Fo):Prop:=∀a b,a8 cs out o a b->b<=cs.length->cg Tryz.prog 84 [.fs 2 cs.length (pI cs),.fs 1 out.length (iC out),.n .i64 a,.n .i64 b] [.o 106 5 o.len 0 o.cell]
theorem oC(cs:List (Int×Int))(hcs:cs.length<=1024)(out:List Int)(hol:out.length=cs.length)(o:Fo)(ih:∀u:Fo,u.size<o.size->uh cs out u)(hsz:o.len<=1024):uh cs out o:=by
 intro a b hg hb
 have hab:=hg.le
 refine az am qR ⟨by simp,by decide⟩ ?_
 simp only[aQ]
 repeat first|with_reducible refine ay ?_|simp only[go_sem,simprocAttr]
 refine GA.wk (Wk.nil 9 5 106 (by simp only[go_sem,simprocAttr]) (by decide) (by simp only[go_sem,simprocAttr])) ?_
 simp only[da]
 refine GA.loop (I:=λm e H=>∃(dn rest:Fo) (i:Nat),m=rest.size/\o=dn.app rest/\a8 cs out rest i b/\e=aC [(0,.fs 2 cs.length (pI cs)),(1,.fs 1 out.length (iC out)),(3,.n .i64 b),(9,.os 0 dn.len),(10,.n .i64 i)]/\H=ag [ah 106 5 dn.len 0 dn.cell]) (Wk.mk [0] [] ?_ ?_ ?_) ⟨.nil,o,a,rfl,rfl,hg,rfl,rfl⟩ ?_
 ·simp only[aK,aJ,go_sem,simprocAttr]
  repeat' refine af ?_ ?_
  all_goals first|exact aR|skip
 ·exact .cons rfl (.rows (x:=_) (by simp only[go_sem,simprocAttr];rfl) (by rfl) (by rfl) (by rfl) (Nat.zero_le _) (by decide) (by decide) (λi j h=>absurd h (Nat.not_lt_zero _)) (λi j h=>absurd h (Nat.not_lt_zero _))) .nil
 ·simp
 rintro m e H ⟨dn,rest,i,rfl,ho,hgr,rfl,rfl⟩
 have hib:=hgr.le
 have h0:(0:Int)<=(i:Int):=by omega
 have hdl:dn.len+rest.len=o.len:=by rw[ho,Fo.len_app]
 have hap:((dn.len+1)*5<1099511627776/\(dn.len+1)*72<=140737488355328)/\dn.len<=9223372036854775806:=⟨⟨by omega,by omega⟩,by omega⟩
 cases rest with
 |nil=>
  obtain rfl:i=b:=hgr
  have hlt:¬(i:Int)<i:=by omega
  rw[Fo.app_nil] at ho
  subst ho
  repeat first|with_reducible refine ay ?_|simp only[hlt,decide_false,go_sem,simprocAttr]
  exact⟨[_],rfl,.inr ⟨0,rfl,by simp,_,by simp only[go_sem,simprocAttr]<;>rfl,rfl,rfl,by decide,rfl,Nat.le_refl _,Nat.le_refl _,λi j _ hj=>aE i j hj,λi j hi _=>Fo.cell_ok _ i j hi⟩,rfl,trivial⟩
 |pl x y r=>
  obtain⟨rfl,hxy,hpn,hpl,hr⟩:=hgr
  have hyb:=hr.le
  have h1:(x:Int)<b:=by omega
  have h2:(x:Int)<cs.length:=by omega
  obtain⟨e27,e29⟩:=hpn x (Nat.le_refl _) hxy
  have e27':¬(cs.getD x (0,0)).1=27:=e27
  have e29':¬(cs.getD x (0,0)).1=29:=e29
  repeat first|with_reducible refine ay ?_|simp only[h0,h1,h2,bp,e27',e29',ne_eq,not_false_eq_true,decide_true,decide_false,Bool.not_false,Bool.not_true,go_sem,simprocAttr]
  refine GA.loop (I:=λm e H=>∃k:Nat,m=y-k/\x<=k/\k<=y/\e=aC [(0,.fs 2 cs.length (pI cs)),(1,.fs 1 out.length (iC out)),(3,.n .i64 b),(9,.os 0 dn.len),(10,.n .i64 x),(11,.n .i64 k)]/\H=ag [ah 106 5 dn.len 0 dn.cell]) (Wk.mk [0] [] ?_ ?_ ?_) ⟨x,rfl,Nat.le_refl _,by omega,rfl,rfl⟩ ?_
  ·simp only[aK,aJ,go_sem,simprocAttr]
   repeat' refine af ?_ ?_
   all_goals first|exact aR|skip
  ·exact .cons rfl (.k2 (λi j hi _=>dn.cell_pu i j hi)) .nil
  ·simp
  rintro m e H ⟨k,rfl,hxk,hky,rfl,rfl⟩
  have k0:(0:Int)<=(k:Int):=by omega
  by_cases hk:k<y
  ·have k1:(k:Int)<b:=by omega
   have k2:(k:Int)<cs.length:=by omega
   obtain⟨f27,f29⟩:=hpn k hxk hk
   have f27':¬(cs.getD k (0,0)).1=27:=f27
   have f29':¬(cs.getD k (0,0)).1=29:=f29
   have wk:IntKind.i64.wrap ((k:Int)+1)=((k+1:Nat):Int):=(ao (by omega)).trans (by omega)
   repeat first|with_reducible refine ay ?_|simp only[k0,k1,k2,bp,f27',f29',wk,ne_eq,not_false_eq_true,decide_true,decide_false,Bool.not_false,Bool.not_true,go_sem,simprocAttr]
   refine⟨_,_,_,?_,Wk.mk [0] [] ?_ ?_ ?_,k+1,rfl,by omega,by omega,rfl,rfl⟩
   ·omega
   ·simp only[aK,aJ,go_sem,simprocAttr]
    repeat' refine af ?_ ?_
    all_goals first|exact aR|skip
   ·exact .cons rfl (.k2 (λi j hi _=>dn.cell_pu i j hi)) .nil
   ·simp
  ·obtain rfl:k=y:=by omega
   have hla:(dn.app (.pl x k .nil)).len=dn.len+1:=Fo.len_app _ _
   have hfin:o=(dn.app (.pl x k .nil)).app r:=by rw[ho,Fo.app_assoc];rfl
   cases r with
   |pl x2 y2 r2=>cases hpl
   |nil=>
    obtain rfl:k=b:=hr
    have k1:¬(k:Int)<k:=by omega
    repeat first|with_reducible refine ay ?_|simp only[k0,k1,hap,bp,decide_false,go_sem,simprocAttr]
    refine⟨_,_,_,?_,Wk.mk [2] [] ?_ ?_ ?_,dn.app (.pl x k .nil),.nil,k,rfl,hfin,rfl,rfl,rfl⟩
    ·simp[Fo.size]
    ·rw[hla]
     simp only[aK,aJ,go_sem,simprocAttr]
     repeat' refine af ?_ ?_
     all_goals first|exact aR|skip
    ·rw[hla]
     exact .cons rfl (.snoc (row:=dn.cell) (n:=dn.len) (l:=[.n .i64 (-1),.n .i64 x,.n .i64 (k:Nat),.sl0,.sl0]) (by simp only[go_sem,simprocAttr]) rfl rfl rfl (by decide) (by omega) (λi j hi _=>by rw[Fo.cell_app,if_pos hi]) (λj hj=>by rw[Fo.cell_app,if_neg (Nat.lt_irrefl _),Nat.sub_self];rcases(show j=0\/j=1\/j=2\/j=3\/j=4 by omega) with rfl|rfl|rfl|rfl|rfl<;>rfl) (λi j hi _=>Fo.cell_pu _ i j (hla ▸ hi))) .nil
    ·simp
   |br op2 x2 y2 u2 v2 r2=>
    obtain⟨hx2,hop2,hv2,hrest⟩:=hr
    have hr:a8 cs out (.br op2 x2 y2 u2 v2 r2) k b:=⟨hx2,hop2,hv2,hrest⟩
    obtain⟨⟨m2,_,hm2,hm3,_⟩,_⟩:=hrest
    have k1:(k:Int)<b:=by omega
    have k2:(k:Int)<cs.length:=by omega
    rcases hv2 with hv2|hv2
    all_goals
     have e':(cs.getD k (0,0)).1=_:=hop2.trans hv2
     repeat first|with_reducible refine ay ?_|simp only[k0,k1,k2,hap,bp,e',ne_eq,not_true_eq_false,not_false_eq_true,decide_false,decide_true,Bool.not_false,Bool.not_true,go_sem,simprocAttr]
     refine⟨_,_,_,?_,Wk.mk [2] [] ?_ ?_ ?_,dn.app (.pl x k .nil),.br op2 x2 y2 u2 v2 r2,k,rfl,hfin,hr,rfl,rfl⟩
     ·simp only[Fo.size];omega
     ·rw[hla]
      simp only[aK,aJ,go_sem,simprocAttr]
      repeat' refine af ?_ ?_
      all_goals first|exact aR|skip
     ·rw[hla]
      exact .cons rfl (.snoc (row:=dn.cell) (n:=dn.len) (l:=[.n .i64 (-1),.n .i64 x,.n .i64 (k:Nat),.sl0,.sl0]) (by simp only[go_sem,simprocAttr]) rfl rfl rfl (by decide) (by omega) (λi j hi _=>by rw[Fo.cell_app,if_pos hi]) (λj hj=>by rw[Fo.cell_app,if_neg (Nat.lt_irrefl _),Nat.sub_self];rcases(show j=0\/j=1\/j=2\/j=3\/j=4 by omega) with rfl|rfl|rfl|rfl|rfl<;>rfl) (λi j hi _=>Fo.cell_pu _ i j (hla ▸ hi))) .nil
     ·simp
 |br op x y u v r=>
  obtain⟨rfl,hop,hopv,⟨m,g1,g2,g3,g4,g5⟩,hr⟩:=hgr
  have hsu:u.size<o.size:=by rw[ho,Fo.size_app];simp only[Fo.size];omega
  have hsv:v.size<o.size:=by rw[ho,Fo.size_app];simp only[Fo.size];omega
  have h1:(x:Int)<b:=by omega
  have h2:(x:Int)<cs.length:=by omega
  have h3:(x:Int)<out.length:=by omega
  have m0:(0:Int)<=(m:Int):=by omega
  have m1:(m:Int)<cs.length:=by omega
  have m2:(m:Int)<out.length:=by omega
  have w0:IntKind.i64.wrap ((x:Int)+1)=((x+1:Nat):Int):=(ao (by omega)).trans (by omega)
  have wm:IntKind.i64.wrap ((m:Int)+1)=((m+1:Nat):Int):=(ao (by omega)).trans (by omega)
  rcases hopv with rfl|rfl
  ·have e':(cs.getD x (0,0)).1=27:=hop
   repeat first|with_reducible refine ay ?_|simp only[h0,h1,h2,h3,bp,qG,g1,e',w0,ne_eq,not_true_eq_false,not_false_eq_true,decide_false,decide_true,Bool.not_false,Bool.not_true,go_sem,simprocAttr]
   refine ae [] (fargs:=[.fs 2 cs.length (pI cs),.fs 1 out.length (iC out),.n .i64 ((x+1:Nat):Int),.n .i64 m]) (aV.same rfl) (ih u hsu (x+1) m g4 (by omega)) ?_ ?_
   ·simp only[go_sem,simprocAttr]
   rcases g5 with⟨q0,ee,q1,q2,q3,q4,rfl⟩|⟨q0,rfl,rfl⟩
   ·have m28:(cs.getD m (0,0)).1=28:=q0
    have we:IntKind.i64.wrap ((ee:Int)+1)=((ee+1:Nat):Int):=(ao (by omega)).trans (by omega)
    repeat first|with_reducible refine ay ?_|simp only[m0,m1,m2,bp,qG,q1,m28,wm,decide_true,go_sem,simprocAttr]
    refine ae [] (fargs:=[.fs 2 cs.length (pI cs),.fs 1 out.length (iC out),.n .i64 ((m+1:Nat):Int),.n .i64 ee]) (aV.same rfl) (ih v hsv (m+1) ee q4 (by omega)) ?_ ?_
    ·simp only[go_sem,simprocAttr]
    repeat first|with_reducible refine ay ?_|simp only[m0,m1,m2,bp,qG,q1,we,hap,go_sem,simprocAttr]
    have hla:(dn.app (.br 27 x (ee+1) u v .nil)).len=dn.len+1:=Fo.len_app _ _
    have hfin:o=(dn.app (.br 27 x (ee+1) u v .nil)).app r:=by rw[ho,Fo.app_assoc];rfl
    refine⟨_,_,_,?_,Wk.mk [5] [2,3] ?_ ?_ ?_,dn.app (.br 27 x (ee+1) u v .nil),r,(ee+1),rfl,hfin,hr,rfl,rfl⟩
    ·simp only[Fo.size];omega
    ·rw[hla]
     simp only[aK,aJ,go_sem,simprocAttr]
     repeat' refine af ?_ ?_
     all_goals first|exact aR|skip
    ·rw[hla]
     exact .cons rfl (.snocw (row:=dn.cell) (n:=dn.len) (l:=[.n .i64 27,.n .i64 x,.n .i64 (((ee+1):Nat):Int),.os 2 u.len,.os 3 v.len]) (by simp only[go_sem,simprocAttr]) rfl rfl rfl (by decide) (by omega) (λi j hi _=>by rw[Fo.cell_app,if_pos hi]) (λi j hi _=>dn.cell_pu i j hi) (λj hj=>by
      rw[Fo.cell_app,if_neg (Nat.lt_irrefl _),Nat.sub_self]
      rcases(show j=0\/j=1\/j=2\/j=3\/j=4 by omega) with rfl|rfl|rfl|rfl|rfl
      ·exact Wv.same rfl
      ·exact Wv.same rfl
      ·exact Wv.same rfl
      ·exact .cv (.ownb (ty:=106) (z:=0) (by simp only[go_sem,simprocAttr]) (λi j hi _=>u.cell_ok i j hi) (by simp))
      ·exact .cv (.ownb (ty:=106) (z:=0) (by simp only[go_sem,simprocAttr]) (λi j hi _=>v.cell_ok i j hi) (by simp)))) .nil
    ·simp
   ·have m28:¬(cs.getD m (0,0)).1=28:=q0
    repeat first|with_reducible refine ay ?_|simp only[m0,m1,m2,bp,qG,m28,wm,hap,decide_false,go_sem,simprocAttr]
    have hla:(dn.app (.br 27 x (m+1) u .nil .nil)).len=dn.len+1:=Fo.len_app _ _
    have hfin:o=(dn.app (.br 27 x (m+1) u .nil .nil)).app r:=by rw[ho,Fo.app_assoc];rfl
    refine⟨_,_,_,?_,Wk.mk [4] [2] ?_ ?_ ?_,dn.app (.br 27 x (m+1) u .nil .nil),r,(m+1),rfl,hfin,hr,rfl,rfl⟩
    ·simp only[Fo.size];omega
    ·rw[hla]
     simp only[aK,aJ,go_sem,simprocAttr]
     repeat' refine af ?_ ?_
     all_goals first|exact aR|skip
    ·rw[hla]
     exact .cons rfl (.snocw (row:=dn.cell) (n:=dn.len) (l:=[.n .i64 27,.n .i64 x,.n .i64 (((m+1):Nat):Int),.os 2 u.len,.sl0]) (by simp only[go_sem,simprocAttr]) rfl rfl rfl (by decide) (by omega) (λi j hi _=>by rw[Fo.cell_app,if_pos hi]) (λi j hi _=>dn.cell_pu i j hi) (λj hj=>by
      rw[Fo.cell_app,if_neg (Nat.lt_irrefl _),Nat.sub_self]
      rcases(show j=0\/j=1\/j=2\/j=3\/j=4 by omega) with rfl|rfl|rfl|rfl|rfl
      ·exact Wv.same rfl
      ·exact Wv.same rfl
      ·exact Wv.same rfl
      ·exact .cv (.ownb (ty:=106) (z:=0) (by simp only[go_sem,simprocAttr]) (λi j hi _=>u.cell_ok i j hi) (by simp))
      ·exact .cv (.sl0 _ _))) .nil
    ·simp
  ·have e':(cs.getD x (0,0)).1=29:=hop
   repeat first|with_reducible refine ay ?_|simp only[h0,h1,h2,h3,bp,qG,g1,e',w0,ne_eq,not_true_eq_false,not_false_eq_true,decide_false,decide_true,Bool.not_false,Bool.not_true,go_sem,simprocAttr]
   refine ae [] (fargs:=[.fs 2 cs.length (pI cs),.fs 1 out.length (iC out),.n .i64 ((x+1:Nat):Int),.n .i64 m]) (aV.same rfl) (ih u hsu (x+1) m g4 (by omega)) ?_ ?_
   ·simp only[go_sem,simprocAttr]
   rcases g5 with⟨q0,ee,q1,q2,q3,q4,rfl⟩|⟨q0,rfl,rfl⟩
   ·have m28:(cs.getD m (0,0)).1=28:=q0
    have we:IntKind.i64.wrap ((ee:Int)+1)=((ee+1:Nat):Int):=(ao (by omega)).trans (by omega)
    repeat first|with_reducible refine ay ?_|simp only[m0,m1,m2,bp,qG,q1,m28,wm,decide_true,go_sem,simprocAttr]
    refine ae [] (fargs:=[.fs 2 cs.length (pI cs),.fs 1 out.length (iC out),.n .i64 ((m+1:Nat):Int),.n .i64 ee]) (aV.same rfl) (ih v hsv (m+1) ee q4 (by omega)) ?_ ?_
    ·simp only[go_sem,simprocAttr]
    repeat first|with_reducible refine ay ?_|simp only[m0,m1,m2,bp,qG,q1,we,hap,go_sem,simprocAttr]
    have hla:(dn.app (.br 29 x (ee+1) u v .nil)).len=dn.len+1:=Fo.len_app _ _
    have hfin:o=(dn.app (.br 29 x (ee+1) u v .nil)).app r:=by rw[ho,Fo.app_assoc];rfl
    refine⟨_,_,_,?_,Wk.mk [5] [2,3] ?_ ?_ ?_,dn.app (.br 29 x (ee+1) u v .nil),r,(ee+1),rfl,hfin,hr,rfl,rfl⟩
    ·simp only[Fo.size];omega
    ·rw[hla]
     simp only[aK,aJ,go_sem,simprocAttr]
     repeat' refine af ?_ ?_
     all_goals first|exact aR|skip
    ·rw[hla]
     exact .cons rfl (.snocw (row:=dn.cell) (n:=dn.len) (l:=[.n .i64 29,.n .i64 x,.n .i64 (((ee+1):Nat):Int),.os 2 u.len,.os 3 v.len]) (by simp only[go_sem,simprocAttr]) rfl rfl rfl (by decide) (by omega) (λi j hi _=>by rw[Fo.cell_app,if_pos hi]) (λi j hi _=>dn.cell_pu i j hi) (λj hj=>by
      rw[Fo.cell_app,if_neg (Nat.lt_irrefl _),Nat.sub_self]
      rcases(show j=0\/j=1\/j=2\/j=3\/j=4 by omega) with rfl|rfl|rfl|rfl|rfl
      ·exact Wv.same rfl
      ·exact Wv.same rfl
      ·exact Wv.same rfl
      ·exact .cv (.ownb (ty:=106) (z:=0) (by simp only[go_sem,simprocAttr]) (λi j hi _=>u.cell_ok i j hi) (by simp))
      ·exact .cv (.ownb (ty:=106) (z:=0) (by simp only[go_sem,simprocAttr]) (λi j hi _=>v.cell_ok i j hi) (by simp)))) .nil
    ·simp
   ·have m28:¬(cs.getD m (0,0)).1=28:=q0
    repeat first|with_reducible refine ay ?_|simp only[m0,m1,m2,bp,qG,m28,wm,hap,decide_false,go_sem,simprocAttr]
    have hla:(dn.app (.br 29 x (m+1) u .nil .nil)).len=dn.len+1:=Fo.len_app _ _
    have hfin:o=(dn.app (.br 29 x (m+1) u .nil .nil)).app r:=by rw[ho,Fo.app_assoc];rfl
    refine⟨_,_,_,?_,Wk.mk [4] [2] ?_ ?_ ?_,dn.app (.br 29 x (m+1) u .nil .nil),r,(m+1),rfl,hfin,hr,rfl,rfl⟩
    ·simp only[Fo.size];omega
    ·rw[hla]
     simp only[aK,aJ,go_sem,simprocAttr]
     repeat' refine af ?_ ?_
     all_goals first|exact aR|skip
    ·rw[hla]
     exact .cons rfl (.snocw (row:=dn.cell) (n:=dn.len) (l:=[.n .i64 29,.n .i64 x,.n .i64 (((m+1):Nat):Int),.os 2 u.len,.sl0]) (by simp only[go_sem,simprocAttr]) rfl rfl rfl (by decide) (by omega) (λi j hi _=>by rw[Fo.cell_app,if_pos hi]) (λi j hi _=>dn.cell_pu i j hi) (λj hj=>by
      rw[Fo.cell_app,if_neg (Nat.lt_irrefl _),Nat.sub_self]
      rcases(show j=0\/j=1\/j=2\/j=3\/j=4 by omega) with rfl|rfl|rfl|rfl|rfl
      ·exact Wv.same rfl
      ·exact Wv.same rfl
      ·exact Wv.same rfl
      ·exact .cv (.ownb (ty:=106) (z:=0) (by simp only[go_sem,simprocAttr]) (λi j hi _=>u.cell_ok i j hi) (by simp))
      ·exact .cv (.sl0 _ _))) .nil
    ·simp
theorem a8.len{cs:List (Int×Int)}{out:List Int}:∀{o:Fo} {a b:Nat},a8 cs out o a b->a+o.len<=b
 |.nil,a,b,h=>by cases h;simp[Fo.len]
 |.pl x y r,a,b,h=>by
  obtain⟨_,h1,_,_,h2⟩:=h
  have:=h2.len
  simp only[Fo.len]
  omega
 |.br op x y u v r,a,b,h=>by
  obtain⟨_,_,_,⟨m,_,h1,_,_,h2⟩,h3⟩:=h
  have:=h3.len
  simp only[Fo.len]
  rcases h2 with⟨_,e,_,h4,_,_,h5⟩|⟨_,_,h5⟩<;>omega
theorem kU(cs:List (Int×Int))(hcs:cs.length<=1024)(out:List Int)(hol:out.length=cs.length):∀(n:Nat) (o:Fo),o.size<n->uh cs out o
 |0,o,h=>absurd h (Nat.not_lt_zero _)
 |n+1,o,h=>λa b hg hb=>oC cs hcs out hol o (λu hu=>kU cs hcs out hol n u (by omega)) (by have:=hg.len;omega) a b hg hb
theorem fY(cs:List (Int×Int)):(∃a e:Int,e≠0/\cz cs=([],a,e)/\au cs=(.nil,a,e))\/
  (∃out o,cz cs=(out,0,0)/\au cs=(o,0,0)/\cs.length<=1024/\out.length=cs.length/\a8 cs out o 0 cs.length):=by
 by_cases h:1024<cs.length
 ·exact .inl ⟨0,6,by decide,by rw[cz,if_pos h],by rw[au,if_pos h]⟩
 have k:=oP cs
 cases hr:fg cs with
 |error x=>
  rw[hr] at k
  exact .inl ⟨x,15,by decide,by rw[cz,if_neg h,show d9 cs= .error x from k],by rw[au,if_neg h,hr]⟩
 |ok q=>
  obtain⟨o,pt⟩:=q
  rw[hr] at k
  obtain⟨out,k1,k2,k3⟩:=k
  have k1':=k1
  rw[d9] at k1'
  cases hs:bm cs cs.length 0 (l9 cs) with
  |error x=>rw[hs] at k1';cases k1'
  |ok s=>
   rw[hs] at k1'
   dsimp only at k1'
   by_cases hop:s.op=[]
   ·rw[if_pos hop] at k1'
    have hout:s.out=out:=by injection k1'
    obtain⟨out',p1,p2,p3⟩:=je cs.length 0 (l9 cs) s out hs (by omega) (rE cs) (λ_ _ _=>by rw[hout]) k2
    have p1':nU cs cs.length 0 out []=some out':=p1
    exact .inr ⟨out',o,by rw[cz,if_neg h,k1];show((nU cs cs.length 0 out []).getD [],(0:Int),(0:Int))=_;rw[p1'];rfl,by rw[au,if_neg h,hr],by omega,p2,k3.congr30 p3⟩
   ·rw[if_neg hop] at k1'
    cases k1'
theorem i6(cs:List (Int×Int))(hcs:cs.length<=100000):cg Tryz.prog 57 [.fs 2 cs.length (pI cs)] [.o 106 5 (au cs).1.len 0 (au cs).1.cell,.v (.n .i64 (au cs).2.1),.v (.n .i64 (au cs).2.2)]:=by
 refine az am qW ⟨by simp,by decide⟩ ?_
 simp only[aQ]
 repeat first|with_reducible refine ay ?_|simp only[go_sem,simprocAttr]
 refine ae [] (fargs:=[.fs 2 cs.length (pI cs)]) (aV.same rfl) (gj cs hcs) ?_ ?_
 ·simp only[go_sem,simprocAttr]
 rcases fY cs with⟨a,e,he,h1,h2⟩|⟨out,o,h1,h2,h3,h4,h5⟩
 ·rw[h1,h2]
  repeat first|with_reducible refine ay ?_|simp only[he,ne_eq,not_false_eq_true,decide_true,decide_false,Bool.not_false,go_sem,simprocAttr]
  exact⟨[_,_,_],rfl,.inl ⟨rfl,rfl⟩,rfl,⟨rfl,rfl⟩,⟨rfl,rfl⟩,trivial⟩
 ·rw[h1,h2]
  repeat first|with_reducible refine ay ?_|simp only[ne_eq,not_true_eq_false,decide_true,decide_false,Bool.not_true,go_sem,simprocAttr]
  refine ae [0] (fargs:=[.fs 2 cs.length (pI cs),.fs 1 out.length (iC out),.n .i64 (0:Nat),.n .i64 cs.length]) ?_ (kU cs h3 out h4 (o.size+1) o (Nat.lt_succ_self _) 0 cs.length h5 (Nat.le_refl _)) ?_ ?_
  ·exact .cons (.rfl rfl) (.cons (.ownb (ty:=3) (z:=0) (by simp only[go_sem,simprocAttr]) (λ_ _ _ _=>rfl) (by simp)) (.cons (.rfl rfl) (.cons (.rfl rfl) .nil)))
  ·simp only[go_sem,simprocAttr]
  repeat first|with_reducible refine ay ?_|simp only[go_sem,simprocAttr]
  exact⟨[_,_,_],rfl,.inr ⟨1,rfl,by simp,_,by simp only[go_sem,simprocAttr]<;>rfl,rfl,rfl,by decide,rfl,Nat.le_refl _,Nat.le_refl _,λi j _ hj=>aE i j hj,λi j hi _=>o.cell_ok i j hi⟩,rfl,⟨rfl,rfl⟩,⟨rfl,rfl⟩,trivial⟩
theorem mA(cs:List (Int×Int))(hcs:cs.length<=100000):cg Tryz.prog 56 [.fs 2 cs.length (pI cs)] [.o 3 1 (bN cs).length 0 (iC (bN cs)),.v (.n .i64 (au cs).2.2)]:=by
 refine az am qX ⟨by simp,by decide⟩ ?_
 simp only[aQ]
 repeat first|with_reducible refine ay ?_|simp only[go_sem,simprocAttr]
 refine ae [] (fargs:=[.fs 2 cs.length (pI cs)]) (aV.same rfl) (gj cs hcs) ?_ ?_
 ·simp only[go_sem,simprocAttr]
 rcases fY cs with⟨a,e,he,h1,h2⟩|⟨out,o,h1,h2,h3,h4,h5⟩
 ·have hF:bN cs=[]:=by rw[bN,h2];exact if_neg he
  rw[h1,h2,hF]
  repeat first|with_reducible refine ay ?_|simp only[he,ne_eq,not_false_eq_true,decide_true,decide_false,Bool.not_false,go_sem,simprocAttr]
  exact⟨[_,_],rfl,.inl ⟨rfl,rfl⟩,rfl,⟨rfl,rfl⟩,trivial⟩
 ·have hF:bN cs=aU cs cs.length:=by rw[bN,h2];exact if_pos rfl
  rw[h1,h2,hF]
  repeat first|with_reducible refine ay ?_|simp only[ne_eq,not_true_eq_false,decide_true,decide_false,Bool.not_true,go_sem,simprocAttr]
  refine GA.wk (Wk.nil 7 1 3 (by simp only[go_sem,simprocAttr]) (by decide) (by simp only[go_sem,simprocAttr]<;>decide)) ?_
  simp only[da]
  refine GA.loop (I:=λm e H=>∃(k:Nat),m=cs.length-k/\k<=cs.length/\e=aC [(0,.fs 2 cs.length (pI cs)),(7,.os 0 (aU cs k).length),(8,.n .i64 k)]/\H=ag [ah 3 1 (aU cs k).length 0 (iC (aU cs k))]) (Wk.mk [1] [] ?_ ?_ ?_) ⟨0,rfl,by omega,rfl,rfl⟩ ?_
  ·simp only[aK,aJ,go_sem,simprocAttr]
   repeat' refine af ?_ ?_
   all_goals first|exact aR|skip
  ·exact .cons rfl (.rows (x:=_) (by simp only[go_sem,simprocAttr];rfl) (by rfl) (by rfl) (by rfl) (Nat.zero_le _) (by decide) (by decide) (λi j h=>absurd h (Nat.not_lt_zero _)) (λi j h=>absurd h (Nat.not_lt_zero _))) .nil
  ·simp
  rintro m e H ⟨k,rfl,hk,rfl,rfl⟩
  have h0:(0:Int)<=(k:Int):=by omega
  have hll:=dg cs k
  obtain⟨l,hl⟩:∃l,l=aU cs k:=⟨_,rfl⟩
  rw[<-hl] at hll ⊢
  by_cases h:(k:Int)<cs.length
  rotate_left
  ·repeat first|with_reducible refine ay ?_|simp only[h,decide_false,go_sem,simprocAttr]
   have:k=cs.length:=by omega
   subst this
   exact⟨[_,_],rfl,.inr ⟨0,by rw[hl],by simp,_,by simp only[go_sem,simprocAttr];rfl,rfl,rfl,by decide,rfl,by rw[hl];exact Nat.le_refl _,Nat.le_refl _,λi j _ hj=>by rw[hl];exact aE i j hj,λ_ _ _ _=>rfl⟩,rfl,⟨rfl,rfl⟩,trivial⟩
  have hk':k<cs.length:=by omega
  have wk:IntKind.i64.wrap ((k:Int)+1)=((k+1:Nat):Int):=(ao (by omega)).trans (by omega)
  have hlap:(l.length+1<1099511627776/\(l.length+1)*8<=140737488355328)/\l.length<=9223372036854775806:=⟨⟨by omega,by omega⟩,by omega⟩
  by_cases e1:(cs.getD k (0,0)).1=29
  ·have hs:aU cs (k+1)=l++[(k:Int)]:=by rw[aU,if_pos (show ax cs k=29 from e1),hl]
   repeat first|with_reducible refine ay ?_|simp only[h,h0,bp,e1,wk,hlap,decide_true,go_sem,simprocAttr]
   refine⟨_,_,_,?_,Wk.mk [2] [] ?_ ?_ ?_,k+1,rfl,by omega,rfl,rfl⟩
   ·omega
   ·rw[hs,List.length_append]
    simp only[aK,aJ,go_sem,simprocAttr]
    repeat' refine af ?_ ?_
    all_goals first|exact aR|skip
   ·rw[hs,List.length_append]
    exact .cons rfl (.snoc (row:=iC l) (n:=l.length) (o:=l.length) (l:=[.n .i64 (k:Int)]) (by simp only[go_sem,simprocAttr]) (by omega) rfl rfl (by decide) (by omega) (λi j hi _=>by simp only[iC];rw[bS hi]) (λj hj=>by cases Nat.lt_one_iff.1 hj;simp only[iC];rw[bT];rfl) (λ_ _ _ _=>rfl)) .nil
   ·simp
  ·have hs:aU cs (k+1)=l:=by rw[aU,if_neg (show ¬ax cs k=29 from e1),hl]
   repeat first|with_reducible refine ay ?_|simp only[h,h0,bp,e1,wk,decide_true,decide_false,go_sem,simprocAttr]
   refine⟨_,_,_,?_,Wk.mk [0] [] ?_ ?_ ?_,k+1,rfl,by omega,rfl,rfl⟩
   ·omega
   ·rw[hs]
    simp only[aK,aJ,go_sem,simprocAttr]
    repeat' refine af ?_ ?_
    all_goals first|exact aR|skip
   ·rw[hs]
    exact .cons rfl .k1 .nil
   ·simp
def jw(la:List (Bool×Int))(loc:Int)(x:Int×Int):Prop:=((x.1=1\/x.1=2)/\loc<=x.2)\/((x.1=3\/x.1=4)/\(la.length:Int)<=x.2)
instance (la:List (Bool×Int)) (loc:Int) (x:Int×Int):Decidable (jw la loc x):=by unfold jw;exact inferInstance
def eN(la:List (Bool×Int))(loc:Int):List (Int×Int)->Nat->Int×Int
 |[],_=>(0,0)
 |x::l,k=>if jw la loc x then((k:Int),2) else eN la loc l (k+1)
def dY(la:List (Bool×Int))(loc:Int)(cs:List (Int×Int)):Int×Int:=if a9 la loc cs=0 then(if(au cs).2.2=0 then eN la loc cs 0 else((au cs).2.1,(au cs).2.2)) else(0,a9 la loc cs)
theorem ml(la:List (Bool×Int))(loc:Int)(cs:List (Int×Int))(hl:la.length<=9223372036854775807)(hc:cs.length<=9223372036854775807)(ha:dU cs):cg Tryz.prog 40 [aL la loc cs] [.v (.n .i64 (dY la loc cs).1),.v (.n .i64 (dY la loc cs).2)]:=by
 refine az am R7 ⟨by simp,by decide⟩ ?_
 simp only[aQ,aL]
 repeat first|with_reducible refine ay ?_|simp only[go_sem,simprocAttr]
 by_cases hf:a9 la loc cs=0
 rotate_left
 ·have hF:dY la loc cs=(0,a9 la loc cs):=if_neg hf
  rw[hF]
  refine ae [] (fargs:=[aL la loc cs]) (aV.same rfl) (m8 la loc cs hl hc ha hf) ?_ ?_
  ·simp only[go_sem,simprocAttr]
  repeat first|with_reducible refine ay ?_|simp only[hf,ne_eq,not_false_eq_true,decide_true,decide_false,Bool.not_false,go_sem,simprocAttr]
  exact⟨[_,_],rfl,⟨rfl,rfl⟩,⟨rfl,rfl⟩,trivial⟩
 refine ae [] (fargs:=[aL la loc cs]) (aV.same rfl) (lO la loc cs ha hf) ?_ ?_
 ·simp only[go_sem,simprocAttr]
 repeat first|with_reducible refine ay ?_|simp only[ne_eq,not_true_eq_false,decide_true,decide_false,Bool.not_true,go_sem,simprocAttr]
 refine ae [] (fargs:=[.fs 2 cs.length (pI cs)]) (aV.same rfl) (gW cs) ?_ ?_
 ·simp only[go_sem,simprocAttr]
 by_cases hp:(au cs).2.2=0
 rotate_left
 ·have hF:dY la loc cs=((au cs).2.1,(au cs).2.2):=by rw[dY,if_pos hf,if_neg hp]
  rw[hF]
  repeat first|with_reducible refine ay ?_|simp only[hp,ne_eq,not_false_eq_true,decide_true,decide_false,Bool.not_false,go_sem,simprocAttr]
  exact⟨[_,_],rfl,⟨rfl,rfl⟩,⟨rfl,rfl⟩,trivial⟩
 have hF:dY la loc cs=eN la loc cs 0:=by rw[dY,if_pos hf,if_pos hp]
 rw[hF]
 repeat first|with_reducible refine ay ?_|simp only[hp,ne_eq,not_true_eq_false,decide_true,decide_false,Bool.not_true,go_sem,simprocAttr]
 refine GA.loop (I:=λm e H=>∃k:Nat,m=cs.length-k/\k<=cs.length/\eN la loc cs 0=eN la loc (cs.drop k) k/\e=aC [(1,.p 0 0),(31,.fs 2 cs.length (pI cs)),(32,.n .i64 cs.length),(33,.n .i64 k)]/\H=ag [aj 0 25 [.fs 2 la.length (pA la),.n .i64 loc,.fs 2 cs.length (pI cs)]]) (Wk.mk [0] [] ?_ ?_ ?_) ⟨0,rfl,Nat.zero_le _,rfl,rfl,rfl⟩ ?_
 ·simp only[aK,aJ,go_sem,simprocAttr]
  repeat' refine af ?_ ?_
  all_goals first|exact aR|skip
 ·exact .cons rfl (.lstj (x:=_) (by simp only[go_sem,simprocAttr]<;>rfl) (by rfl) (by rfl) (by rfl) (by rfl) (by rfl) (by rfl) (by simp) (λi hi=>by rcases bh hi with rfl|rfl|rfl<;>(simp only[go_sem,simprocAttr];exact Wv.same rfl))) .nil
 ·simp
 rintro m e H ⟨k,rfl,hk,hs,rfl,rfl⟩
 have h0:(0:Int)<=(k:Int):=by omega
 by_cases h:k<cs.length
 rotate_left
 ·have h':¬(k:Int)<cs.length:=by omega
  have:k=cs.length:=by omega
  subst this
  rw[List.drop_length,eN] at hs
  rw[hs]
  repeat first|with_reducible refine ay ?_|simp only[h',decide_false,go_sem,simprocAttr]
  exact⟨[_,_],rfl,⟨rfl,rfl⟩,⟨rfl,rfl⟩,trivial⟩
 have h':(k:Int)<cs.length:=by omega
 have wk:IntKind.i64.wrap ((k:Int)+1)=((k+1:Nat):Int):=(ao (by omega)).trans (by omega)
 have hx:=ha _ (ek (d:=(0,0)) h)
 have wx:IntKind.i64.wrap (cs.getD k (0,0)).2=(cs.getD k (0,0)).2:=ao (by omega)
 rw[bU (d:=(0,0)) h,eN] at hs
 have nx:∀(v:Int),(cs.getD k (0,0)).1=v->¬(v=1\/v=2)->¬(v=3\/v=4)->¬jw la loc (cs.getD k (0,0)):=λv e h1 h2 hb=>by
  subst e
  rcases hb with hb|hb
  ·exact h1 hb.1
  ·exact h2 hb.1
 by_cases hop:(cs.getD k (0,0)).1=1\/(cs.getD k (0,0)).1=2
 ·have h34:¬((cs.getD k (0,0)).1=3\/(cs.getD k (0,0)).1=4):=by omega
  by_cases hb:loc<=(cs.getD k (0,0)).2
  ·rw[if_pos (.inl ⟨hop,hb⟩)] at hs
   rw[hs]
   rcases hop with e|e
   all_goals
    repeat first|with_reducible refine ay ?_|simp only[h0,h',bp,ja,e,wx,hb,ge_iff_le,decide_true,decide_false,go_sem,simprocAttr]
    exact⟨[_,_],rfl,⟨rfl,rfl⟩,⟨rfl,rfl⟩,trivial⟩
  ·rw[if_neg (λh=>h.elim (λh=>hb h.2) (λh=>h34 h.1))] at hs
   rcases hop with e|e
   all_goals
    repeat first|with_reducible refine ay ?_|simp only[h0,h',bp,ja,e,wx,hb,wk,ge_iff_le,decide_true,decide_false,go_sem,simprocAttr]
    refine⟨_,_,_,?_,Wk.mk [0] [] ?_ ?_ ?_,k+1,rfl,by omega,hs,rfl,rfl⟩
    ·omega
    ·simp only[aK,aJ,go_sem,simprocAttr]
     repeat' refine af ?_ ?_
     all_goals first|exact aR|skip
    ·exact .cons rfl .ls .nil
    ·simp
 have n1:¬(cs.getD k (0,0)).1=1:=λh=>hop (.inl h)
 have n2:¬(cs.getD k (0,0)).1=2:=λh=>hop (.inr h)
 by_cases hop2:(cs.getD k (0,0)).1=3\/(cs.getD k (0,0)).1=4
 ·by_cases hb:(la.length:Int)<=(cs.getD k (0,0)).2
  ·rw[if_pos (.inr ⟨hop2,hb⟩)] at hs
   rw[hs]
   rcases hop2 with e|e
   all_goals
    repeat first|with_reducible refine ay ?_|simp only[h0,h',bp,ja,e,wx,hb,ge_iff_le,decide_true,decide_false,go_sem,simprocAttr]
    exact⟨[_,_],rfl,⟨rfl,rfl⟩,⟨rfl,rfl⟩,trivial⟩
  ·rw[if_neg (λh=>h.elim (λh=>hop h.1) (λh=>hb h.2))] at hs
   rcases hop2 with e|e
   all_goals
    repeat first|with_reducible refine ay ?_|simp only[h0,h',bp,ja,e,wx,hb,wk,ge_iff_le,decide_true,decide_false,go_sem,simprocAttr]
    refine⟨_,_,_,?_,Wk.mk [0] [] ?_ ?_ ?_,k+1,rfl,by omega,hs,rfl,rfl⟩
    ·omega
    ·simp only[aK,aJ,go_sem,simprocAttr]
     repeat' refine af ?_ ?_
     all_goals first|exact aR|skip
    ·exact .cons rfl .ls .nil
    ·simp
 have n3:¬(cs.getD k (0,0)).1=3:=λh=>hop2 (.inl h)
 have n4:¬(cs.getD k (0,0)).1=4:=λh=>hop2 (.inr h)
 rw[if_neg (λh=>h.elim (λh=>hop h.1) (λh=>hop2 h.1))] at hs
 repeat first|with_reducible refine ay ?_|simp only[h0,h',bp,ja,n1,n2,n3,n4,wk,decide_true,decide_false,go_sem,simprocAttr]
 refine⟨_,_,_,?_,Wk.mk [0] [] ?_ ?_ ?_,k+1,rfl,by omega,hs,rfl,rfl⟩
 ·omega
 ·simp only[aK,aJ,go_sem,simprocAttr]
  repeat' refine af ?_ ?_
  all_goals first|exact aR|skip
 ·exact .cons rfl .ls .nil
 ·simp
theorem kh(la:List (Bool×Int))(loc:Int)(cs:List (Int×Int))(hl:la.length<=9223372036854775807)(hc:cs.length<=9223372036854775807)(ha:dU cs):cg Tryz.prog 55 [aL la loc cs] [.v (.n .i64 (dY la loc cs).1),.v (.n .i64 (dY la loc cs).2)]:=by
 refine az am qY ⟨by simp,by decide⟩ ?_
 simp only[aQ,aL]
 repeat first|with_reducible refine ay ?_|simp only[go_sem,simprocAttr]
 refine ae [] (fargs:=[aL la loc cs]) (aV.same rfl) (oM la loc cs hl hc ha) ?_ ?_
 ·simp only[go_sem,simprocAttr]
 by_cases hf:a9 la loc cs=0
 rotate_left
 ·have hF:dY la loc cs=(0,a9 la loc cs):=if_neg hf
  rw[hF]
  repeat first|with_reducible refine ay ?_|simp only[hf,ne_eq,not_false_eq_true,decide_true,decide_false,Bool.not_false,go_sem,simprocAttr]
  exact⟨[_,_],rfl,⟨rfl,rfl⟩,⟨rfl,rfl⟩,trivial⟩
 repeat first|with_reducible refine ay ?_|simp only[hf,ne_eq,not_true_eq_false,decide_true,decide_false,Bool.not_true,go_sem,simprocAttr]
 obtain⟨f1,f2,f3,f4,f5,f6,f7⟩:=jX hf
 refine ae [] (fargs:=[.fs 2 cs.length (pI cs)]) (aV.same rfl) (i6 cs (by omega)) ?_ ?_
 ·simp only[go_sem,simprocAttr]
 by_cases hp:(au cs).2.2=0
 rotate_left
 ·have hF:dY la loc cs=((au cs).2.1,(au cs).2.2):=by rw[dY,if_pos hf,if_neg hp]
  rw[hF]
  repeat first|with_reducible refine ay ?_|simp only[hp,ne_eq,not_false_eq_true,decide_true,decide_false,Bool.not_false,go_sem,simprocAttr]
  exact⟨[_,_],rfl,⟨rfl,rfl⟩,⟨rfl,rfl⟩,trivial⟩
 have hF:dY la loc cs=eN la loc cs 0:=by rw[dY,if_pos hf,if_pos hp]
 rw[hF]
 repeat first|with_reducible refine ay ?_|simp only[hp,ne_eq,not_true_eq_false,decide_true,decide_false,Bool.not_true,go_sem,simprocAttr]
 refine GA.loop (I:=λm e H=>∃k:Nat,m=cs.length-k/\k<=cs.length/\eN la loc cs 0=eN la loc (cs.drop k) k/\e=aC [(1,.p 0 0),(8,.n .i64 k)]/\H=ag [aj 0 25 [.fs 2 la.length (pA la),.n .i64 loc,.fs 2 cs.length (pI cs)]]) (Wk.mk [0] [] ?_ ?_ ?_) ⟨0,rfl,Nat.zero_le _,rfl,rfl,rfl⟩ ?_
 ·simp only[aK,aJ,go_sem,simprocAttr]
  repeat' refine af ?_ ?_
  all_goals first|exact aR|skip
 ·exact .cons rfl (.lstj (x:=_) (by simp only[go_sem,simprocAttr]<;>rfl) (by rfl) (by rfl) (by rfl) (by rfl) (by rfl) (by rfl) (by simp) (λi hi=>by rcases bh hi with rfl|rfl|rfl<;>(simp only[go_sem,simprocAttr];exact Wv.same rfl))) .nil
 ·simp
 rintro m e H ⟨k,rfl,hk,hs,rfl,rfl⟩
 have h0:(0:Int)<=(k:Int):=by omega
 by_cases h:k<cs.length
 rotate_left
 ·have h':¬(k:Int)<cs.length:=by omega
  have:k=cs.length:=by omega
  subst this
  rw[List.drop_length,eN] at hs
  rw[hs]
  repeat first|with_reducible refine ay ?_|simp only[h',decide_false,go_sem,simprocAttr]
  exact⟨[_,_],rfl,⟨rfl,rfl⟩,⟨rfl,rfl⟩,trivial⟩
 have h':(k:Int)<cs.length:=by omega
 have wk:IntKind.i64.wrap ((k:Int)+1)=((k+1:Nat):Int):=(ao (by omega)).trans (by omega)
 have hx:=ha _ (ek (d:=(0,0)) h)
 have wx:IntKind.i64.wrap (cs.getD k (0,0)).2=(cs.getD k (0,0)).2:=ao (by omega)
 rw[bU (d:=(0,0)) h,eN] at hs
 have nx:∀(v:Int),(cs.getD k (0,0)).1=v->¬(v=1\/v=2)->¬(v=3\/v=4)->¬jw la loc (cs.getD k (0,0)):=λv e h1 h2 hb=>by
  subst e
  rcases hb with hb|hb
  ·exact h1 hb.1
  ·exact h2 hb.1
 by_cases hop:(cs.getD k (0,0)).1=1\/(cs.getD k (0,0)).1=2
 ·have h34:¬((cs.getD k (0,0)).1=3\/(cs.getD k (0,0)).1=4):=by omega
  by_cases hb:loc<=(cs.getD k (0,0)).2
  ·rw[if_pos (.inl ⟨hop,hb⟩)] at hs
   rw[hs]
   rcases hop with e|e
   all_goals
    repeat first|with_reducible refine ay ?_|simp only[h0,h',bp,ja,e,wx,hb,ge_iff_le,decide_true,decide_false,go_sem,simprocAttr]
    exact⟨[_,_],rfl,⟨rfl,rfl⟩,⟨rfl,rfl⟩,trivial⟩
  ·rw[if_neg (λh=>h.elim (λh=>hb h.2) (λh=>h34 h.1))] at hs
   rcases hop with e|e
   all_goals
    repeat first|with_reducible refine ay ?_|simp only[h0,h',bp,ja,e,wx,hb,wk,ge_iff_le,decide_true,decide_false,go_sem,simprocAttr]
    refine⟨_,_,_,?_,Wk.mk [0] [] ?_ ?_ ?_,k+1,rfl,by omega,hs,rfl,rfl⟩
    ·omega
    ·simp only[aK,aJ,go_sem,simprocAttr]
     repeat' refine af ?_ ?_
     all_goals first|exact aR|skip
    ·exact .cons rfl .ls .nil
    ·simp
 have n1:¬(cs.getD k (0,0)).1=1:=λh=>hop (.inl h)
 have n2:¬(cs.getD k (0,0)).1=2:=λh=>hop (.inr h)
 by_cases hop2:(cs.getD k (0,0)).1=3\/(cs.getD k (0,0)).1=4
 ·by_cases hb:(la.length:Int)<=(cs.getD k (0,0)).2
  ·rw[if_pos (.inr ⟨hop2,hb⟩)] at hs
   rw[hs]
   rcases hop2 with e|e
   all_goals
    repeat first|with_reducible refine ay ?_|simp only[h0,h',bp,ja,e,wx,hb,ge_iff_le,decide_true,decide_false,go_sem,simprocAttr]
    exact⟨[_,_],rfl,⟨rfl,rfl⟩,⟨rfl,rfl⟩,trivial⟩
  ·rw[if_neg (λh=>h.elim (λh=>hop h.1) (λh=>hb h.2))] at hs
   rcases hop2 with e|e
   all_goals
    repeat first|with_reducible refine ay ?_|simp only[h0,h',bp,ja,e,wx,hb,wk,ge_iff_le,decide_true,decide_false,go_sem,simprocAttr]
    refine⟨_,_,_,?_,Wk.mk [0] [] ?_ ?_ ?_,k+1,rfl,by omega,hs,rfl,rfl⟩
    ·omega
    ·simp only[aK,aJ,go_sem,simprocAttr]
     repeat' refine af ?_ ?_
     all_goals first|exact aR|skip
    ·exact .cons rfl .ls .nil
    ·simp
 have n3:¬(cs.getD k (0,0)).1=3:=λh=>hop2 (.inl h)
 have n4:¬(cs.getD k (0,0)).1=4:=λh=>hop2 (.inr h)
 rw[if_neg (λh=>h.elim (λh=>hop h.1) (λh=>hop2 h.1))] at hs
 repeat first|with_reducible refine ay ?_|simp only[h0,h',bp,ja,n1,n2,n3,n4,wk,decide_true,decide_false,go_sem,simprocAttr]
 refine⟨_,_,_,?_,Wk.mk [0] [] ?_ ?_ ?_,k+1,rfl,by omega,hs,rfl,rfl⟩
 ·omega
 ·simp only[aK,aJ,go_sem,simprocAttr]
  repeat' refine af ?_ ?_
  all_goals first|exact aR|skip
 ·exact .cons rfl .ls .nil
 ·simp
theorem fC(k:IntKind)(x:Int):dt (pure (Value.int k x))=some (.n k x):=rfl
def bA(n:Int):Int:=if 281474976710657<n then 281474976710657 else n
def bX(a n:Int):Int:=if 0<n/\281474976710657 / n<a then 281474976710657 else bA (a*n)
def gM(n:Int):Int×Int:=if 281474976710657<=n then(0,18) else(n,0)
theorem ea(a b:Int)(ha:0<=a/\a<=1125899906842624)(hb:0<=b/\b<=1125899906842624):cg Tryz.prog 54 [.n .i64 a,.n .i64 b] [.v (.n .i64 (bA (a+b)))]:=by
 refine az am yh ⟨by simp,by decide⟩ ?_
 simp only[aQ]
 have w:IntKind.i64.wrap (a+b)=a+b:=ao (by omega)
 repeat first|with_reducible refine ay ?_|simp only[w,fR,eE,zR,go_sem,simprocAttr]
 exact ai rfl rfl
theorem cF(n:Int):cg Tryz.prog 58 [.n .i64 n] [.v (.n .i64 (bA n))]:=by
 refine az am qV ⟨by simp,by decide⟩ ?_
 simp only[aQ]
 repeat first|with_reducible refine ay ?_|simp only[fR,eE,zR,go_sem,simprocAttr]
 exact ai rfl rfl
theorem ik(n:Int):cg Tryz.prog 32 [.n .i64 n] [.v (.n .i64 (gM n).1),.v (.n .i64 (gM n).2)]:=by
 refine az am yf ⟨by simp,by decide⟩ ?_
 simp only[aQ]
 by_cases h:281474976710657<=n
 ·rw[show gM n=(0,18) from if_pos h]
  repeat first|with_reducible refine ay ?_|simp only[h,ge_iff_le,decide_true,go_sem,simprocAttr]
  exact⟨[_,_],rfl,⟨rfl,rfl⟩,⟨rfl,rfl⟩,trivial⟩
 ·rw[show gM n=(n,0) from if_neg h]
  repeat first|with_reducible refine ay ?_|simp only[h,ge_iff_le,decide_false,go_sem,simprocAttr]
  exact⟨[_,_],rfl,⟨rfl,rfl⟩,⟨rfl,rfl⟩,trivial⟩
theorem gh(n:Int):cg Tryz.prog 36 [.n .i64 n] [.v (.n .i64 (gM n).1),.v (.n .i64 (gM n).2)]:=by
 refine az am rh ⟨by simp,by decide⟩ ?_
 simp only[aQ]
 by_cases h:281474976710656<n
 ·rw[show gM n=(0,18) from if_pos (by omega)]
  repeat first|with_reducible refine ay ?_|simp only[h,gt_iff_lt,decide_true,go_sem,simprocAttr]
  exact⟨[_,_],rfl,⟨rfl,rfl⟩,⟨rfl,rfl⟩,trivial⟩
 ·rw[show gM n=(n,0) from if_neg (by omega)]
  repeat first|with_reducible refine ay ?_|simp only[h,gt_iff_lt,decide_false,go_sem,simprocAttr]
  exact⟨[_,_],rfl,⟨rfl,rfl⟩,⟨rfl,rfl⟩,trivial⟩
theorem oD(a n:Int)(ha:0<=a/\a<=281474976710657)(hn:0<=n/\n<=65536):cg Tryz.prog 46 [.n .i64 a,.n .i64 n] [.v (.n .i64 (bX a n))]:=by
 refine az am yg ⟨by simp,by decide⟩ ?_
 simp only[aQ]
 by_cases h:0<n
 ·have hq:¬n=0:=by omega
  have wq:IntKind.i64.wrap (Int.tdiv 281474976710657 n)=281474976710657 / n:=by
   rw[Int.tdiv_eq_ediv_of_nonneg (by decide)]
   have h1:281474976710657 / n<=281474976710657:=Int.ediv_le_self _ (by decide)
   have h2:0<=281474976710657 / n:=Int.ediv_nonneg (by decide) (by omega)
   exact ao (by omega)
  by_cases hc:281474976710657 / n<a
  ·rw[show bX a n=281474976710657 from if_pos ⟨h,hc⟩]
   repeat first|with_reducible refine ay ?_|simp only[h,iX hq,hq,if_false,fC,wq,hc,gt_iff_lt,decide_true,go_sem,simprocAttr]
   exact ai rfl rfl
  ·rw[show bX a n=bA (a*n) from if_neg (λk=>hc k.2)]
   have hp:a*n<=281474976710657:=by
    have:=Int.mul_le_of_le_ediv h (Int.not_lt.1 hc)
    exact this
   have hp0:0<=a*n:=Int.mul_nonneg ha.1 hn.1
   have w:IntKind.i64.wrap (a*n)=a*n:=ao (by omega)
   repeat first|with_reducible refine ay ?_|simp only[h,iX hq,hq,if_false,fC,wq,hc,w,gt_iff_lt,fR,eE,zR,decide_true,decide_false,go_sem,simprocAttr]
   exact ai rfl rfl
 ·obtain rfl:n=0:=by omega
  rw[show bX a 0=bA (a*0) from if_neg (λk=>h k.1)]
  have w:IntKind.i64.wrap (a*0)=a*0:=ao (by omega)
  repeat first|with_reducible refine ay ?_|simp only[h,w,gt_iff_lt,fR,eE,zR,decide_false,go_sem,simprocAttr]
  exact ai rfl rfl
theorem i4(a n:Int)(ha:0<=a/\a<=281474976710657)(hn:0<=n/\n<=65536):cg Tryz.prog 59 [.n .i64 a,.n .i64 n] [.v (.n .i64 (bX a n))]:=by
 refine az am qU ⟨by simp,by decide⟩ ?_
 simp only[aQ]
 by_cases h:0<n
 ·have hq:¬n=0:=by omega
  have wq:IntKind.i64.wrap (Int.tdiv 281474976710657 n)=281474976710657 / n:=by
   rw[Int.tdiv_eq_ediv_of_nonneg (by decide)]
   have h1:281474976710657 / n<=281474976710657:=Int.ediv_le_self _ (by decide)
   have h2:0<=281474976710657 / n:=Int.ediv_nonneg (by decide) (by omega)
   exact ao (by omega)
  by_cases hc:281474976710657 / n<a
  ·rw[show bX a n=281474976710657 from if_pos ⟨h,hc⟩]
   repeat first|with_reducible refine ay ?_|simp only[h,iX hq,hq,if_false,fC,wq,hc,gt_iff_lt,decide_true,go_sem,simprocAttr]
   exact ai rfl rfl
  ·rw[show bX a n=bA (a*n) from if_neg (λk=>hc k.2)]
   have hp:a*n<=281474976710657:=by
    have:=Int.mul_le_of_le_ediv h (Int.not_lt.1 hc)
    exact this
   have hp0:0<=a*n:=Int.mul_nonneg ha.1 hn.1
   have w:IntKind.i64.wrap (a*n)=a*n:=ao (by omega)
   repeat first|with_reducible refine ay ?_|simp only[h,iX hq,hq,if_false,fC,wq,hc,w,gt_iff_lt,fR,eE,zR,decide_true,decide_false,go_sem,simprocAttr]
   refine ae [] (fargs:=[.n .i64 (a*n)]) (aV.same rfl) (cF (a*n)) ?_ ?_
   ·simp only[go_sem,simprocAttr]
   repeat first|with_reducible refine ay ?_|simp only[go_sem,simprocAttr]
   exact ai rfl rfl
 ·obtain rfl:n=0:=by omega
  rw[show bX a 0=bA (a*0) from if_neg (λk=>h k.1)]
  have w:IntKind.i64.wrap (a*0)=a*0:=ao (by omega)
  repeat first|with_reducible refine ay ?_|simp only[h,w,gt_iff_lt,fR,eE,zR,decide_false,go_sem,simprocAttr]
  refine ae [] (fargs:=[.n .i64 (a*0)]) (aV.same rfl) (cF (a*0)) ?_ ?_
  ·simp only[go_sem,simprocAttr]
  repeat first|with_reducible refine ay ?_|simp only[go_sem,simprocAttr]
  exact ai rfl rfl
abbrev cE:=Int×Int×Nat×(Nat->Nat->AV)
def cn:cE:=(0,0,0,λ_ _=> .u)
def vI(l:List cE)(i j:Nat):AV:=if j=0 then .n .i64 (l.getD i cn).1 else if j=1 then .n .i64 (l.getD i cn).2.1 else .fs 2 (l.getD i cn).2.2.1 (l.getD i cn).2.2.2
theorem Jw(l:List cE)(i:Nat):vI l i 0= .n .i64 (l.getD i cn).1:=rfl
theorem zN(l:List cE)(i:Nat):vI l i 1= .n .i64 (l.getD i cn).2.1:=rfl
theorem WX(l:List cE)(i:Nat):vI l i 2= .fs 2 (l.getD i cn).2.2.1 (l.getD i cn).2.2.2:=rfl
def bL(s e h:Int)(l:List cE):AV:= .agg [.n .i64 s,.n .i64 e,.n .i64 h,.fs 3 l.length (vI l)]
def aN:List cE->Int->Int
 |[],_=>0
 |x::l,a=>if x.1=a then x.2.1 else aN l a
theorem lu(s e h:Int)(l:List cE)(hl:l.length<=9223372036854775806)(a:Int):cg Tryz.prog 60 [bL s e h l,.n .i64 a] [.v (.n .i64 (aN l a))]:=by
 refine az am qT ⟨by simp,by decide⟩ ?_
 simp only[aQ,bL]
 repeat first|with_reducible refine ay ?_|simp only[go_sem,simprocAttr]
 refine GA.loop (I:=λm ev H=>∃k:Nat,m=l.length-k/\k<=l.length/\aN l a=aN (l.drop k) a/\ev=aC [(1,.n .i64 a),(2,.p 0 0),(5,.n .i64 k)]/\H=ag [aj 0 44 [.n .i64 s,.n .i64 e,.n .i64 h,.fs 3 l.length (vI l)]]) (Wk.mk [0] [] ?_ ?_ ?_) ⟨0,rfl,Nat.zero_le _,rfl,rfl,rfl⟩ ?_
 ·simp only[aK,aJ,go_sem,simprocAttr]
  repeat' refine af ?_ ?_
  all_goals first|exact aR|skip
 ·exact .cons rfl (.lstj (x:=_) (by simp only[go_sem,simprocAttr]<;>rfl) (by rfl) (by rfl) (by rfl) (by rfl) (by rfl) (by rfl) (by simp) (λi hi=>by rcases pj hi with rfl|rfl|rfl|rfl<;>(simp only[go_sem,simprocAttr];exact Wv.same rfl))) .nil
 ·simp
 rintro m ev H ⟨k,rfl,hk,hs,rfl,rfl⟩
 have h0:(0:Int)<=(k:Int):=by omega
 by_cases hkl:k<l.length
 rotate_left
 ·have h':¬(k:Int)<l.length:=by omega
  have:k=l.length:=by omega
  subst this
  rw[List.drop_length] at hs
  repeat first|with_reducible refine ay ?_|simp only[h',decide_false,go_sem,simprocAttr]
  exact ai (by rw[hs];rfl) rfl
 have h':(k:Int)<l.length:=by omega
 have wk:IntKind.i64.wrap ((k:Int)+1)=((k+1:Nat):Int):=(ao (by omega)).trans (by omega)
 rw[bU (d:=cn) hkl,aN] at hs
 by_cases he:(l.getD k cn).1=a
 ·rw[if_pos he] at hs
  rw[hs]
  repeat first|with_reducible refine ay ?_|simp only[h0,h',Jw,zN,he,decide_true,go_sem,simprocAttr]
  exact ai rfl rfl
 ·rw[if_neg he] at hs
  repeat first|with_reducible refine ay ?_|simp only[h0,h',Jw,zN,he,wk,decide_true,decide_false,go_sem,simprocAttr]
  refine⟨_,_,_,?_,Wk.mk [0] [] ?_ ?_ ?_,k+1,rfl,by omega,hs,rfl,rfl⟩
  ·omega
  ·simp only[aK,aJ,go_sem,simprocAttr]
   repeat' refine af ?_ ?_
   all_goals first|exact aR|skip
  ·exact .cons rfl .ls .nil
  ·simp
def mZ:List cE->Nat->Bool
 |[],_=>true
 |x::l,k=>if 60<=k then true else if 40<x.2.2.1 then false else mZ l (k+1)
theorem oO(s e h:Int)(l:List cE)(hl:l.length<=9223372036854775807):cg Tryz.prog 30 [bL s e h l] [.v (.b (mZ l 0&&decide (l.length<=60)))]:=by
 refine az am rj ⟨by simp,by decide⟩ ?_
 simp only[aQ,bL]
 repeat first|with_reducible refine ay ?_|simp only[go_sem,simprocAttr]
 refine GA.loop (I:=λm ev H=>∃k:Nat,m=l.length-k/\k<=l.length/\k<=60/\mZ l 0=mZ (l.drop k) k/\ev=aC [(1,.p 0 0),(3,.n .i64 k)]/\H=ag [aj 0 44 [.n .i64 s,.n .i64 e,.n .i64 h,.fs 3 l.length (vI l)]]) (Wk.mk [0] [] ?_ ?_ ?_) ⟨0,rfl,Nat.zero_le _,Nat.zero_le _,rfl,rfl,rfl⟩ ?_
 ·simp only[aK,aJ,go_sem,simprocAttr]
  repeat' refine af ?_ ?_
  all_goals first|exact aR|skip
 ·exact .cons rfl (.lstj (x:=_) (by simp only[go_sem,simprocAttr]<;>rfl) (by rfl) (by rfl) (by rfl) (by rfl) (by rfl) (by rfl) (by simp) (λi hi=>by rcases pj hi with rfl|rfl|rfl|rfl<;>(simp only[go_sem,simprocAttr];exact Wv.same rfl))) .nil
 ·simp
 rintro m ev H ⟨k,rfl,hk,hk60,hs,rfl,rfl⟩
 have h0:(0:Int)<=(k:Int):=by omega
 have hle:decide ((l.length:Int)<=60)=decide (l.length<=60):=by by_cases hh:l.length<=60<;>simp[hh]<;>omega
 by_cases hkl:k<l.length
 rotate_left
 ·have h':¬(k:Int)<l.length:=by omega
  have:k=l.length:=by omega
  subst this
  rw[List.drop_length] at hs
  repeat first|with_reducible refine ay ?_|simp only[h',hle,decide_false,go_sem,simprocAttr]
  exact ai (by rw[hs];rfl) rfl
 have h':(k:Int)<l.length:=by omega
 have wk:IntKind.i64.wrap ((k:Int)+1)=((k+1:Nat):Int):=(ao (by omega)).trans (by omega)
 rw[bU (d:=cn) hkl,mZ] at hs
 by_cases h60:60<=k
 ·have h60':¬(k:Int)<60:=by omega
  rw[if_pos h60] at hs
  repeat first|with_reducible refine ay ?_|simp only[h',h60',hle,decide_true,decide_false,go_sem,simprocAttr]
  exact ai (by rw[hs];rfl) rfl
 have h60':(k:Int)<60:=by omega
 rw[if_neg h60] at hs
 by_cases hb:40<(l.getD k cn).2.2.1
 ·have hb':(40:Int)<((l.getD k cn).2.2.1:Int):=by omega
  rw[if_pos hb] at hs
  rw[hs]
  repeat first|with_reducible refine ay ?_|simp only[h0,h',h60',WX,hb',gt_iff_lt,decide_true,go_sem,simprocAttr]
  exact ai rfl rfl
 ·have hb':¬(40:Int)<((l.getD k cn).2.2.1:Int):=by omega
  rw[if_neg hb] at hs
  repeat first|with_reducible refine ay ?_|simp only[h0,h',h60',WX,hb',wk,gt_iff_lt,decide_true,decide_false,go_sem,simprocAttr]
  refine⟨_,_,_,?_,Wk.mk [0] [] ?_ ?_ ?_,k+1,rfl,by omega,by omega,hs,rfl,rfl⟩
  ·omega
  ·simp only[aK,aJ,go_sem,simprocAttr]
   repeat' refine af ?_ ?_
   all_goals first|exact aR|skip
  ·exact .cons rfl .ls .nil
  ·simp
end Go.Proofs.YthehakngpbjgjaaGreat