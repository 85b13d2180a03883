/- A part of the proof of CostGrows: FlG FlH FlI FlT FlU FlV FlW FlX FlY FlZ CbA VfA VfB VfC CbB CbC CbD CbE CbF VfM VfT. No condition. -/
import Derived.ChangeAlike
import Derived.Defers
import Derived.Recover
import Derived.RegionTactic
import Derived.Test.YtdpkgnmmikebdaaGreatGf25
import Derived.Test.YtdpkgnmmikebdaaGreatGf22
import Derived.Test.YtdpkgnmmikebdaaGreatGf16
set_option linter.unusedSimpArgs false
set_option linter.unusedVariables false
set_option linter.constructorNameAsVariable false
set_option maxRecDepth 100000
set_option maxHeartbeats 4000000
namespace Go.Proofs.YtdpkgnmmikebdaaGreat
open Go.RowKit
theorem rE(w:World):(binOp .eql 20 .nilIface .nilIface).run Tryz.prog w= .ok (.bool true) w:=by kernel_rfl
theorem pS(a n:Int)(w:World):(binOp .eql 20 (.iface 211 (.agg #[.int .i64 a,.int .i64 n])) .nilIface).run Tryz.prog w= .ok (.bool false) w:=by kernel_rfl
theorem rO(a n:Int)(w:World):(Instr.typeAssert (.iface 211 (.agg #[.int .i64 a,.int .i64 n])) 20 211 true).run Tryz.prog w= .ok (.tuple #[.agg #[.int .i64 a,.int .i64 n],.bool true]) w:=by kernel_rfl
theorem kZ(p q x:Value): #[p,q]++((Array.replicate 24 undef).setIfInBounds 5 x).setIfInBounds 2 x=
  #[p,q,undef,undef,x,undef,undef,x,undef,undef,undef,undef,undef,undef,undef,undef,undef,undef,undef,undef,undef,undef,undef,undef,undef,undef]:=by kernel_rfl
theorem lc(ab eb:Nat)(w:World):
  CallsD Tryz.prog 82 #[.pointer (some ⟨ab,0,none⟩),.pointer (some ⟨eb,0,none⟩)] .returning w λe u' w'=>e= .returned (.tuple #[])/\u'= .returning/\w'=w:=by
 refine callsD_of_wpS Tryz.func82 rfl λc₀ cs hu=>?_
 apply wpS_seq
 apply wpS_region
 simp[wpOpsS,go_sem,recoverD,hu,Tryz.ntmps82,Exit.thenS]
 refine wpS_of_wp ?_
 rw[kZ]
 have hq:=rE
 go_wp2
 cases c₀
 simp_all [bodyPostS,results,Tryz.results82]
theorem fK(ab eb:Nat)(x y a n:Int)(older:List PanicEntry)(w:World)(ha:w.heap[ab]? =some (.cells #[.int .i64 x] 3 (0,0)))(he:w.heap[eb]? =some (.cells #[.int .i64 y] 30 (0,0)))(hne:¬ab=eb)(hne2:¬eb=ab):
  CallsD Tryz.prog 82 #[.pointer (some ⟨ab,0,none⟩),.pointer (some ⟨eb,0,none⟩)] (.panicking ({v:= .iface 211 (.agg #[.int .i64 a,.int .i64 n]),recovered:=false}::older)) w λe u' w'=>
   e= .returned (.tuple #[])/\u'= .panicking ({v:= .iface 211 (.agg #[.int .i64 a,.int .i64 n]),recovered:=true}::older)/\w'.heap[ab]? =some (.cells #[.int .i64 a] 3 (0,0))/\w'.heap[eb]? =some (.cells #[.int .i64 n] 30 (0,0))/\(∀k,k<w.heap.size->k≠ab->k≠eb->w'.heap[k]? =w.heap[k]?)/\w'.os=w.os/\w'.tape=w.tape/\w'.output=w.output/\w.heap.size<=w'.heap.size:=by
 have hq:=pS a n
 have hta:=rO a n
 refine callsD_of_wpS Tryz.func82 rfl λc₀ cs hu=>?_
 apply wpS_seq
 apply wpS_region
 simp[wpOpsS,go_sem,recoverD,hu,Tryz.ntmps82,Exit.thenS]
 refine wpS_of_wp ?_
 rw[kZ]
 go_wp2
 have hal:ab<w.heap.size:=(Array.getElem?_eq_some_iff.1 ha).1
 have hel:eb<w.heap.size:=(Array.getElem?_eq_some_iff.1 he).1
 have z0:w.cell? ⟨ab,0,none⟩=some (.int .i64 x):=by simp[World.cell?,ha]
 have z1:w.cell? ⟨eb,0,none⟩=some (.int .i64 y):=by simp[World.cell?,he]
 have f0:w.frozen? ⟨ab,0,none⟩=false:=by simp[World.frozen?,ha]
 have f1:w.frozen? ⟨eb,0,none⟩=false:=by simp[World.frozen?,he]
 have y0:∀v,(w.setCell ⟨eb,0,none⟩ v).cell? ⟨ab,0,none⟩=some (.int .i64 x):=λv=>by rw[World.cell?_of_block (Below.heap_setCell _ _ _ _ hne)];exact z0
 have y1:∀v,(w.setCell ⟨ab,0,none⟩ v).cell? ⟨eb,0,none⟩=some (.int .i64 y):=λv=>by rw[World.cell?_of_block (Below.heap_setCell _ _ _ _ hne2)];exact z1
 have g0:∀v,(w.setCell ⟨eb,0,none⟩ v).frozen? ⟨ab,0,none⟩=false:=λv=>by simp only[World.frozen?];rw[Below.heap_setCell _ _ _ _ (show ab≠(⟨eb,0,none⟩:Addr).block from hne),ha];rfl
 have g1:∀v,(w.setCell ⟨ab,0,none⟩ v).frozen? ⟨eb,0,none⟩=false:=λv=>by simp only[World.frozen?];rw[Below.heap_setCell _ _ _ _ (show eb≠(⟨ab,0,none⟩:Addr).block from hne2),he];rfl
 go_region
 go_wp2
 cases c₀
 simp only at hu
 subst hu
 simp only[bodyPostS]
 refine⟨trivial,_,rfl,?_⟩
 refine⟨_,results_none rfl _ _ _,?_⟩
 refine⟨rfl,rfl,?_⟩
 have hs:((w.setCell ⟨ab,0,none⟩ (.int .i64 a)).setCell ⟨eb,0,none⟩ (.int .i64 n)).heap.size=w.heap.size:=by simp[World.setCell]
 have hd:∀k,k<w.heap.size->((((w.setCell ⟨ab,0,none⟩ (.int .i64 a)).setCell ⟨eb,0,none⟩ (.int .i64 n)).alloc (Obj.cells #[.int .i64 a,.int .i64 n] 211)).drew).heap[k]? =((w.setCell ⟨ab,0,none⟩ (.int .i64 a)).setCell ⟨eb,0,none⟩ (.int .i64 n)).heap[k]? :=λk hk=>Below.heap_alloc _ _ _ (by rw[hs];exact hk)
 refine⟨?_,?_,λk hk h1 h2=>?_,rfl,rfl,rfl,?_⟩
 ·rw[hd ab hal,Below.heap_setCell _ _ _ _ (show ab≠(⟨eb,0,none⟩:Addr).block from hne)]
  simp only[World.setCell,Array.getElem?_modify,if_true,ha]
  rfl
 ·rw[hd eb hel]
  simp only[World.setCell,Array.getElem?_modify,if_true,if_neg hne,he]
  rfl
 ·rw[hd k hk,Below.heap_setCell _ _ _ _ (show k≠(⟨eb,0,none⟩:Addr).block from h2),Below.heap_setCell _ _ _ _ (show k≠(⟨ab,0,none⟩:Addr).block from h1)]
 ·have:((((w.setCell ⟨ab,0,none⟩ (.int .i64 a)).setCell ⟨eb,0,none⟩ (.int .i64 n)).alloc (Obj.cells #[.int .i64 a,.int .i64 n] 211)).drew).heap.size=w.heap.size+1:=by rw[<-hs];exact Array.size_push ..
  omega
structure gW(p:Prop):Prop where
 out:p
def ay(cs:List (Int×Int)):Fo×Int×Int:=if 1024<cs.length then(.nil,0,6) else match cR cs with
 |.ok (o,_)=>(o,0,0)
 |.error x=>(.nil,x,15)
def i7(cs:List (Int×Int))(φ:Fz)(w:World)(e:Ending)(w':World):Prop:=∃(v:Value) (φ':Fz),e= .returned (.tuple #[v,.int .i64 (ay cs).2.1,.int .i64 (ay cs).2.2])/\
 VR (Sg.data φ') (.fs 5 (ay cs).1.len (ay cs).1.cell) v/\pE φ' w'/\Below w.heap.size w w'/\∀c,c<w.heap.size->φ' c=φ c
theorem iY{φ:Fz}{w w':World}(h:pE φ w)(hb:∀k,k<w.heap.size->w'.heap[k]? =w.heap[k]?):pE φ w':=λc fs hf=>by
 obtain⟨cs,t,fr,e1,e2⟩:=h c fs hf
 exact⟨cs,t,fr,by rw[hb c (Array.getElem?_eq_some_iff.1 e1).1];exact e1,e2⟩
def r9(w:World):World:=(w.alloc (Obj.cells #[.int .i64 0] 3)).alloc (Obj.cells #[.int .i64 0] 30)
theorem qm(w:World):(r9 w).heap.size=w.heap.size+2:=by simp[r9]
theorem lQ(w:World)(o:Obj):(w.alloc o).heap[w.heap.size]? =some o:=by
 show(w.heap.push o)[w.heap.size]? =some o
 simp
theorem xv(w:World):(r9 w).heap[w.heap.size]? =some (.cells #[.int .i64 0] 3 (0,0)):=by
 rw[r9,Below.heap_alloc _ _ _ (by simp)]
 exact lQ w _
theorem xu(w:World):(r9 w).heap[w.heap.size+1]? =some (.cells #[.int .i64 0] 30 (0,0)):=by
 have:=lQ (w.alloc (Obj.cells #[.int .i64 0] 3)) (Obj.cells #[.int .i64 0] 30)
 simpa [r9] using this
theorem oW(w:World):Below w.heap.size w (r9 w):=((Below.refl _ _).alloc (by simp) _).alloc (by simp) _
theorem jN{cs:List (Int×Int)}{φ:Fz}{w w2:World}{a n:Int}(hφ:pE φ w)(hb:Below (r9 w).heap.size (r9 w) w2)(hp:ay cs=(.nil,a,n))(tm:Array Value)(h2:tm[2]? =some (.slice none 0 0))(h3:tm[3]? =some (.pointer (some ⟨w.heap.size,0,none⟩)))(h4:tm[4]? =some (.pointer (some ⟨w.heap.size+1,0,none⟩))):
  Leaves Tryz.prog Tryz.f50 tm (i7 cs φ w) [{target:= .fn (.func 82) #[],args:= #[.pointer (some ⟨w.heap.size,0,none⟩),.pointer (some ⟨w.heap.size+1,0,none⟩)]}] (.panicking (fF a n)) w2:=by
 have hz:=qm w
 have q1:w2.heap[w.heap.size]? =some (.cells #[.int .i64 0] 3 (0,0)):=by rw[hb.block _ (by omega)];exact xv w
 have q2:w2.heap[w.heap.size+1]? =some (.cells #[.int .i64 0] 30 (0,0)):=by rw[hb.block _ (by omega)];exact xu w
 refine leaves_cons (f:=82) (args:= #[.pointer (some ⟨w.heap.size,0,none⟩),.pointer (some ⟨w.heap.size+1,0,none⟩)]) (by simp) (by simp[go_sem]) ?_
 refine(fK w.heap.size (w.heap.size+1) 0 0 a n [] w2 q1 q2 (by omega) (by omega)).mono ?_
 rintro e u' w3 ⟨rfl,rfl,b1,b2,b3,ho3,ht3,hp3,hs3⟩
 have hsz:=hb.size
 have hB:=oW w
 have y1:w3.cell? ⟨w.heap.size,0,none⟩=some (.int .i64 a):=by simp[World.cell?,b1]
 have y2:w3.cell? ⟨w.heap.size+1,0,none⟩=some (.int .i64 n):=by simp[World.cell?,b2]
 have hbl:∀k,k<w.heap.size->w3.heap[k]? =w.heap[k]? :=λk hk=>by rw[b3 k (by omega) (by omega) (by omega),hb.block k (by omega),hB.block k hk]
 have hfin:i7 cs φ w (.returned (.tuple #[.slice none 0 0,.int .i64 a,.int .i64 n])) w3:=by
  refine⟨.slice none 0 0,φ,by rw[hp],by rw[hp];exact .fs0 _ _ _ _,iY hφ hbl,⟨ho3.trans (hb.os.trans hB.os),ht3.trans (hb.tape.trans hB.tape),hp3.trans (hb.output.trans hB.output),by omega,hbl⟩,λ_ _=>rfl⟩
 have H:=gW.mk hfin
 clear hfin
 simp[Leaves,settle,results,Tryz.results50,go_sem,y1,y2,h2,h3,h4]
 exact H.out
theorem vm(cs:List (Int×Int))(φ:Fz)(w:World)(u:Value)(hφ:pE φ w)(hu:VR (Sg.data φ) (.fs 2 cs.length (pI cs)) u):Calls Tryz.prog 50 #[u] w (i7 cs φ w):=by
 have HU:=gW.mk hu
 have HF:=gW.mk hφ
 clear hu hφ
 go_enter_defers Tryz.func50,Tryz.ntmps50
 go_wp2_with fail
 show Calls _ _ _ (r9 w) _
 have hz:=qm w
 have hB:=oW w
 refine((rL cs).2 (r9 w).heap.size (Sg.data φ) (r9 w) #[u] (HR.empty (r9 w) (iY HF.out λk hk=>hB.block k hk)) ⟨rfl,λi v hv=>?_⟩).mono ?_
 ·cases i with
  |zero=>cases hv;exact HU.out
  |succ i=>simp at hv
 rintro e w2 hp
 cases e with
 |outgrown=>exact hp.elim
 |panicked c=>
  obtain⟨H',σ',⟨hlong,rfl⟩,hHR,hA⟩:=hp
  exact jN HF.out hA.bel (by rw[ay,if_pos hlong]) _ rfl rfl rfl
 |returned v=>
  obtain⟨v',H1,σ1,⟨hle,rfl,rfl⟩,hv,hHR1,hA1⟩:=hp
  cases hv with
  |p hs=>
  have H1:=gW.mk hHR1
  have H2:=gW.mk hA1
  have H3:=gW.mk hs
  have H4:=gW.mk hB
  clear hHR1 hA1 hs hB
  go_wp2_with fail
  refine((qj cs hle _ rfl).2 (r9 w).heap.size σ1 w2 _ H1.out ⟨rfl,λi v hv=>?_⟩).mono ?_
  ·cases i with
   |zero=>cases hv;exact .p H3.out
   |succ i=>simp at hv
  rintro e w3 hp
  have hb2:=H2.out.bel
  cases e with
  |outgrown=>exact hp.elim
  |panicked c=>
   obtain⟨H',σ',⟨x,hx,rfl⟩,hHR,hA⟩:=hp
   exact jN HF.out (hb2.trans hA.bel) (by rw[ay,if_neg (by omega),hx]) _ rfl rfl rfl
  |returned v2=>
   obtain⟨v',H',σ2,⟨o,pt,hrd,rfl,rfl⟩,hv2,hHR2,hA2⟩:=hp
   have hb3:=hb2.trans hA2.bel
   have q1:w3.heap[w.heap.size]? =some (.cells #[.int .i64 0] 3 (0,0)):=by rw[hb3.block _ (by omega)];exact xv w
   have q2:w3.heap[w.heap.size+1]? =some (.cells #[.int .i64 0] 30 (0,0)):=by rw[hb3.block _ (by omega)];exact xu w
   have z0:w3.cell? ⟨w.heap.size,0,none⟩=some (.int .i64 0):=by simp[World.cell?,q1]
   have z1:w3.cell? ⟨w.heap.size+1,0,none⟩=some (.int .i64 0):=by simp[World.cell?,q2]
   have f0:w3.frozen? ⟨w.heap.size,0,none⟩=false:=by simp[World.frozen?,q1]
   have f1:w3.frozen? ⟨w.heap.size+1,0,none⟩=false:=by simp[World.frozen?,q2]
   have G1:=gW.mk hHR2
   have G2:=gW.mk hA2
   have G3:=gW.mk hv2
   have G4:=gW.mk hb3
   have G5:=gW.mk q1
   have G6:=gW.mk q2
   clear hHR2 hA2 hv2 hb3 hb2 q1 q2
   go_wp2
   have hn1:w.heap.size≠w.heap.size+1:=by omega
   have hd:∀k,k≠w.heap.size->k≠w.heap.size+1->((w3.setCell ⟨w.heap.size,0,none⟩ (.int .i64 0)).setCell ⟨w.heap.size+1,0,none⟩ (.int .i64 0)).heap[k]? =w3.heap[k]? :=λk h1 h2=>by
    rw[Below.heap_setCell _ _ _ _ (show k≠(⟨w.heap.size+1,0,none⟩:Addr).block from h2),Below.heap_setCell _ _ _ _ (show k≠(⟨w.heap.size,0,none⟩:Addr).block from h1)]
   have y1:((w3.setCell ⟨w.heap.size,0,none⟩ (.int .i64 0)).setCell ⟨w.heap.size+1,0,none⟩ (.int .i64 0)).cell? ⟨w.heap.size,0,none⟩=some (.int .i64 0):=by
    rw[World.cell?_of_block (Below.heap_setCell _ _ _ _ (show w.heap.size≠(⟨w.heap.size+1,0,none⟩:Addr).block from hn1))]
    simp[World.cell?,World.setCell,Array.getElem?_modify,G5.out]
   have y2:((w3.setCell ⟨w.heap.size,0,none⟩ (.int .i64 0)).setCell ⟨w.heap.size+1,0,none⟩ (.int .i64 0)).cell? ⟨w.heap.size+1,0,none⟩=some (.int .i64 0):=by
    simp[World.cell?,World.setCell,Array.getElem?_modify,G6.out]
   have hpf:ay cs=(o,0,0):=by rw[ay,if_neg (by omega),hrd]
   have hfz:∀c,c<(r9 w).heap.size->σ2.fz c=φ c:=λc hc=>(G2.out.fzb.eq c hc).trans (H2.out.fzb.eq c hc)
   have hnb:∀c fs,σ2.fz c=some fs->c≠w.heap.size/\c≠w.heap.size+1:=λc fs hf=>by
    by_cases hc:c<(r9 w).heap.size
    ·rw[hfz c hc] at hf
     obtain⟨cs',t,fr,e1,_⟩:=HF.out c fs hf
     have:=(Array.getElem?_eq_some_iff.1 e1).1
     omega
    ·omega
   have hfin:i7 cs φ w (.returned (.tuple #[v2,.int .i64 0,.int .i64 0])) ((w3.setCell ⟨w.heap.size,0,none⟩ (.int .i64 0)).setCell ⟨w.heap.size+1,0,none⟩ (.int .i64 0)):=by
    refine⟨v2,σ2.fz,by rw[hpf],by rw[hpf];exact G3.out.pure 3 rfl,λc fs hf=>?_,((H4.out.trans (G4.out.mono (by omega))).setCell (Nat.le_refl _) _).setCell (Nat.le_succ _) _,λc hc=>hfz c (by omega)⟩
    obtain⟨cs',t,fr,e1,e2,_⟩:=G1.out.frz c fs hf
    obtain⟨h1,h2⟩:=hnb c fs hf
    exact⟨cs',t,fr,by rw[hd c h1 h2];exact e1,e2⟩
   refine leaves_cons (f:=82) (args:= #[.pointer (some ⟨w.heap.size,0,none⟩),.pointer (some ⟨w.heap.size+1,0,none⟩)]) (by simp) (by simp[go_sem]) ?_
   refine(lc w.heap.size (w.heap.size+1) _).mono ?_
   rintro e u' w'' ⟨rfl,rfl,rfl⟩
   have HH:=gW.mk hfin
   clear hfin hd hfz hnb
   refine⟨.tuple #[v2,.int .i64 0,.int .i64 0],?_,HH.out⟩
   simp[results,Tryz.results50,go_sem,y1,y2]
theorem kB(cs:List (Int×Int)):bM Tryz.prog 50 [.fs 2 cs.length (pI cs)] [.v (.fs 5 (ay cs).1.len (ay cs).1.cell),.v (.n .i64 (ay cs).2.1),.v (.n .i64 (ay cs).2.2)]:=by
 refine⟨⟨_,Tryz.func50,by kernel_rfl,rfl⟩,λφ w args' hφ ha=>?_⟩
 obtain⟨u,rfl,hu⟩:∃u,args'= #[u]/\VR (Sg.data φ) (.fs 2 cs.length (pI cs)) u:=by
  obtain⟨l⟩:=args'
  obtain⟨h1,h2⟩:=ha
  match l,h1 with
  |[x],_=>exact⟨x,rfl,h2 0 _ rfl⟩
 refine(vm cs φ w u hφ hu).mono λe w' hp=>?_
 obtain⟨v,φ',rfl,hv,hin,hb,hfz⟩:=hp
 refine⟨.tup [.fs 5 (ay cs).1.len (ay cs).1.cell,.n .i64 (ay cs).2.1,.n .i64 (ay cs).2.2],⟨.nil,0,2^40,λ_=>none,[]⟩,Sg.data φ',⟨[.fs 5 (ay cs).1.len (ay cs).1.cell,.n .i64 (ay cs).2.1,.n .i64 (ay cs).2.2],rfl,⟨rfl,rfl⟩,⟨rfl,rfl⟩,⟨rfl,rfl⟩,trivial⟩,?_,HR.emptyAt w' hb.size hin,hb,hfz⟩
 exact((aX.nil.cons (.n _ _)).cons (.n _ _)).cons hv |>.tup
def bD(cs:List (Int×Int)):Nat->List Int
 |0=>[]
 |k+1=>if am cs k=29 then bD cs k++[(k:Int)] else bD cs k
def dd(cs:List (Int×Int)):List Int:=if(ay cs).2.2=0 then bD cs cs.length else[]
theorem iq(cs:List (Int×Int)):∀k,(bD cs k).length<=k
 |0=>Nat.le_refl _
 |k+1=>by
  have:=iq cs k
  rw[bD]
  split
  ·rw[List.length_append];simp;omega
  ·omega
theorem vR(cs:List (Int×Int))(hcs:cs.length<=100000):bM Tryz.prog 65 [.fs 2 cs.length (pI cs)] [.o 3 1 (dd cs).length 0 (iC (dd cs)),.v (.n .i64 (ay cs).2.2)]:=by
 refine ag aD Oh ⟨by simp,by decide⟩ ?_
 simp only[aE]
 repeat first|with_reducible refine aq ?_|simp only[go_sem,simprocAttr]
 refine bS ([.fs 2 cs.length (pI cs)]) (kB cs) ?_
 by_cases he:(ay cs).2.2=0
 ·have hF:dd cs=bD cs cs.length:=if_pos he
  rw[hF,he]
  repeat first|with_reducible refine aq ?_|simp only[he,decide_false,decide_true,ne_eq,not_true_eq_false,go_sem,simprocAttr]
  refine GA.wk (Wk.nil 7 1 3 (by simp only[go_sem,simprocAttr]) (by decide) (by simp only[go_sem,simprocAttr])) ?_
  simp only[kf]
  refine GA.loop (I:=λm e H=>∃(k:Nat),m=cs.length-k/\k<=cs.length/\e=az [(7,.os 0 (bD cs k).length),(19,.fs 2 cs.length (pI cs)),(20,.n .i64 cs.length),(21,.n .i64 k)]/\H=ah [ai 3 1 (bD cs k).length 0 (iC (bD cs k))]) (Wk.mk [0] [] ?_ ?_ ?_) ⟨0,rfl,by omega,rfl,rfl⟩ ?_
  ·exact a8
  ·exact .cr (.rows (x:=_) (by simp only[go_sem,simprocAttr];rfl) (by rfl) (by rfl) (by rfl) (Nat.zero_le _) (by decide) (by decide) (λi j h=>absurd h (Nat.not_lt_zero _)) (λi j h=>absurd h (Nat.not_lt_zero _))) .nil
  ·simp
  rintro m e H ⟨k,rfl,hk,rfl,rfl⟩
  have h0:(0:Int)<=(k:Int):=by omega
  have hll:=iq cs k
  obtain⟨l,hl⟩:∃l,l=bD cs k:=⟨_,rfl⟩
  rw[<-hl] at hll ⊢
  by_cases h:(k:Int)<cs.length
  rotate_left
  ·repeat first|with_reducible refine aq ?_|simp only[h,decide_false,go_sem,simprocAttr]
   have:k=cs.length:=by omega
   subst this
   exact⟨[_,_],rfl,.inr ⟨0,by rw[hl],by simp,_,by simp only[go_sem,simprocAttr];rfl,rfl,rfl,by decide,rfl,by rw[hl];exact Nat.le_refl _,Nat.le_refl _,λi j _ hj=>by rw[hl];exact aJ i j hj,λ_ _ _ _=>rfl⟩,rfl,⟨rfl,rfl⟩,trivial⟩
  have hk':k<cs.length:=by omega
  have wk:IntKind.i64.wrap ((k:Int)+1)=((k+1:Nat):Int):=(aj (by omega)).trans (by omega)
  have hlap:(l.length+1<1099511627776/\(l.length+1)*8<=140737488355328)/\l.length<=9223372036854775806:=⟨⟨by omega,by omega⟩,by omega⟩
  by_cases e1:(cs.getD k (0,0)).1=29
  ·have hs:bD cs (k+1)=l++[(k:Int)]:=by rw[bD,if_pos (show am cs k=29 from e1),hl]
   repeat first|with_reducible refine aq ?_|simp only[h,h0,cS,pj,e1,wk,hlap,decide_true,go_sem,simprocAttr]
   refine⟨_,_,_,?_,Wk.mk [3] [] ?_ ?_ ?_,k+1,rfl,by omega,rfl,rfl⟩
   ·omega
   ·rw[hs,List.length_append]
    simp only[eo,cQ,go_sem,simprocAttr]
    repeat' refine aY ?_ ?_
    all_goals first|exact i8|skip
   ·rw[hs,List.length_append]
    exact .cr (.snoc (row:=iC l) (n:=l.length) (o:=l.length) (l:=[.n .i64 (k:Int)]) (by simp only[go_sem,simprocAttr]) (by omega) rfl rfl (by decide) (by omega) (λi j hi _=>by simp only[iC];rw[ll hi]) (λj hj=>by cases Nat.lt_one_iff.1 hj;simp only[iC];rw[lm];rfl) (λ_ _ _ _=>rfl)) .nil
   ·simp
  ·have hs:bD cs (k+1)=l:=by rw[bD,if_neg (show ¬am cs k=29 from e1),hl]
   repeat first|with_reducible refine aq ?_|simp only[h,h0,cS,pj,e1,wk,decide_true,decide_false,go_sem,simprocAttr]
   refine⟨_,_,_,?_,Wk.mk [0] [] ?_ ?_ ?_,k+1,rfl,by omega,rfl,rfl⟩
   ·omega
   ·rw[hs]
    simp only[eo,cQ,go_sem,simprocAttr]
    repeat' refine aY ?_ ?_
    all_goals first|exact i8|skip
   ·rw[hs]
    exact .cr .k1 .nil
   ·simp
 ·have hF:dd cs=[]:=if_neg he
  rw[hF]
  repeat first|with_reducible refine aq ?_|simp only[he,decide_false,decide_true,ne_eq,not_false_eq_true,go_sem,simprocAttr]
  exact⟨[_,_],rfl,.inl ⟨rfl,rfl⟩,rfl,⟨rfl,rfl⟩,trivial⟩
structure Ax(cs:List (Int×Int))(s:RS)(i:Nat):Prop where
 len:s.out.length=cs.length
 op:∀b ∈ s.op,b<i/\(am cs b=27\/am cs b=29)
 ot:∀c ∈ s.ot,c<0\/(c<i/\am cs c.toNat=28)
 eq:s.op.length=s.ot.length
theorem VS(cs:List (Int×Int)):Ax cs (AJ cs) 0:=⟨by simp[AJ],λb hb=>by simp[AJ] at hb,λc hc=>by simp[AJ] at hc,rfl⟩
theorem nZ{cs:List (Int×Int)}{i:Nat}{s s1:RS}(h:ce cs i s=some s1)(hi:i<cs.length)(H:Ax cs s i):
  Ax cs s1 (i+1)/\(∀j,j<i->am cs j=31->s1.out.getD j 0=s.out.getD j 0)/\
   ((am cs i=31/\∃b,s.op=b::s1.op/\s1.out.getD i 0=b)\/(am cs i=29/\s1.op=i::s.op)\/(am cs i=27/\s1.op=i::s.op)\/(am cs i=30/\s1.op=s.op/\mJ cs s.op=true)\/(am cs i≠31/\am cs i≠29/\am cs i≠27/\am cs i≠30/\s1.op=s.op)):=by
 have low:∀j,j<i->(s.out.set i (-1)).getD j 0=s.out.getD j 0:=λj hj=>bq (by omega)
 have opm:∀b ∈ s.op,b<i+1/\(am cs b=27\/am cs b=29):=λb hb=>⟨by have:=(H.op b hb).1;omega,(H.op b hb).2⟩
 have otm:∀c ∈ s.ot,c<0\/(c<(i+1:Nat)/\am cs c.toNat=28):=λc hc=>(H.ot c hc).imp id λh=>⟨by omega,h.2⟩
 rw[ce] at h
 by_cases c1:am cs i=27\/am cs i=29
 ·rw[if_pos c1] at h
  split at h
  ·cases h
  ·cases h
   refine⟨⟨by simp[H.len],λb hb=>?_,λc hc=>?_,by simp[H.eq]⟩,λj hj _=>low j hj,?_⟩
   ·rcases List.mem_cons.1 hb with rfl|hb
    ·exact⟨by omega,c1⟩
    ·exact opm b hb
   ·rcases List.mem_cons.1 hc with rfl|hc
    ·exact .inl (by decide)
    ·exact otm c hc
   ·rcases c1 with c1|c1
    ·exact .inr (.inr (.inl ⟨c1,rfl⟩))
    ·exact .inr (.inl ⟨c1,rfl⟩)
 rw[if_neg c1] at h
 by_cases c2:am cs i=28
 ·rw[if_pos c2] at h
  split at h
  ·rename_i b op c ot h1 h2
   split at h
   ·cases h
   ·cases h
    have hb:=H.op b (by rw[h1];exact List.mem_cons_self ..)
    refine⟨⟨by simp[H.len],λx hx=>opm x (by rw[h1];exact hx),λx hx=>?_,?_⟩,λj hj h31=>?_,.inr (.inr (.inr (.inr ⟨by rw[c2];decide,by rw[c2];decide,by rw[c2];decide,by rw[c2];decide,h1.symm⟩)))⟩
    ·rcases List.mem_cons.1 hx with rfl|hx
     ·exact .inr ⟨by omega,by rw[Int.toNat_natCast];exact c2⟩
     ·exact otm x (by rw[h2];exact List.mem_cons_of_mem _ hx)
    ·have:=H.eq;rw[h1,h2] at this;simpa using this
    ·refine(bq ?_).trans (low j hj)
     rintro rfl
     rcases hb.2 with h|h<;>rw[h31] at h<;>exact absurd h (by decide)
  ·cases h
 rw[if_neg c2] at h
 by_cases c3:am cs i=30
 ·rw[if_pos c3] at h
  split at h
  ·rename_i hin
   cases h
   exact⟨⟨by simp[H.len],opm,otm,H.eq⟩,λj hj _=>low j hj,.inr (.inr (.inr (.inl ⟨c3,rfl,hin⟩)))⟩
  ·cases h
 rw[if_neg c3] at h
 by_cases c4:am cs i=31
 ·rw[if_pos c4] at h
  split at h
  ·rename_i b op c ot h1 h2
   cases h
   have hb:=H.op b (by rw[h1];exact List.mem_cons_self ..)
   have hc:=H.ot c (by rw[h2];exact List.mem_cons_self ..)
   have hne:∀j,am cs j=31->j≠b:=λj hj=>by
    rintro rfl
    rcases hb.2 with h|h<;>rw[hj] at h<;>exact absurd h (by decide)
   have hnc:0<=c->∀j,am cs j=31->j≠c.toNat:=λh0 j hj=>by
    rintro rfl
    rcases hc with h|h
    ·omega
    ·rw[hj] at h;exact absurd h.2 (by decide)
   have hil:i<(s.out.set i (-1)).length:=by rw[List.length_set,H.len];exact hi
   refine⟨⟨by split<;>simp[H.len],λx hx=>opm x (by rw[h1];exact List.mem_cons_of_mem _ hx),λx hx=>otm x (by rw[h2];exact List.mem_cons_of_mem _ hx),?_⟩,λj hj h31=>?_,.inl ⟨c4,b,h1,?_⟩⟩
   ·have:=H.eq;rw[h1,h2] at this;simpa using this
   ·dsimp only
    split
    ·rename_i h0
     exact(bq (hnc h0 j h31)).trans ((bq (by omega)).trans (low j hj))
    ·exact(bq (hne j h31)).trans ((bq (by omega)).trans (low j hj))
   ·dsimp only
    split
    ·rename_i h0
     exact(bq (hnc h0 i c4)).trans (gg hil)
    ·exact(bq (hne i c4)).trans (gg hil)
  ·cases h
 rw[if_neg c4] at h
 cases h
 exact⟨⟨by simp[H.len],opm,otm,H.eq⟩,λj hj _=>low j hj,.inr (.inr (.inr (.inr ⟨c4,λh=>c1 (.inr h),λh=>c1 (.inl h),c3,rfl⟩)))⟩
theorem n8{cs:List (Int×Int)}:∀(n i:Nat) (s s2:RS),bK cs n i s= .ok s2->i+n<=cs.length->Ax cs s i->∀j,j<i->am cs j=31->s2.out.getD j 0=s.out.getD j 0
 |0,i,s,s2,h,_,_,j,_,_=>by cases h;rfl
 |n+1,i,s,s2,h,hn,H,j,hj,h31=>by
  rw[bK] at h
  cases hs:ce cs i s with
  |none=>rw[hs] at h;cases h
  |some s1=>
   rw[hs] at h
   obtain⟨H1,k1,_⟩:=nZ hs (by omega) H
   exact(n8 n (i+1) s1 s2 h (by omega) H1 j (by omega) h31).trans (k1 j hj h31)
def AQ(cs:List (Int×Int)):Nat->Nat->List Int->List Nat->Option (List Int)
 |0,_,out,_=>some out
 |n+1,i,out,lp=>
  if am cs i=29 then AQ cs n (i+1) out (i::lp)
  else if am cs i=31 then
   if 0<=out.getD i 0/\out.getD i 0<cs.length then
    if am cs (out.getD i 0).toNat=29 then match lp with
     |_::l=>AQ cs n (i+1) out l
     |[]=>none
    else AQ cs n (i+1) out lp
   else none
  else if am cs i=30 then match lp with
   |b::l=>AQ cs n (i+1) (out.set i (out.getD b 0)) (b::l)
   |[]=>none
  else AQ cs n (i+1) out lp
def b9(cs:List (Int×Int))(l:List Nat):List Nat:=l.filter λb=>decide (am cs b=29)
theorem qS{cs:List (Int×Int)}:∀(n i:Nat) (s s2:RS) (out:List Int),bK cs n i s= .ok s2->i+n=cs.length->Ax cs s i->(∀j,i<=j->am cs j=31->out.getD j 0=s2.out.getD j 0)->out.length=cs.length->
  ∃out',AQ cs n i out (b9 cs s.op)=some out'/\out'.length=cs.length/\∀j,am cs j≠30->out'.getD j 0=out.getD j 0
 |0,i,s,s2,out,h,hn,H,ho,hl=>⟨out,rfl,hl,λ_ _=>rfl⟩
 |n+1,i,s,s2,out,h,hn,H,ho,hl=>by
  rw[bK] at h
  cases hs:ce cs i s with
  |none=>rw[hs] at h;cases h
  |some s1=>
   rw[hs] at h
   obtain⟨H1,k1,k2⟩:=nZ hs (by omega) H
   have ih:=λout' (q1:∀j,i+1<=j->am cs j=31->out'.getD j 0=s2.out.getD j 0) (q2:out'.length=cs.length)=>qS n (i+1) s1 s2 out' h (by omega) H1 q1 q2
   have ih0:=ih out (λj hj h31=>ho j (by omega) h31) hl
   rw[AQ.eq_def];dsimp only
   rcases k2 with⟨c,b,e1,e2⟩|⟨c,e1⟩|⟨c,e1⟩|⟨c,e1,e2⟩|⟨c1,c2,c3,c4,e1⟩
   ·have hb:=H.op b (by rw[e1];exact List.mem_cons_self ..)
    have hv:out.getD i 0=b:=by
     rw[ho i (Nat.le_refl _) c,n8 n (i+1) s1 s2 h (by omega) H1 i (by omega) c,e2]
    rw[if_neg (by rw[c];decide),if_pos c,hv,if_pos ⟨by omega,by omega⟩,Int.toNat_natCast]
    by_cases h29:am cs b=29
    ·have:b9 cs s.op=b::b9 cs s1.op:=by rw[e1];simp[b9,h29]
     rw[if_pos h29,this]
     exact ih0
    ·have:b9 cs s.op=b9 cs s1.op:=by rw[e1];simp[b9,h29]
     rw[if_neg h29,this]
     exact ih0
   ·rw[if_pos c]
    have:b9 cs s1.op=i::b9 cs s.op:=by rw[e1];simp[b9,c]
    rw[<-this]
    exact ih0
   ·rw[if_neg (by rw[c];decide),if_neg (by rw[c];decide),if_neg (by rw[c];decide)]
    have:b9 cs s1.op=b9 cs s.op:=by rw[e1];simp[b9,c]
    rw[<-this]
    exact ih0
   ·rw[if_neg (by rw[c];decide),if_neg (by rw[c];decide),if_pos c]
    have hne:∃b l,b9 cs s.op=b::l:=by
     obtain⟨b,hb,hb2⟩:=List.any_eq_true.1 e2
     cases hlp:b9 cs s.op with
     |nil=>
      have:b ∈ b9 cs s.op:=List.mem_filter.2 ⟨hb,hb2⟩
      rw[hlp] at this
      cases this
     |cons b l=>exact⟨b,l,rfl⟩
    obtain⟨b,l,hbl⟩:=hne
    rw[hbl]
    obtain⟨out',p1,p2,p3⟩:=ih (out.set i (out.getD b 0)) (λj hj h31=>(bq (by omega)).trans (ho j (by omega) h31)) (by rw[List.length_set];exact hl)
    rw[e1,hbl] at p1
    exact⟨out',p1,p2,λj hj=>(p3 j hj).trans (bq (by rintro rfl;exact hj c))⟩
   ·rw[if_neg c2,if_neg c1,if_neg c4,<-e1]
    exact ih0
def qG(cs:List (Int×Int)):List Int×Int×Int:=if 1024<cs.length then([],0,6) else match hJ cs with
 |.error x=>([],x,15)
 |.ok out=>((AQ cs cs.length 0 out []).getD [],0,0)
theorem PC.no{P:Program}{kk:Nat->Bool}{g:FuncId}{args:List AV}{H:AH}{Q:AV->AH->Prop}{E:List PanicEntry->AH->Prop}(h:PC P kk g args H Q E):PC P (λ_=>false) g args H Q E:=
 ⟨h.1,λB σ w args' hH ha=>(h.2 B σ w args' hH ha).mono λen w' hp=>by
  cases en with
  |returned u=>obtain⟨v,H',σ',q,q1,q2,q3⟩:=hp;exact⟨v,H',σ',q,q1,q2,q3.no⟩
  |panicked c=>exact hp
  |outgrown=>exact hp.elim⟩
def Fo.size:Fo->Nat
 |.nil=>0
 |.pl _ _ r=>r.size+1
 |.br _ _ _ u v r=>u.size+v.size+r.size+1
theorem aN.len{cs:List (Int×Int)}{out:List Int}:∀{o:Fo} {a b:Nat},aN cs out o a b->a+o.len<=b
 |.nil,a,b,h=>by cases h;simp[Fo.len]
 |.pl x y r,a,b,h=>by
  obtain⟨_,h1,_,_,h2⟩:=h
  have:=h2.len
  simp only[Fo.len]
  omega
 |.br op x y u v r,a,b,h=>by
  obtain⟨_,_,_,⟨m,_,h1,_,_,h2⟩,h3⟩:=h
  have:=h3.len
  simp only[Fo.len]
  rcases h2 with⟨_,e,_,h4,_,_,h5⟩|⟨_,_,h5⟩<;>omega
theorem sI(cs:List (Int×Int)):(∃a e:Int,e≠0/\qG cs=([],a,e)/\ay cs=(.nil,a,e))\/
  (∃out o,qG cs=(out,0,0)/\ay cs=(o,0,0)/\cs.length<=1024/\out.length=cs.length/\aN cs out o 0 cs.length):=by
 by_cases h:1024<cs.length
 ·exact .inl ⟨0,6,by decide,by rw[qG,if_pos h],by rw[ay,if_pos h]⟩
 have k:=n9 cs
 cases hr:cR cs with
 |error x=>
  rw[hr] at k
  exact .inl ⟨x,15,by decide,by rw[qG,if_neg h,show hJ cs= .error x from k],by rw[ay,if_neg h,hr]⟩
 |ok q=>
  obtain⟨o,pt⟩:=q
  rw[hr] at k
  obtain⟨out,k1,k2,k3⟩:=k
  have k1':=k1
  rw[hJ] at k1'
  cases hs:bK cs cs.length 0 (AJ cs) with
  |error x=>rw[hs] at k1';cases k1'
  |ok s=>
   rw[hs] at k1'
   dsimp only at k1'
   by_cases hop:s.op=[]
   ·rw[if_pos hop] at k1'
    have hout:s.out=out:=by injection k1'
    obtain⟨out',p1,p2,p3⟩:=qS cs.length 0 (AJ cs) s out hs (by omega) (VS cs) (λ_ _ _=>by rw[hout]) k2
    have p1':AQ cs cs.length 0 out []=some out':=p1
    exact .inr ⟨out',o,by rw[qG,if_neg h,k1];show((AQ cs cs.length 0 out []).getD [],(0:Int),(0:Int))=_;rw[p1'];rfl,by rw[ay,if_neg h,hr],by omega,p2,k3.congr30 p3⟩
   ·rw[if_neg hop] at k1'
    cases k1'
def jy(la:List (Bool×Int))(loc:Int)(x:Int×Int):Prop:=((x.1=1\/x.1=2)/\loc<=x.2)\/((x.1=3\/x.1=4)/\(la.length:Int)<=x.2)
instance (la:List (Bool×Int)) (loc:Int) (x:Int×Int):Decidable (jy la loc x):=by unfold jy;exact inferInstance
def km(la:List (Bool×Int))(loc:Int):List (Int×Int)->Nat->Int×Int
 |[],_=>(0,0)
 |x::l,k=>if jy la loc x then((k:Int),2) else km la loc l (k+1)
def dg(la:List (Bool×Int))(loc:Int)(cs:List (Int×Int)):Int×Int:=if bj la loc cs=0 then(if(ay cs).2.2=0 then km la loc cs 0 else((ay cs).2.1,(ay cs).2.2)) else(0,bj la loc cs)
theorem ji(la:List (Bool×Int))(loc:Int)(cs:List (Int×Int))(hl:la.length<=9223372036854775807)(hc:cs.length<=9223372036854775807)(ha:cF cs):bM Tryz.prog 28 [aH la loc cs] [.v (.n .i64 (dg la loc cs).1),.v (.n .i64 (dg la loc cs).2)]:=by
 refine ag aD YS ⟨by simp,by decide⟩ ?_
 simp only[aE,aH]
 repeat first|with_reducible refine aq ?_|simp only[go_sem,simprocAttr]
 by_cases hf:bj la loc cs=0
 rotate_left
 ·have hF:dg la loc cs=(0,bj la loc cs):=if_neg hf
  rw[hF]
  refine bS ([aH la loc cs]) (mU la loc cs hl hc ha hf) ?_
  repeat first|with_reducible refine aq ?_|simp only[hf,ne_eq,not_false_eq_true,decide_true,decide_false,Bool.not_false,go_sem,simprocAttr]
  exact⟨[_,_],rfl,⟨rfl,rfl⟩,⟨rfl,rfl⟩,trivial⟩
 refine bS ([aH la loc cs]) (lr la loc cs ha hf) ?_
 repeat first|with_reducible refine aq ?_|simp only[ne_eq,not_true_eq_false,decide_true,decide_false,Bool.not_true,go_sem,simprocAttr]
 refine bS ([.fs 2 cs.length (pI cs)]) (kB cs) ?_
 by_cases hp:(ay cs).2.2=0
 rotate_left
 ·have hF:dg la loc cs=((ay cs).2.1,(ay cs).2.2):=by rw[dg,if_pos hf,if_neg hp]
  rw[hF]
  repeat first|with_reducible refine aq ?_|simp only[hp,ne_eq,not_false_eq_true,decide_true,decide_false,Bool.not_false,go_sem,simprocAttr]
  exact⟨[_,_],rfl,⟨rfl,rfl⟩,⟨rfl,rfl⟩,trivial⟩
 have hF:dg la loc cs=km la loc cs 0:=by rw[dg,if_pos hf,if_pos hp]
 rw[hF]
 repeat first|with_reducible refine aq ?_|simp only[hp,ne_eq,not_true_eq_false,decide_true,decide_false,Bool.not_true,go_sem,simprocAttr]
 refine GA.loop (I:=λm e H=>∃k:Nat,m=cs.length-k/\k<=cs.length/\km la loc cs 0=km la loc (cs.drop k) k/\e=az [(1,.p 0 0),(31,.fs 2 cs.length (pI cs)),(32,.n .i64 cs.length),(33,.n .i64 k)]/\H=ah [ae 0 25 [.fs 2 la.length (pA la),.n .i64 loc,.fs 2 cs.length (pI cs)]]) (Wk.mk [0] [] ?_ ?_ ?_) ⟨0,rfl,Nat.zero_le _,rfl,rfl,rfl⟩ ?_
 ·exact a8
 ·exact .cr (.j3) .nil
 ·simp
 rintro m e H ⟨k,rfl,hk,hs,rfl,rfl⟩
 have h0:(0:Int)<=(k:Int):=by omega
 by_cases h:k<cs.length
 rotate_left
 ·have h':¬(k:Int)<cs.length:=by omega
  have:k=cs.length:=by omega
  subst this
  rw[List.drop_length,km] at hs
  rw[hs]
  repeat first|with_reducible refine aq ?_|simp only[h',decide_false,go_sem,simprocAttr]
  exact⟨[_,_],rfl,⟨rfl,rfl⟩,⟨rfl,rfl⟩,trivial⟩
 have h':(k:Int)<cs.length:=by omega
 have wk:IntKind.i64.wrap ((k:Int)+1)=((k+1:Nat):Int):=(aj (by omega)).trans (by omega)
 have hx:=ha _ (eS (d:=(0,0)) h)
 have wx:IntKind.i64.wrap (cs.getD k (0,0)).2=(cs.getD k (0,0)).2:=aj (by omega)
 rw[cE (d:=(0,0)) h,km] at hs
 have nx:∀(v:Int),(cs.getD k (0,0)).1=v->¬(v=1\/v=2)->¬(v=3\/v=4)->¬jy la loc (cs.getD k (0,0)):=λv e h1 h2 hb=>by
  subst e
  rcases hb with hb|hb
  ·exact h1 hb.1
  ·exact h2 hb.1
 by_cases hop:(cs.getD k (0,0)).1=1\/(cs.getD k (0,0)).1=2
 ·have h34:¬((cs.getD k (0,0)).1=3\/(cs.getD k (0,0)).1=4):=by omega
  by_cases hb:loc<=(cs.getD k (0,0)).2
  ·rw[if_pos (.inl ⟨hop,hb⟩)] at hs
   rw[hs]
   rcases hop with e|e
   all_goals
    repeat first|with_reducible refine aq ?_|simp only[h0,h',cS,pj,e,wx,hb,ge_iff_le,decide_true,decide_false,go_sem,simprocAttr]
    exact⟨[_,_],rfl,⟨rfl,rfl⟩,⟨rfl,rfl⟩,trivial⟩
  ·rw[if_neg (λh=>h.elim (λh=>hb h.2) (λh=>h34 h.1))] at hs
   rcases hop with e|e
   all_goals
    repeat first|with_reducible refine aq ?_|simp only[h0,h',cS,pj,e,wx,hb,wk,ge_iff_le,decide_true,decide_false,go_sem,simprocAttr]
    refine⟨_,_,_,?_,Wk.mk [0] [] ?_ ?_ ?_,k+1,rfl,by omega,hs,rfl,rfl⟩
    ·omega
    ·exact a8
    ·exact .cr .ls .nil
    ·simp
 have n1:¬(cs.getD k (0,0)).1=1:=λh=>hop (.inl h)
 have n2:¬(cs.getD k (0,0)).1=2:=λh=>hop (.inr h)
 by_cases hop2:(cs.getD k (0,0)).1=3\/(cs.getD k (0,0)).1=4
 ·by_cases hb:(la.length:Int)<=(cs.getD k (0,0)).2
  ·rw[if_pos (.inr ⟨hop2,hb⟩)] at hs
   rw[hs]
   rcases hop2 with e|e
   all_goals
    repeat first|with_reducible refine aq ?_|simp only[h0,h',cS,pj,e,wx,hb,ge_iff_le,decide_true,decide_false,go_sem,simprocAttr]
    exact⟨[_,_],rfl,⟨rfl,rfl⟩,⟨rfl,rfl⟩,trivial⟩
  ·rw[if_neg (λh=>h.elim (λh=>hop h.1) (λh=>hb h.2))] at hs
   rcases hop2 with e|e
   all_goals
    repeat first|with_reducible refine aq ?_|simp only[h0,h',cS,pj,e,wx,hb,wk,ge_iff_le,decide_true,decide_false,go_sem,simprocAttr]
    refine⟨_,_,_,?_,Wk.mk [0] [] ?_ ?_ ?_,k+1,rfl,by omega,hs,rfl,rfl⟩
    ·omega
    ·exact a8
    ·exact .cr .ls .nil
    ·simp
 have n3:¬(cs.getD k (0,0)).1=3:=λh=>hop2 (.inl h)
 have n4:¬(cs.getD k (0,0)).1=4:=λh=>hop2 (.inr h)
 rw[if_neg (λh=>h.elim (λh=>hop h.1) (λh=>hop2 h.1))] at hs
 repeat first|with_reducible refine aq ?_|simp only[h0,h',cS,pj,n1,n2,n3,n4,wk,decide_true,decide_false,go_sem,simprocAttr]
 refine⟨_,_,_,?_,Wk.mk [0] [] ?_ ?_ ?_,k+1,rfl,by omega,hs,rfl,rfl⟩
 ·omega
 ·exact a8
 ·exact .cr .ls .nil
 ·simp
theorem cd(k:IntKind)(x:Int):dF (pure (Value.int k x))=some (.n k x):=rfl
def bk(n:Int):Int:=if 281474976710657<n then 281474976710657 else n
def aU(a n:Int):Int:=if 0<n/\281474976710657 / n<a then 281474976710657 else bk (a*n)
def iG(n:Int):Int×Int:=if 281474976710657<=n then(0,18) else(n,0)
theorem aC{n:Int}(h:0<=n):0<=bk n/\bk n<=281474976710657:=by unfold bk;split<;>omega
theorem bz{a n:Int}(h:0<=a)(hn:0<=n):0<=aU a n/\aU a n<=281474976710657:=by
 unfold aU
 split
 ·omega
 ·exact aC (Int.mul_nonneg h hn)
theorem fM(a b:Int)(ha:0<=a/\a<=1125899906842624)(hb:0<=b/\b<=1125899906842624):bM Tryz.prog 66 [.n .i64 a,.n .i64 b] [.v (.n .i64 (bk (a+b)))]:=by
 refine ag aD NP ⟨by simp,by decide⟩ ?_
 simp only[aE]
 have w:IntKind.i64.wrap (a+b)=a+b:=aj (by omega)
 repeat first|with_reducible refine aq ?_|simp only[w,oB,gG,B2,go_sem,simprocAttr]
 exact aa rfl rfl
theorem iE(n:Int):bM Tryz.prog 23 [.n .i64 n] [.v (.n .i64 (iG n).1),.v (.n .i64 (iG n).2)]:=by
 refine ag aD Nv ⟨by simp,by decide⟩ ?_
 simp only[aE]
 by_cases h:281474976710657<=n
 ·rw[show iG n=(0,18) from if_pos h]
  repeat first|with_reducible refine aq ?_|simp only[h,ge_iff_le,decide_true,go_sem,simprocAttr]
  exact⟨[_,_],rfl,⟨rfl,rfl⟩,⟨rfl,rfl⟩,trivial⟩
 ·rw[show iG n=(n,0) from if_neg h]
  repeat first|with_reducible refine aq ?_|simp only[h,ge_iff_le,decide_false,go_sem,simprocAttr]
  exact⟨[_,_],rfl,⟨rfl,rfl⟩,⟨rfl,rfl⟩,trivial⟩
theorem nV(a n:Int)(ha:0<=a/\a<=281474976710657)(hn:0<=n/\n<=65536):bM Tryz.prog 24 [.n .i64 a,.n .i64 n] [.v (.n .i64 (aU a n))]:=by
 refine ag aD NA ⟨by simp,by decide⟩ ?_
 simp only[aE]
 by_cases h:0<n
 ·have hq:¬n=0:=by omega
  have wq:IntKind.i64.wrap (Int.tdiv 281474976710657 n)=281474976710657 / n:=by
   rw[Int.tdiv_eq_ediv_of_nonneg (by decide)]
   have h1:281474976710657 / n<=281474976710657:=Int.ediv_le_self _ (by decide)
   have h2:0<=281474976710657 / n:=Int.ediv_nonneg (by decide) (by omega)
   exact aj (by omega)
  by_cases hc:281474976710657 / n<a
  ·rw[show aU a n=281474976710657 from if_pos ⟨h,hc⟩]
   repeat first|with_reducible refine aq ?_|simp only[h,ky hq,hq,if_false,cd,wq,hc,gt_iff_lt,decide_true,go_sem,simprocAttr]
   exact aa rfl rfl
  ·rw[show aU a n=bk (a*n) from if_neg (λk=>hc k.2)]
   have hp:a*n<=281474976710657:=by
    have:=Int.mul_le_of_le_ediv h (Int.not_lt.1 hc)
    exact this
   have hp0:0<=a*n:=Int.mul_nonneg ha.1 hn.1
   have w:IntKind.i64.wrap (a*n)=a*n:=aj (by omega)
   repeat first|with_reducible refine aq ?_|simp only[h,ky hq,hq,if_false,cd,wq,hc,w,gt_iff_lt,oB,gG,B2,decide_true,decide_false,go_sem,simprocAttr]
   exact aa rfl rfl
 ·obtain rfl:n=0:=by omega
  rw[show aU a 0=bk (a*0) from if_neg (λk=>h k.1)]
  have w:IntKind.i64.wrap (a*0)=a*0:=aj (by omega)
  repeat first|with_reducible refine aq ?_|simp only[h,w,gt_iff_lt,oB,gG,B2,decide_false,go_sem,simprocAttr]
  exact aa rfl rfl
abbrev Iv:=Int×Int
abbrev Vl:=Bool×Iv
abbrev cN(x:Iv):Prop:=0<=x.1/\x.1<=x.2/\x.2<=4294967295
def ja(i j:Int):Int:=if j<i then j else i
def aQ(i j:Int):Int:=if i<j then j else i
def wO(x:Iv):Int:=if x.1<0\/4294967295<x.1\/x.2<0\/4294967295<x.2 then 2 else if x.2<x.1 then 29 else 0
theorem i5{x:Iv}:wO x=0↔cN x:=by
 unfold wO
 split
 ·rename_i h;constructor
  ·intro h';cases h'
  ·intro h';omega
 ·split
  ·rename_i h1 h2;constructor
   ·intro h';cases h'
   ·intro h';omega
  ·rename_i h1 h2;constructor
   ·intro _;refine⟨?_,?_,?_⟩<;>omega
   ·intro _;rfl
def fT(x y:Iv):Iv:=if cN x/\cN y then(ja x.1 y.1,aQ x.2 y.2) else(0,0)
def Cl(n:Int):Int:=if n<=255 then 255 else if n<=65535 then 65535 else 4294967295
def fA(x y:Iv):Iv:=if cN x/\cN y then(if y.1<x.1 then 0 else x.1,if x.2<y.2 then Cl y.2 else x.2) else(0,0)
def dp(x y:Iv):Bool:=decide (cN x/\cN y)&&decide (y.1<=x.1)&&decide (x.2<=y.2)
theorem ye{x y:Iv}:cN (fT x y):=by
 unfold fT ja aQ
 split
 ·rename_i h
  obtain⟨⟨h1,h2,h3⟩,h4,h5,h6⟩:=h
  refine⟨?_,?_,?_⟩<;>(dsimp only;repeat' split)<;>omega
 ·exact⟨by decide,by decide,by decide⟩
theorem vt{x y:Iv}:cN (fA x y):=by
 unfold fA Cl
 split
 ·rename_i h
  obtain⟨⟨h1,h2,h3⟩,h4,h5,h6⟩:=h
  refine⟨?_,?_,?_⟩<;>(dsimp only;repeat' split)<;>omega
 ·exact⟨by decide,by decide,by decide⟩
theorem ox{x:Iv}(h:cN x):fT x x=x:=by
 unfold fT ja aQ
 rw[if_pos ⟨h,h⟩,if_neg (Int.lt_irrefl _),if_neg (Int.lt_irrefl _)]
theorem sq{x:Iv}(h:cN x):fA x x=x:=by
 unfold fA
 rw[if_pos ⟨h,h⟩,if_neg (Int.lt_irrefl _),if_neg (Int.lt_irrefl _)]
theorem qh{x:Iv}(h:cN x):dp x x=true:=by simp[dp,h]
theorem qi{x:Iv}(h:cN x):dp x (0,4294967295)=true:=by
 have:cN (0,4294967295):=⟨by decide,by decide,by decide⟩
 simp[dp,h]
/-! ### the arithmetic of intervals-/
def fN(n:Int):Int:=if n=0 then 0 else(2:Int)^(Nat.log2 n.toNat+1)-1
def cW(l h:Int):Iv:=if 0<=l/\h<=4294967295 then(l,h) else if 4294967295<l then(l-4294967296,h-4294967296) else if h<0 then(l+4294967296,h+4294967296) else(0,4294967295)
def WL(a b:Int):Int:=IntKind.u32.wrap ((BitVec.ofInt 32 a&&& BitVec.ofInt 32 b).toNat:Int)
def orU(a b:Int):Int:=IntKind.u32.wrap ((BitVec.ofInt 32 a|||BitVec.ofInt 32 b).toNat:Int)
def uU(a b:Int):Int:=IntKind.u32.wrap ((BitVec.ofInt 32 a ^^^ BitVec.ofInt 32 b).toNat:Int)
def Dk(a b:Int):Int:=uU (IntKind.u32.wrap (uU a (IntKind.u32.wrap (b*2654435761))*2246822519)) (IntKind.u32.wrap (uU a (IntKind.u32.wrap (b*2654435761))*2246822519) / 65536)
def cC(op a b:Int):Int:=
 if op=8 then IntKind.u32.wrap (a+b) else if op=9 then IntKind.u32.wrap (a-b) else if op=10 then IntKind.u32.wrap (a*b) else if op=11 then a / b else if op=12 then a%b
 else if op=13 then WL a b else if op=14 then orU a b else if op=15 then uU a b else if op=16 then IntKind.u32.wrap (a*2^(b%32).toNat) else if op=17 then a / 2^(b%32).toNat
 else if op=18 then ja a b else if op=19 then aQ a b else Dk a b
def bZ(op:Int)(x y:Iv):Iv:=
 if op=8 then cW (x.1+y.1) (x.2+y.2) else if op=9 then cW (x.1-y.2) (x.2-y.1)
 else if op=10 then(if 0<y.2/\4294967295 / y.2<x.2 then(0,4294967295) else(x.1*y.1,x.2*y.2))
 else if op=11 then(x.1 / y.2,x.2 / y.1)
 else if op=12 then(if x.2<y.1 then x else(0,ja x.2 (y.2-1)))
 else if op=13 then(0,ja x.2 y.2) else if op=14 then(aQ x.1 y.1,fN (aQ x.2 y.2)) else if op=15 then(0,fN (aQ x.2 y.2))
 else if op=16 then(if y.1≠y.2\/4294967295 / 2^(y.1%32).toNat<x.2 then(0,4294967295) else(x.1*2^(y.1%32).toNat,x.2*2^(y.1%32).toNat))
 else if op=17 then(if y.2<=31 then(x.1 / 2^y.2.toNat,x.2 / 2^y.1.toNat) else if y.1=y.2 then(x.1 / 2^(y.1%32).toNat,x.2 / 2^(y.1%32).toNat) else(0,x.2))
 else if op=18 then(ja x.1 y.1,ja x.2 y.2) else if op=19 then(aQ x.1 y.1,aQ x.2 y.2) else(0,4294967295)
def bi(op:Int)(x y:Iv):Iv×Int:=
 if y.1=0/\(op=11\/op=12) then((0,0),17) else if x.1=x.2/\y.1=y.2 then((cC op x.1 y.1,cC op x.1 y.1),0) else(bZ op x y,0)
/-! ### the state-/
structure WS where
 loc:List Iv
 st:List Vl
 ht:Int
 lv:List (List Iv)
 lp:List (Int×Int)
abbrev Er:=Int×Int
abbrev Bd:=Int×Int
def bw(b c:Bd):Bd:=(bk (b.1+c.1),bk (b.2+c.2))
def fB(b:Bd)(n:Int):Bd:=(aU (bk (b.1+1)) n,aU b.2 n)
def Wf(c:UInt8)(v:Vl):Bool:=if c=110 then !v.1 else if c=116 then v.1 else true
def jQ:List Vl->List UInt8->Bool
 |v::l,c::m=>Wf c v&&jQ l m
 |_,_=>true
def fe(p:Int)(base:Nat)(ty:List UInt8)(S:WS):Except Er (List Vl×WS):=
 if S.st.length<base+ty.length then .error (p,14)
 else if jQ (S.st.drop (S.st.length-ty.length)) ty=true then .ok (S.st.drop (S.st.length-ty.length),{S with st:=S.st.take (S.st.length-ty.length)})
 else .error (p,13)
def bU(p:Int)(l:List Vl)(S:WS):Except Er WS:=if(S.st++l).length<=32 then .ok {S with st:=S.st++l,ht:=aQ S.ht ((S.st++l).length:Nat)} else .error (p,14)
def dJ(la:List (Bool×Int))(arg:Int)(p:Int)(v:Vl):Except Er Iv:=
 if v.2.2<(la.getD arg.toNat (false,0)).2 then .ok (if(la.getD arg.toNat (false,0)).1=true then(0,4294967295) else(0,255)) else .error (p,16)
def fg(op:Int):List UInt8×List UInt8:=
 if op=0\/op=1\/op=32 then([],[110]) else if op=2\/op=34\/op=35\/op=29 then([110],[]) else if op=3 then([110],[110]) else if op=4 then([110,110],[])
 else if op=5 then([97],[97,97]) else if op=6 then([97],[]) else if op=7 then([97,98],[98,97]) else if 8<=op/\op<=20 then([110,110],[110]) else if op=21\/op=22 then([110,110],[116])
 else if op=23 then([116],[116]) else if op=24\/op=25 then([116,116],[116]) else if op=26 then([116],[110]) else if op=27\/op=30 then([116],[]) else if op=33 then([],[116]) else([],[])
def v0:Vl:=(false,0,0)
def cq(b:Bd):Except Er WS->Except Er (WS×Bd)
 |.error e=> .error e
 |.ok S=> .ok (S,b)
def b6(la:List (Bool×Int))(op arg:Int)(p:Int)(l:List Vl)(S:WS):Except Er (WS×Bd):=
 if op=0 then cq (1,0) (bU p [(false,arg,arg)] S)
 else if op=1 then cq (1,0) (bU p [(false,S.loc.getD arg.toNat (0,0))] S)
 else if op=2 then .ok ({S with loc:=S.loc.set arg.toNat (l.getD 0 v0).2},(1,0))
 else if op=3 then match dJ la arg p (l.getD 0 v0) with
  |.error e=> .error e
  |.ok x=>cq (1,0) (bU p [(false,x)] S)
 else if op=4 then match dJ la arg p (l.getD 0 v0) with
  |.error e=> .error e
  |.ok x=> .ok (S,(1,0))
 else if op=5 then cq (1,0) (bU p [l.getD 0 v0,l.getD 0 v0] S)
 else if op=7 then cq (1,0) (bU p [l.getD 1 v0,l.getD 0 v0] S)
 else if op=6\/op=35 then .ok (S,(1,0))
 else if op=34 then .ok (S,(1,1))
 else if op=32 then cq (1,0) (bU p [(false,0,4294967295)] S)
 else if op=26 then cq (1,0) (bU p [(false,0,1)] S)
 else if(fg op).2=[116] then cq (1,0) (bU p [(true,0,0)] S)
 else if(bi op (l.getD 0 v0).2 (l.getD 1 v0).2).2=0 then cq (1,0) (bU p [(false,(bi op (l.getD 0 v0).2 (l.getD 1 v0).2).1)] S)
 else .error (p,(bi op (l.getD 0 v0).2 (l.getD 1 v0).2).2)
def dR(la:List (Bool×Int))(op arg:Int)(p:Int)(base:Nat)(S:WS):Except Er (WS×Bd):=match fe p base (fg op).1 S with
 |.error e=> .error e
 |.ok (l,S1)=>b6 la op arg p l S1
def fC(cs:List (Int×Int))(la:List (Bool×Int))(base loop:Nat)(p:Nat)(S:WS):Except Er (WS×Bd):=
 if am cs p=30 then match fe p base [116] S with
  |.error e=> .error e
  |.ok (_,S1)=>if S1.st.length=loop then .ok ({S1 with lv:=S1.lv++[S1.loc]},(1,0)) else .error (p,14)
 else dR la (am cs p) (cs.getD p (0,0)).2 p base S
def ic(cs:List (Int×Int))(la:List (Bool×Int))(base loop:Nat):Nat->Nat->WS->Bd->Except Er (WS×Bd)
 |0,_,S,b=> .ok (S,b)
 |n+1,p,S,b=>match fC cs la base loop p S with
  |.error e=> .error e
  |.ok (S',x)=>ic cs la base loop n (p+1) S' (bw b x)
def bL:List Iv->List Iv->List Iv
 |[],_=>[]
 |x::l,m=>fT x (m.headD (0,0))::bL l m.tail
def b7:List Iv->List Iv->Bool
 |[],[]=>true
 |x::l,y::m=>dp x y&&b7 l m
 |_,_=>false
def stoF(cs:List (Int×Int)):Nat->Nat->Nat->Bool
 |_,0,_=>false
 |p,n+1,i=>decide (cs.getD p (0,0)=(2,(i:Int)))||stoF cs (p+1) n i
def dY(sto:Nat->Bool)(pass:Int):Nat->List Iv->List Iv->List Iv
 |_,[],_=>[]
 |i,x::l,m=>(if pass<3 then fA x (fT x (m.headD (0,0))) else if sto i=true then(0,4294967295) else x)::dY sto pass (i+1) l m.tail
def gL(body:WS->Option (Except Er (WS×Bd)))(to h:Nat)(sto:Nat->Bool):Nat->Int->List Iv->WS->Option (Except Er (List Iv×WS×Bd))
 |0,_,_,_=>none
 |f+1,pass,head,S=>match body {S with loc:=head,lv:=[]} with
  |none=>none
  |some (.error e)=>some (.error e)
  |some (.ok (S',b))=>if S'.st.length=h then(if b7 S'.loc head=true then some (.ok (head,S',b)) else gL body to h sto f (pass+1) (dY sto pass 0 head S'.loc) S') else some (.error (to,14))
def fP:List (Int×Int)->Int->Int->List (Int×Int)
 |[],p,n=>[(p,n)]
 |x::l,p,n=>if x.1=p then(p,n)::l else x::fP l p n
def aR(cs:List (Int×Int))(la:List (Bool×Int)):Fo->Nat->Nat->WS->Bd->Option (Except Er (WS×Bd))
 |.nil,_,_,S,b=>some (.ok (S,b))
 |.pl x y r,base,loop,S,b=>match ic cs la base loop (y-x) x S b with
  |.error e=>some (.error e)
  |.ok (S',b')=>aR cs la r base loop S' b'
 |.br op x y u v r,base,loop,S,b=>
  if op=27 then match fe x base [116] S with
   |.error e=>some (.error e)
   |.ok (_,S1)=>match aR cs la u S1.st.length loop S1 (0,0) with
    |none=>none
    |some (.error e)=>some (.error e)
    |some (.ok (S2,bx))=>
     if S2.st.length=S1.st.length then
      if am cs (u.lastB (x+1))=28 then match aR cs la v S1.st.length loop {S2 with loc:=S1.loc} (0,0) with
       |none=>none
       |some (.error e)=>some (.error e)
       |some (.ok (S4,by_))=>
        if S4.st.length=S1.st.length then aR cs la r base loop {S4 with loc:=bL S2.loc S4.loc} (bw b (bw (aQ bx.1 by_.1,aQ bx.2 by_.2) (1,0)))
        else some (.error ((v.lastB (u.lastB (x+1)+1):Nat),14))
      else aR cs la r base loop {S2 with loc:=bL S2.loc S1.loc} (bw b (bw (aQ bx.1 0,aQ bx.2 0) (1,0)))
     else some (.error ((u.lastB (x+1):Nat),14))
  else match fe x base [110] S with
   |.error e=>some (.error e)
   |.ok (l,S1)=>
    if(l.getD 0 v0).2.2<=65536 then match gL (λS'=>aR cs la u S1.st.length S1.st.length S' (0,0)) (u.lastB (x+1)) S1.st.length (stoF cs x (u.lastB (x+1)-x)) 6 1 S1.loc S1 with
     |none=>none
     |some (.error e)=>some (.error e)
     |some (.ok (head,S2,bx))=>aR cs la r base loop {S2 with loc:=S2.lv.foldl bL head,lv:=S1.lv,lp:=fP S2.lp x (l.getD 0 v0).2.2} (bw b (bw (fB bx (l.getD 0 v0).2.2) (1,0)))
    else some (.error (x,18))
def si(n:Nat)(l:List Iv):Prop:=l.length=n/\∀x ∈ l,cN x
structure WF(n:Nat)(S:WS):Prop where
 loc:si n S.loc
 st:∀v ∈ S.st,cN v.2
 lv:∀l ∈ S.lv,si n l
def jd(b:Bd):Prop:=(0<=b.1/\b.1<=281474976710657)/\0<=b.2/\b.2<=281474976710657
theorem ba{b c:Bd}(hb:0<=b.1/\0<=b.2)(hc:0<=c.1/\0<=c.2):jd (bw b c):=⟨aC (by omega),aC (by omega)⟩
theorem iM{b:Bd}(hb:jd b){n:Int}(hn:0<=n):jd (fB b n):=⟨bz (aC (by have:=hb.1;omega)).1 hn,bz hb.2.1 hn⟩
theorem eR:∀(l m:List Iv),(bL l m).length=l.length
 |[],_=>rfl
 |x::l,m=>by simp[bL,eR l m.tail]
theorem re:∀(l m:List Iv),∀x ∈ bL l m,cN x
 |[],_,x,h=>by cases h
 |y::l,m,x,h=>by
  rcases List.mem_cons.1 h with rfl|h
  ·exact ye
  ·exact re l m.tail x h
theorem dV{n:Nat}{l:List Iv}(h:l.length=n)(m:List Iv):si n (bL l m):=⟨(eR l m).trans h,re l m⟩
theorem rm{l:List Iv}(h:∀x ∈ l,cN x)(i:Nat):cN (l.getD i (0,0)):=by
 rw[List.getD_eq_getElem?_getD]
 cases hi:l[i]? with
 |none=>exact⟨by decide,by decide,by decide⟩
 |some x=>exact h x (List.mem_of_getElem? hi)
theorem dB{l:List Vl}(h:∀v ∈ l,cN v.2)(i:Nat):cN (l.getD i v0).2:=by
 rw[List.getD_eq_getElem?_getD]
 cases hi:l[i]? with
 |none=>exact⟨by decide,by decide,by decide⟩
 |some x=>exact h x (List.mem_of_getElem? hi)
theorem iW:∀(l m:List Iv) (i:Nat),i<l.length->(bL l m).getD i (0,0)=fT (l.getD i (0,0)) (m.getD i (0,0))
 |[],_,i,h=>absurd h (Nat.not_lt_zero _)
 |x::l,m,0,h=>by cases m<;>rfl
 |x::l,m,i+1,h=>by
  have:=iW l m.tail i (by simpa using h)
  cases m with
  |nil=>simpa [bL] using this
  |cons y m=>simpa [bL] using this
theorem iA{n:Nat}:∀(ls:List (List Iv)) (h:List Iv),si n h->si n (ls.foldl bL h)
 |[],h,hh=>hh
 |l::ls,h,hh=>iA ls _ (dV hh.1 l)
theorem jA(sto:Nat->Bool)(p:Int):∀(i:Nat) (l m:List Iv),(dY sto p i l m).length=l.length
 |_,[],_=>rfl
 |i,x::l,m=>by simp[dY,jA sto p (i+1) l m.tail]
theorem eY:cN (0,4294967295):=⟨by decide,by decide,by decide⟩
theorem oM(sto:Nat->Bool)(p:Int):∀(i:Nat) (l m:List Iv),(∀x ∈ l,cN x)->∀x ∈ dY sto p i l m,cN x
 |_,[],_,_,x,h=>by cases h
 |i,y::l,m,hl,x,h=>by
  rcases List.mem_cons.1 h with rfl|h
  ·split
   ·exact vt
   ·split
    ·exact eY
    ·exact hl y (List.mem_cons_self ..)
  ·exact oM sto p (i+1) l m.tail (λx hx=>hl x (List.mem_cons_of_mem _ hx)) x h
theorem gB{n:Nat}{l:List Iv}(h:si n l)(sto:Nat->Bool)(p:Int)(i:Nat)(m:List Iv):si n (dY sto p i l m):=⟨(jA sto p i l m).trans h.1,oM sto p i l m h.2⟩
theorem gA(sto:Nat->Bool)(p:Int):∀(k:Nat) (l m:List Iv) (i:Nat),i<l.length->(dY sto p k l m).getD i (0,0)=if p<3 then fA (l.getD i (0,0)) (fT (l.getD i (0,0)) (m.getD i (0,0))) else if sto (k+i)=true then(0,4294967295) else l.getD i (0,0)
 |_,[],_,i,h=>absurd h (Nat.not_lt_zero _)
 |k,x::l,m,0,h=>by cases m<;>rfl
 |k,x::l,m,i+1,h=>by
  have:=gA sto p (k+1) l m.tail i (by simpa using h)
  rw[show k+1+i=k+(i+1) by omega] at this
  cases m with
  |nil=>simpa [dY] using this
  |cons y m=>simpa [dY] using this
theorem lW{n:Nat}:∀{l m:List Iv},l.length=m.length->(∀i,i<l.length->dp (l.getD i (0,0)) (m.getD i (0,0))=true)->b7 l m=true
 |[],[],_,_=>rfl
 |[],_::_,h,_=>by simp at h
 |_::_,[],h,_=>by simp at h
 |x::l,y::m,h,hw=>by
  have h0:dp x y=true:=hw 0 (by simp)
  rw[b7,h0,Bool.true_and]
  exact lW (n:=n) (by simpa using h) λi hi=>hw (i+1) (by simpa using hi)
theorem jI(cs:List (Int×Int))(i:Nat):∀(p n:Nat),stoF cs p n i=true↔∃k,p<=k/\k<p+n/\cs.getD k (0,0)=(2,(i:Int))
 |p,0=>by
  constructor
  ·intro h;cases h
  ·rintro ⟨k,h1,h2,_⟩;omega
 |p,n+1=>by
  rw[stoF,Bool.or_eq_true,decide_eq_true_eq,jI cs i (p+1) n]
  constructor
  ·rintro (h|⟨k,h1,h2,h3⟩)
   ·exact⟨p,Nat.le_refl _,by omega,h⟩
   ·exact⟨k,by omega,by omega,h3⟩
  ·rintro ⟨k,h1,h2,h3⟩
   by_cases e:k=p
   ·subst e;exact .inl h3
   ·exact .inr ⟨k,by omega,by omega,h3⟩
theorem cy{cs:List (Int×Int)}{i a n a' n':Nat}(h:stoF cs a n i=false)(h1:a<=a')(h2:a'+n'<=a+n):stoF cs a' n' i=false:=by
 rw[<-Bool.not_eq_true] at h ⊢
 intro hh
 obtain⟨k,k1,k2,k3⟩:=(jI cs i a' n').1 hh
 exact h ((jI cs i a n).2 ⟨k,by omega,by omega,k3⟩)
/-! ### pops and pushes-/
theorem BI{p:Int}{base:Nat}{ty:List UInt8}{S S1:WS}{l:List Vl}(h:fe p base ty S= .ok (l,S1)):base+ty.length<=S.st.length/\l=S.st.drop (S.st.length-ty.length)/\S1={S with st:=S.st.take (S.st.length-ty.length)}/\jQ l ty=true:=by
 unfold fe at h
 split at h
 ·cases h
 ·rename_i h1
  split at h
  ·rename_i h2
   cases h
   exact⟨by omega,rfl,rfl,h2⟩
  ·cases h
theorem b8{n:Nat}{p:Int}{base:Nat}{ty:List UInt8}{S S1:WS}{l:List Vl}(h:fe p base ty S= .ok (l,S1))(hS:WF n S):WF n S1/\(∀v ∈ l,cN v.2)/\S1.loc=S.loc/\S1.lv=S.lv/\S1.lp=S.lp:=by
 obtain⟨h1,rfl,rfl,_⟩:=BI h
 exact⟨⟨hS.loc,λv hv=>hS.st v (List.mem_of_mem_take hv),hS.lv⟩,λv hv=>hS.st v (List.mem_of_mem_drop hv),rfl,rfl,rfl⟩
theorem xT{p:Int}{l:List Vl}{S S1:WS}(h:bU p l S= .ok S1):(S.st++l).length<=32/\S1={S with st:=S.st++l,ht:=aQ S.ht ((S.st++l).length:Nat)}:=by
 unfold bU at h
 split at h
 ·rename_i h1;cases h;exact⟨h1,rfl⟩
 ·cases h
theorem xS{n:Nat}{p:Int}{l:List Vl}{S S1:WS}(h:bU p l S= .ok S1)(hS:WF n S)(hl:∀v ∈ l,cN v.2):WF n S1/\S1.loc=S.loc/\S1.lv=S.lv/\S1.lp=S.lp:=by
 obtain⟨_,rfl⟩:=xT h
 exact⟨⟨hS.loc,λv hv=>by rcases List.mem_append.1 hv with h|h;exact hS.st v h;exact hl v h,hS.lv⟩,rfl,rfl,rfl⟩
theorem xr{b b':Bd}{r:Except Er WS}{S:WS}(h:cq b r= .ok (S,b')):r= .ok S/\b'=b:=by
 cases r with
 |error e=>cases h
 |ok S'=>cases h;exact⟨rfl,rfl⟩
theorem zU{la:List (Bool×Int)}{arg p:Int}{v:Vl}{x:Iv}(h:dJ la arg p v= .ok x):cN x:=by
 unfold dJ at h
 split at h
 ·cases h
  split
  ·exact eY
  ·exact⟨by decide,by decide,by decide⟩
 ·cases h
theorem gf(x:Int):0<=IntKind.u32.wrap x/\IntKind.u32.wrap x<=4294967295:=by
 rw[IntKind.wrap_u32];omega
theorem t9{n:Int}(h:0<=n/\n<=4294967295):n<=fN n/\fN n<=4294967295:=by
 unfold fN
 split
 ·omega
 ·rename_i h0
  obtain⟨k,rfl⟩:=Int.eq_ofNat_of_zero_le h.1
  have hk:k≠0:=by omega
  have h1:k<2^(Nat.log2 k+1):=Nat.lt_log2_self
  have h2:2^Nat.log2 k<=k:=Nat.log2_self_le hk
  have h3:Nat.log2 k<32:=(Nat.log2_lt hk).2 (by omega)
  have h4:2^(Nat.log2 k+1)<=2^32:=Nat.pow_le_pow_right (by decide) (by omega)
  have e:((2:Int)^(Nat.log2 (Int.toNat (k:Int))+1))=((2^(Nat.log2 k+1):Nat):Int):=by simp
  rw[e]
  omega
theorem jv{a b:Int}(ha:0<=a)(hb:0<=b):0<=a / b/\a / b<=a:=⟨Int.ediv_nonneg ha hb,Int.ediv_le_self _ ha⟩
theorem jF(k:Nat):(0:Int)<2^k:=by
 have:(0:Int)<2:=by decide
 exact Int.pow_pos this
theorem qK{op:Int}(h:8<=op/\op<=20):op=8\/op=9\/op=10\/op=11\/op=12\/op=13\/op=14\/op=15\/op=16\/op=17\/op=18\/op=19\/op=20:=by omega
theorem kQ{op a b:Int}(h:8<=op/\op<=20)(ha:0<=a/\a<=4294967295)(hb:0<=b/\b<=4294967295)(hz:b=0->op≠11/\op≠12):0<=cC op a b/\cC op a b<=4294967295:=by
 have hd:=jv ha.1 hb.1
 have hd2:=jv ha.1 (Int.le_of_lt (jF (b%32).toNat))
 rcases qK h with rfl|rfl|rfl|rfl|rfl|rfl|rfl|rfl|rfl|rfl|rfl|rfl|rfl
 all_goals simp(config:={decide:=true}) only[cC,if_true,if_false]
 ·exact gf _
 ·exact gf _
 ·exact gf _
 ·omega
 ·have h1:=Int.emod_nonneg a (show b≠0 from λh0=>(hz h0).2 rfl)
  have h2:=Int.emod_lt_of_pos a (show 0<b from by have:=λh0=>(hz h0).2 rfl;omega)
  omega
 ·exact gf _
 ·exact gf _
 ·exact gf _
 ·exact gf _
 ·omega
 ·unfold ja;split<;>omega
 ·unfold aQ;split<;>omega
 ·exact gf _
theorem yp{a b c d:Int}(h0:0<=a)(h1:a<=b)(h2:0<=c)(h3:c<=d):0<=a*c/\a*c<=b*d:=⟨Int.mul_nonneg h0 h2,Int.mul_le_mul h1 h3 h2 (by omega)⟩
theorem qx{l h:Int}(h1: -4294967296<=l)(h2:l<=h)(h3:h<=8589934590):cN (cW l h):=by
 unfold cW
 repeat' split
 all_goals first|exact eY|(refine⟨?_,?_,?_⟩<;>dsimp only<;>omega)
theorem mZ{a b c d:Int}(h0:0<=a)(h1:a<=b)(hc:0<c)(h2:c<=d):0<=a / d/\a / d<=b / c/\b / c<=b:=by
 refine⟨Int.ediv_nonneg h0 (by omega),?_,Int.ediv_le_self _ (by omega)⟩
 have e1:a / d*c<=a / d*d:=Int.mul_le_mul_of_nonneg_left h2 (Int.ediv_nonneg h0 (by omega))
 have e2:a / d*d<=a:=Int.ediv_mul_le a (by omega)
 exact(Int.le_ediv_iff_mul_le hc).2 (by omega)
theorem vi{a b:Nat}(h:a<=b):(2:Int)^a<=2^b:=by
 have:=Nat.pow_le_pow_right (show 0<2 by decide) h
 have e:∀k:Nat,((2:Int)^k)=((2^k:Nat):Int):=λk=>by simp
 rw[e,e]
 omega
theorem BD{op:Int}{x y:Iv}(h:8<=op/\op<=20)(hx:cN x)(hy:cN y)(hz:y.1=0->op≠11/\op≠12):cN (bZ op x y):=by
 obtain⟨a,b⟩:=x
 obtain⟨c,d⟩:=y
 obtain⟨x1,x2,x3⟩:=hx
 obtain⟨y1,y2,y3⟩:=hy
 dsimp only at x1 x2 x3 y1 y2 y3 hz
 have hone:=t9 (n:=aQ b d) (by unfold aQ;split<;>omega)
 rcases qK h with rfl|rfl|rfl|rfl|rfl|rfl|rfl|rfl|rfl|rfl|rfl|rfl|rfl
 all_goals simp(config:={decide:=true}) only[bZ,if_true,if_false]
 ·exact qx (by omega) (by omega) (by omega)
 ·exact qx (by omega) (by omega) (by omega)
 ·split
  ·exact eY
  ·rename_i hq
   have h1:=yp x1 x2 y1 y2
   refine⟨h1.1,h1.2,?_⟩
   by_cases hd:0<d
   ·exact Int.mul_le_of_le_ediv hd (show b<=4294967295 / d by omega)
   ·obtain rfl:d=0:=by omega
    show b*0<=_
    rw[Int.mul_zero];decide
 ·have h1:=mZ x1 x2 (show 0<c from by have:=λh0=>(hz h0).1 rfl;omega) y2
  exact⟨h1.1,h1.2.1,by show b / c<=_;omega⟩
 ·have hc:0<c:=by have:=λh0=>(hz h0).2 rfl;omega
  unfold ja
  split
  ·exact⟨x1,x2,x3⟩
  ·refine⟨?_,?_,?_⟩<;>dsimp only<;>(repeat' split)<;>omega
 ·unfold ja
  refine⟨?_,?_,?_⟩<;>dsimp only<;>(repeat' split)<;>omega
 ·unfold aQ at*
  refine⟨?_,?_,?_⟩<;>dsimp only
  ·split<;>omega
  ·have:=hone.1
   split at this<;>split<;>omega
  ·exact hone.2
 ·exact⟨Int.le_refl _,by have:=hone.1;dsimp only;unfold aQ at*;split at this<;>omega,hone.2⟩
 ·split
  ·exact eY
  ·rename_i hq
   have hp:=jF (c%32).toNat
   have h1:=yp x1 x2 (Int.le_of_lt hp) (Int.le_refl (2^(c%32).toNat))
   exact⟨h1.1,h1.2,Int.mul_le_of_le_ediv hp (show b<=4294967295 / 2^(c%32).toNat by omega)⟩
 ·split
  ·have h1:=mZ (c:=2^c.toNat) (d:=2^d.toNat) x1 x2 (jF _) (vi (by omega))
   exact⟨h1.1,h1.2.1,by show b / 2^c.toNat<=_;omega⟩
  ·split
   ·have h1:=mZ (c:=2^(c%32).toNat) (d:=2^(c%32).toNat) x1 x2 (jF _) (Int.le_refl _)
    exact⟨h1.1,h1.2.1,by show b / 2^(c%32).toNat<=_;omega⟩
   ·exact⟨Int.le_refl _,by dsimp only;omega,x3⟩
 ·unfold ja
  refine⟨?_,?_,?_⟩<;>dsimp only<;>(repeat' split)<;>omega
 ·unfold aQ
  refine⟨?_,?_,?_⟩<;>dsimp only<;>(repeat' split)<;>omega
theorem wU{op:Int}{x y:Iv}(h:8<=op/\op<=20)(hx:cN x)(hy:cN y)(he:(bi op x y).2=0):cN (bi op x y).1:=by
 unfold bi at he ⊢
 split
 ·rename_i h1
  rw[if_pos h1] at he
  exact absurd he (by decide)
 ·rename_i h1
  have hz:y.1=0->op≠11/\op≠12:=λh0=>⟨λe=>h1 ⟨h0,.inl e⟩,λe=>h1 ⟨h0,.inr e⟩⟩
  split
  ·have:=kQ h (a:=x.1) (b:=y.1) (by have:=hx.2;omega) (by have:=hy.2;omega) hz
   exact⟨this.1,Int.le_refl _,this.2⟩
  ·exact BD h hx hy hz
theorem sD{op:Int}(h:¬(8<=op/\op<=20))(x y:Iv):cN (bZ op x y):=by
 unfold bZ
 rw[if_neg (by omega),if_neg (by omega),if_neg (by omega),if_neg (by omega),if_neg (by omega),if_neg (by omega),if_neg (by omega),if_neg (by omega),if_neg (by omega),if_neg (by omega),if_neg (by omega),if_neg (by omega)]
 exact eY
theorem rP{op:Int}(h:¬(8<=op/\op<=20))(a b:Int):0<=cC op a b/\cC op a b<=4294967295:=by
 unfold cC
 rw[if_neg (by omega),if_neg (by omega),if_neg (by omega),if_neg (by omega),if_neg (by omega),if_neg (by omega),if_neg (by omega),if_neg (by omega),if_neg (by omega),if_neg (by omega),if_neg (by omega),if_neg (by omega)]
 exact gf _
theorem tD{op:Int}{x y:Iv}(hx:cN x)(hy:cN y)(he:(bi op x y).2=0):cN (bi op x y).1:=by
 by_cases h:8<=op/\op<=20
 ·exact wU h hx hy he
 ·unfold bi
  rw[if_neg (by omega)]
  split
  ·have:=rP h x.1 y.1
   exact⟨this.1,Int.le_refl _,this.2⟩
  ·exact sD h x y
def kU(cs:List (Int×Int)):Prop:=∀k,0<=(cs.getD k (0,0)).2/\(cs.getD k (0,0)).2<=4294967295
theorem cF.k{cs:List (Int×Int)}(h:cF cs):kU cs:=λk=>by
 rw[List.getD_eq_getElem?_getD]
 cases hk:cs[k]? with
 |none=>exact⟨by decide,by decide⟩
 |some x=>have:=h x (List.mem_of_getElem? hk);exact⟨this.1,by show x.2<=_;omega⟩
def JI(i:Nat)(x:Iv)(S:WS):Prop:=S.loc.getD i (0,0)=x/\∀l ∈ S.lv,l.getD i (0,0)=x
structure fG(cs:List (Int×Int))(n a b:Nat)(S S':WS):Prop where
 wf:WF n S'
 keep:∀i x,i<n->cN x->stoF cs a (b-a) i=false->JI i x S->JI i x S'
theorem fG.refl{cs:List (Int×Int)}{n a b:Nat}{S:WS}(h:WF n S):fG cs n a b S S:=⟨h,λ_ _ _ _ _ h=>h⟩
theorem fG.trans{cs:List (Int×Int)}{n a b c:Nat}{S S1 S2:WS}(h:fG cs n a b S S1)(h':fG cs n b c S1 S2)(h1:a<=b)(h2:b<=c):fG cs n a c S S2:=
 ⟨h'.wf,λi x hi hx hs hj=>h'.keep i x hi hx (cy hs h1 (by omega)) (h.keep i x hi hx (cy hs (Nat.le_refl _) (by omega)) hj)⟩
theorem fG.sub{cs:List (Int×Int)}{n a b a' b':Nat}{S S1:WS}(h:fG cs n a b S S1)(h1:a'<=a)(h2:b<=b')(h3:a<=b):fG cs n a' b' S S1:=
 ⟨h.wf,λi x hi hx hs hj=>h.keep i x hi hx (cy hs h1 (by omega)) hj⟩
theorem Bx{n:Nat}{l:List Iv}(h:si n l)(i:Nat){x:Iv}(hx:cN x):si n (l.set i x):=⟨by rw[List.length_set];exact h.1,λy hy=>by
 rcases List.mem_or_eq_of_mem_set hy with hy|rfl
 ·exact h.2 y hy
 ·exact hx⟩
theorem kt:jd (1,0):=⟨⟨by decide,by decide⟩,by decide,by decide⟩
theorem b11:jd (1,1):=⟨⟨by decide,by decide⟩,by decide,by decide⟩
theorem jB:jd (0,0):=⟨⟨by decide,by decide⟩,by decide,by decide⟩
theorem jd.nn{b:Bd}(h:jd b):0<=b.1/\0<=b.2:=⟨h.1.1,h.2.1⟩
theorem Wg:cN (0,1):=⟨by decide,by decide,by decide⟩
theorem oh:cN (0,0):=⟨by decide,by decide,by decide⟩
theorem kT{la:List (Bool×Int)}{n:Nat}{op arg p:Int}{l:List Vl}{S S':WS}{b:Bd}(h:b6 la op arg p l S= .ok (S',b))(ha:0<=arg/\arg<=4294967295)(hl:∀v ∈ l,cN v.2)(hS:WF n S):
  WF n S'/\jd b/\S'.lv=S.lv/\S'.lp=S.lp/\(S'.loc=S.loc\/(op=2/\∃x,S'.loc=S.loc.set arg.toNat x)):=by
 have push:∀(l:List Vl) (b0:Bd),(∀v ∈ l,cN v.2)->jd b0->cq b0 (bU p l S)= .ok (S',b)->WF n S'/\jd b/\S'.lv=S.lv/\S'.lp=S.lp/\(S'.loc=S.loc\/(op=2/\∃x,S'.loc=S.loc.set arg.toNat x)):=λl b0 h1 h2 h3=>by
  obtain⟨k1,rfl⟩:=xr h3
  obtain⟨k2,k3,k4,k5⟩:=xS k1 hS h1
  exact⟨k2,h2,k4,k5,.inl k3⟩
 have one:∀(v:Vl),cN v.2->∀w ∈ [v],cN w.2:=λv hv w hw=>by rw[List.mem_singleton.1 hw];exact hv
 have two:∀(v u:Vl),cN v.2->cN u.2->∀w ∈ [v,u],cN w.2:=λv u hv hu w hw=>by
  rcases List.mem_cons.1 hw with rfl|hw
  ·exact hv
  ·rw[List.mem_singleton.1 hw];exact hu
 have g0:=dB hl 0
 have g1:=dB hl 1
 unfold b6 at h
 by_cases c:op=0
 ·rw[if_pos c] at h
  exact push _ _ (one _ ⟨ha.1,Int.le_refl _,ha.2⟩) kt h
 rw[if_neg c] at h;clear c
 by_cases c:op=1
 ·rw[if_pos c] at h
  exact push _ _ (one _ (rm hS.loc.2 _)) kt h
 rw[if_neg c] at h;clear c
 by_cases c:op=2
 ·rw[if_pos c] at h
  cases h
  exact⟨⟨Bx hS.loc _ g0,hS.st,hS.lv⟩,kt,rfl,rfl,.inr ⟨c,_,rfl⟩⟩
 rw[if_neg c] at h;clear c
 by_cases c:op=3
 ·rw[if_pos c] at h
  cases he:dJ la arg p (l.getD 0 v0) with
  |error e=>rw[he] at h;cases h
  |ok x=>rw[he] at h;exact push _ _ (one _ (zU he)) kt h
 rw[if_neg c] at h;clear c
 by_cases c:op=4
 ·rw[if_pos c] at h
  cases he:dJ la arg p (l.getD 0 v0) with
  |error e=>rw[he] at h;cases h
  |ok x=>rw[he] at h;cases h;exact⟨hS,kt,rfl,rfl,.inl rfl⟩
 rw[if_neg c] at h;clear c
 by_cases c:op=5
 ·rw[if_pos c] at h
  exact push _ _ (two _ _ g0 g0) kt h
 rw[if_neg c] at h;clear c
 by_cases c:op=7
 ·rw[if_pos c] at h
  exact push _ _ (two _ _ g1 g0) kt h
 rw[if_neg c] at h;clear c
 by_cases c:op=6\/op=35
 ·rw[if_pos c] at h
  cases h;exact⟨hS,kt,rfl,rfl,.inl rfl⟩
 rw[if_neg c] at h;clear c
 by_cases c:op=34
 ·rw[if_pos c] at h
  cases h;exact⟨hS,b11,rfl,rfl,.inl rfl⟩
 rw[if_neg c] at h;clear c
 by_cases c:op=32
 ·rw[if_pos c] at h
  exact push _ _ (one _ eY) kt h
 rw[if_neg c] at h;clear c
 by_cases c:op=26
 ·rw[if_pos c] at h
  exact push _ _ (one _ Wg) kt h
 rw[if_neg c] at h;clear c
 by_cases c:(fg op).2=[116]
 ·rw[if_pos c] at h
  exact push _ _ (one _ oh) kt h
 rw[if_neg c] at h;clear c
 by_cases c:(bi op (l.getD 0 v0).2 (l.getD 1 v0).2).2=0
 ·rw[if_pos c] at h
  exact push _ _ (one _ (tD g0 g1 c)) kt h
 ·rw[if_neg c] at h;cases h
theorem iP{cs:List (Int×Int)}{la:List (Bool×Int)}{n base loop p:Nat}{S S':WS}{b:Bd}(h:fC cs la base loop p S= .ok (S',b))(ha:kU cs)(hS:WF n S):fG cs n p (p+1) S S'/\jd b:=by
 unfold fC at h
 split at h
 ·split at h
  ·cases h
  ·rename_i l S1 hp
   obtain⟨k1,k2,k3,k4,k5⟩:=b8 hp hS
   split at h
   ·cases h
    refine⟨⟨⟨k1.loc,k1.st,λl hl=>?_⟩,λi x hi hx hs hj=>⟨by rw[<-hj.1,<-k3],λl hl=>?_⟩⟩,kt⟩
    ·rcases List.mem_append.1 hl with hl|hl
     ·exact k1.lv l hl
     ·rw[List.mem_singleton.1 hl];exact k1.loc
    ·rcases List.mem_append.1 hl with hl|hl
     ·exact hj.2 l (k4 ▸ hl)
     ·rw[List.mem_singleton.1 hl,k3];exact hj.1
   ·cases h
 ·rename_i h30
  unfold dR at h
  split at h
  ·cases h
  ·rename_i l S1 hp
   obtain⟨k1,k2,k3,k4,k5⟩:=b8 hp hS
   obtain⟨m1,m2,m3,m4,m5⟩:=kT h (ha p) k2 k1
   refine⟨⟨m1,λi x hi hx hs hj=>⟨?_,λl hl=>hj.2 l (by rw[<-k4,<-m3];exact hl)⟩⟩,m2⟩
   rcases m5 with m5|⟨m5,y,m6⟩
   ·rw[m5,k3];exact hj.1
   ·rw[m6,k3]
    have hne:(cs.getD p (0,0)).2.toNat≠i:=λe=>by
     have:stoF cs p (p+1-p) i=true:=(jI cs i p _).2 ⟨p,Nat.le_refl _,by omega,by
      have h1:(cs.getD p (0,0)).1=2:=m5
      have h2:(cs.getD p (0,0)).2=(i:Int):=by have:=(ha p).1;omega
      rw[<-h1,<-h2]⟩
     rw[hs] at this;cases this
    rw[List.getD_eq_getElem?_getD,List.getElem?_set_ne hne,<-List.getD_eq_getElem?_getD]
    exact hj.1
theorem gj{cs:List (Int×Int)}{la:List (Bool×Int)}{n base loop:Nat}(ha:kU cs):∀(k p:Nat) {S S':WS} {b b':Bd},ic cs la base loop k p S b= .ok (S',b')->WF n S->jd b->fG cs n p (p+k) S S'/\jd b'
 |0,p,S,S',b,b',h,hS,hb=>by cases h;exact⟨.refl hS,hb⟩
 |k+1,p,S,S',b,b',h,hS,hb=>by
  rw[ic] at h
  split at h
  ·cases h
  ·rename_i S1 x hs
   obtain⟨k1,k2⟩:=iP hs ha hS
   obtain⟨m1,m2⟩:=gj ha k (p+1) h k1.wf (ba hb.nn k2.nn)
   rw[show p+1+k=p+(k+1) by omega] at m1
   exact⟨k1.trans m1 (by omega) (by omega),m2⟩
theorem aN.lastB{cs:List (Int×Int)}{out:List Int}:∀{o:Fo} {a b:Nat},aN cs out o a b->o.lastB a=b
 |.nil,a,b,h=>h
 |.pl x y r,a,b,h=>by
  obtain⟨_,_,_,_,h4⟩:=h
  exact h4.lastB
 |.br op x y u v r,a,b,h=>by
  obtain⟨_,_,_,_,h4⟩:=h
  exact h4.lastB
theorem rn{n:Nat}{l:List Iv}(h:si n l)(i:Nat):cN (l.getD i (0,0)):=rm h.2 i
theorem pC{n i:Nat}{x:Iv}{l m:List Iv}(hl:l.length=n)(hi:i<n)(hx:cN x)(h1:l.getD i (0,0)=x)(h2:m.getD i (0,0)=x):(bL l m).getD i (0,0)=x:=by
 rw[iW l m i (by omega),h1,h2,ox hx]
theorem uA{n i:Nat}{x:Iv}(hi:i<n)(hx:cN x):∀(ls:List (List Iv)) (h:List Iv),h.length=n->h.getD i (0,0)=x->(∀l ∈ ls,l.getD i (0,0)=x)->(ls.foldl bL h).getD i (0,0)=x
 |[],h,_,h1,_=>h1
 |l::ls,h,hl,h1,h2=>uA hi hx ls _ ((eR h l).trans hl) (pC hl hi hx h1 (h2 l (List.mem_cons_self ..))) λk hk=>h2 k (List.mem_cons_of_mem _ hk)
def iK(cs:List (Int×Int))(n a b:Nat)(body:WS->Option (Except Er (WS×Bd))):Prop:=∀S S' bd,body S=some (.ok (S',bd))->WF n S->fG cs n a b S S'/\jd bd
theorem fL{cs:List (Int×Int)}{n a b x0 to h:Nat}{body:WS->Option (Except Er (WS×Bd))}(hB:iK cs n a b body)(ha:x0<=a)(hb:a<=b)(hto:b<=to):∀(f:Nat) (pass:Int) (head:List Iv) {S S':WS} {hd:List Iv} {bd:Bd},gL body to h (stoF cs x0 (to-x0)) f pass head S=some (.ok (hd,S',bd))->WF n S->si n head->
  WF n S'/\si n hd/\jd bd/\S'.st.length=h/\∀i x,i<n->cN x->stoF cs x0 (to-x0) i=false->head.getD i (0,0)=x->hd.getD i (0,0)=x/\JI i x S'
 |0,pass,head,S,S',hd,bd,hr,_,_=>by cases hr
 |f+1,pass,head,S,S',hd,bd,hr,hS,hh=>by
  rw[gL] at hr
  split at hr
  ·cases hr
  ·cases hr
  ·rename_i S1 b1 hb1
   have hS0:WF n {S with loc:=head,lv:=[]}:=⟨hh,hS.st,λl hl=>by cases hl⟩
   obtain⟨k1,k2⟩:=hB _ _ _ hb1 hS0
   have hk:∀i x,i<n->cN x->stoF cs x0 (to-x0) i=false->head.getD i (0,0)=x->JI i x S1:=λi x hi hx hs hj=>
    k1.keep i x hi hx (cy hs ha (by omega)) ⟨hj,λl hl=>by cases hl⟩
   split at hr
   ·rename_i hlen
    split at hr
    ·cases hr
     exact⟨k1.wf,hh,k2,hlen,λi x hi hx hs hj=>⟨hj,hk i x hi hx hs hj⟩⟩
    ·obtain⟨m1,m2,m3,m4,m5⟩:=fL hB ha hb hto f (pass+1) _ hr k1.wf (gB hh _ _ _ _)
     refine⟨m1,m2,m3,m4,λi x hi hx hs hj=>m5 i x hi hx hs ?_⟩
     rw[gA _ _ _ _ _ _ (by rw[hh.1];exact hi),hj,(hk i x hi hx hs hj).1,ox hx,sq hx,Nat.zero_add,hs]
     split<;>rfl
   ·cases hr
theorem aP{cs:List (Int×Int)}{la:List (Bool×Int)}{out:List Int}{n:Nat}(ha:kU cs):∀(o:Fo) (a b base loop:Nat) {S S':WS} {bd bd':Bd},aN cs out o a b->aR cs la o base loop S bd=some (.ok (S',bd'))->WF n S->jd bd->fG cs n a b S S'/\jd bd'
 |.nil,a,b,base,loop,S,S',bd,bd',hg,h,hS,hb=>by cases h;exact⟨.refl hS,hb⟩
 |.pl x y r,a,b,base,loop,S,S',bd,bd',hg,h,hS,hb=>by
  obtain⟨rfl,h1,_,_,h4⟩:=hg
  rw[aR] at h
  split at h
  ·cases h
  ·rename_i S1 b1 hr
   obtain⟨k1,k2⟩:=gj ha _ _ hr hS hb
   rw[show x+(y-x)=y by omega] at k1
   obtain⟨m1,m2⟩:=aP ha r y b base loop h4 h k1.wf k2
   exact⟨k1.trans m1 (by omega) h4.le,m2⟩
 |.br op x y u v r,a,b,base,loop,S,S',bd,bd',hg,h,hS,hb=>by
  obtain⟨rfl,hop,hopv,⟨m,g1,g2,g3,g4,g5⟩,h4⟩:=hg
  have hle:=h4.le
  have hul:=g4.le
  have hmy:m<y:=by rcases g5 with⟨_,e,_,q2,_,_,q5⟩|⟨_,_,q2⟩<;>omega
  rw[aR,g4.lastB] at h
  split at h
  ·rename_i h27
   split at h
   ·cases h
   ·rename_i l S1 hp
    obtain⟨k1,k2,k3,k4,k5⟩:=b8 hp hS
    split at h
    ·cases h
    ·cases h
    ·rename_i S2 bx hu
     obtain⟨m1,m2⟩:=aP ha u (x+1) m _ loop g4 hu k1 jB
     split at h
     rotate_left
     ·cases h
     split at h
     ·rename_i h28
      rcases g5 with⟨_,e,q1,q2,q3,q4,q5⟩|⟨q0,_,_⟩
      rotate_left
      ·exact absurd h28 q0
      split at h
      ·cases h
      ·cases h
      ·rename_i S4 by_ hv
       have hS3:WF n {S2 with loc:=S1.loc}:=⟨k1.loc,m1.wf.st,m1.wf.lv⟩
       obtain⟨n1,n2⟩:=aP ha v (m+1) e _ loop q4 hv hS3 jB
       split at h
       rotate_left
       ·cases h
       have hS5:WF n {S4 with loc:=bL S2.loc S4.loc}:=⟨dV m1.wf.loc.1 _,n1.wf.st,n1.wf.lv⟩
       have hbd:jd (bw bd (bw (aQ bx.1 by_.1,aQ bx.2 by_.2) (1,0))):=ba hb.nn (ba (by have:=m2.nn;have:=n2.nn;unfold aQ;dsimp only;constructor<;>split<;>omega) kt.nn).nn
       obtain⟨t1,t2⟩:=aP ha r y b base loop h4 h hS5 hbd
       refine⟨⟨t1.wf,λi z hi hz hs hj=>t1.keep i z hi hz (cy hs (by omega) (by omega)) ?_⟩,t2⟩
       have j1:JI i z S1:=⟨by rw[k3];exact hj.1,by rw[k4];exact hj.2⟩
       have j2:=m1.keep i z hi hz (cy hs (by omega) (by omega)) j1
       have j4:=n1.keep i z hi hz (cy hs (by omega) (by omega)) (show JI i z {S2 with loc:=S1.loc} from⟨j1.1,j2.2⟩)
       exact⟨pC m1.wf.loc.1 hi hz j2.1 j4.1,j4.2⟩
     ·have hS5:WF n {S2 with loc:=bL S2.loc S1.loc}:=⟨dV m1.wf.loc.1 _,m1.wf.st,m1.wf.lv⟩
      have hbd:jd (bw bd (bw (aQ bx.1 0,aQ bx.2 0) (1,0))):=ba hb.nn (ba (by have:=m2.nn;unfold aQ;dsimp only;constructor<;>split<;>omega) kt.nn).nn
      obtain⟨t1,t2⟩:=aP ha r y b base loop h4 h hS5 hbd
      refine⟨⟨t1.wf,λi z hi hz hs hj=>t1.keep i z hi hz (cy hs (by omega) (by omega)) ?_⟩,t2⟩
      have j1:JI i z S1:=⟨by rw[k3];exact hj.1,by rw[k4];exact hj.2⟩
      have j2:=m1.keep i z hi hz (cy hs (by omega) (by omega)) j1
      exact⟨pC m1.wf.loc.1 hi hz j2.1 j1.1,j2.2⟩
  ·split at h
   ·cases h
   ·rename_i l S1 hp
    obtain⟨k1,k2,k3,k4,k5⟩:=b8 hp hS
    have hmo:=dB k2 0
    split at h
    rotate_left
    ·cases h
    split at h
    ·cases h
    ·cases h
    ·rename_i head S2 bx hr
     have hB:iK cs n (x+1) m (λS'=>aR cs la u S1.st.length S1.st.length S' (0,0)):=λS3 S4 b4 h3 h5=>aP ha u (x+1) m _ _ g4 h3 h5 jB
     obtain⟨m1,m2,m3,m4,m5⟩:=fL hB (by omega) hul (Nat.le_refl _) 6 1 S1.loc hr k1 k1.loc
     have hS5:WF n {S2 with loc:=S2.lv.foldl bL head,lv:=S1.lv,lp:=fP S2.lp x (l.getD 0 v0).2.2}:=⟨iA _ _ m2,m1.st,k1.lv⟩
     have hbd:jd (bw bd (bw (fB bx (l.getD 0 v0).2.2) (1,0))):=ba hb.nn (ba (iM m3 (by omega)).nn kt.nn).nn
     obtain⟨t1,t2⟩:=aP ha r y b base loop h4 h hS5 hbd
     refine⟨⟨t1.wf,λi z hi hz hs hj=>t1.keep i z hi hz (cy hs (by omega) (by omega)) ?_⟩,t2⟩
     obtain⟨j1,j2⟩:=m5 i z hi hz (cy hs (by omega) (by omega)) (by rw[k3];exact hj.1)
     exact⟨uA hi hz _ _ m2.1 j1 j2.2,by show ∀l ∈ S1.lv,_;rw[k4];exact hj.2⟩
/-! ### it ends-/
theorem vf{n:Nat}{sto:Nat->Bool}{head m:List Iv}(hh:si n head){pass:Int}(hp:¬pass<3)(i:Nat)(hi:i<n):(dY sto pass 0 head m).getD i (0,0)=if sto i=true then(0,4294967295) else head.getD i (0,0):=by
 rw[gA _ _ _ _ _ _ (by rw[hh.1];exact hi),if_neg hp,Nat.zero_add]
theorem kA{cs:List (Int×Int)}{n a b x0 to h:Nat}{body:WS->Option (Except Er (WS×Bd))}(hB:iK cs n a b body)(hT:∀S,WF n S->∃r,body S=some r)(ha:x0<=a)(hb:a<=b)(hto:b<=to):∀(f:Nat) (pass:Int) (head:List Iv) (S:WS),WF n S->si n head->(4<=pass->∀i,i<n->stoF cs x0 (to-x0) i=true->head.getD i (0,0)=(0,4294967295))->5<=pass+f->1<=f->∃r,gL body to h (stoF cs x0 (to-x0)) f pass head S=some r
 |0,pass,head,S,_,_,_,_,hf=>by omega
 |f+1,pass,head,S,hS,hh,h4,h5,_=>by
  rw[gL]
  have hS0:WF n {S with loc:=head,lv:=[]}:=⟨hh,hS.st,λl hl=>by cases hl⟩
  obtain⟨r,hr⟩:=hT _ hS0
  rw[hr]
  cases r with
  |error e=>exact⟨_,rfl⟩
  |ok q=>
   obtain⟨S1,b1⟩:=q
   obtain⟨k1,k2⟩:=hB _ _ _ hr hS0
   dsimp only
   by_cases hl:S1.st.length=h
   rotate_left
   ·rw[if_neg hl];exact⟨_,rfl⟩
   rw[if_pos hl]
   by_cases hw:b7 S1.loc head=true
   ·rw[if_pos hw];exact⟨_,rfl⟩
   rw[if_neg hw]
   have hp:pass<4:=by
    by_cases hp0:pass<4
    ·exact hp0
    ·have hp:4<=pass:=by omega
     refine absurd (lW (n:=n) (by rw[k1.wf.loc.1,hh.1]) λi hi=>?_) hw
     rw[k1.wf.loc.1] at hi
     cases hs:stoF cs x0 (to-x0) i with
     |true=>rw[h4 hp i hi hs];exact qi (rn k1.wf.loc i)
     |false=>
      have hx:=rn hh i
      have j:=k1.keep i (head.getD i (0,0)) hi hx (cy hs ha (by omega)) ⟨rfl,λl hl=>by cases hl⟩
      rw[j.1]
      exact qh hx
   refine kA hB hT ha hb hto f (pass+1) _ S1 k1.wf (gB hh _ _ _ _) (λhp4 i hi hs=>?_) (by omega) (by omega)
   rw[vf hh (by omega) i hi,if_pos hs]
theorem bR{cs:List (Int×Int)}{la:List (Bool×Int)}{out:List Int}{n:Nat}(ha:kU cs):∀(o:Fo) (a b base loop:Nat) (S:WS) (bd:Bd),aN cs out o a b->WF n S->jd bd->∃r,aR cs la o base loop S bd=some r
 |.nil,a,b,base,loop,S,bd,hg,hS,hb=>⟨_,rfl⟩
 |.pl x y r,a,b,base,loop,S,bd,hg,hS,hb=>by
  obtain⟨rfl,h1,_,_,h4⟩:=hg
  rw[aR]
  split
  ·exact⟨_,rfl⟩
  ·rename_i S1 b1 hr
   obtain⟨k1,k2⟩:=gj ha _ _ hr hS hb
   exact bR ha r y b base loop S1 b1 h4 k1.wf k2
 |.br op x y u v r,a,b,base,loop,S,bd,hg,hS,hb=>by
  obtain⟨rfl,hop,hopv,⟨m,g1,g2,g3,g4,g5⟩,h4⟩:=hg
  have hle:=h4.le
  have hul:=g4.le
  have hmy:m<y:=by rcases g5 with⟨_,e,_,q2,_,_,q5⟩|⟨_,_,q2⟩<;>omega
  rw[aR,g4.lastB]
  split
  ·split
   ·exact⟨_,rfl⟩
   ·rename_i l S1 hp
    obtain⟨k1,k2,k3,k4,k5⟩:=b8 hp hS
    obtain⟨ru,hu⟩:=bR ha u (x+1) m S1.st.length loop S1 (0,0) g4 k1 jB
    rw[hu]
    cases ru with
    |error e=>exact⟨_,rfl⟩
    |ok q=>
     obtain⟨S2,bx⟩:=q
     obtain⟨m1,m2⟩:=aP ha u (x+1) m _ loop g4 hu k1 jB
     dsimp only
     split
     rotate_left
     ·exact⟨_,rfl⟩
     split
     ·rename_i h28
      rcases g5 with⟨_,e,q1,q2,q3,q4,q5⟩|⟨q0,_,_⟩
      rotate_left
      ·exact absurd h28 q0
      have hS3:WF n {S2 with loc:=S1.loc}:=⟨k1.loc,m1.wf.st,m1.wf.lv⟩
      obtain⟨rv,hv⟩:=bR ha v (m+1) e S1.st.length loop _ (0,0) q4 hS3 jB
      rw[hv]
      cases rv with
      |error e=>exact⟨_,rfl⟩
      |ok q=>
       obtain⟨S4,by_⟩:=q
       obtain⟨n1,n2⟩:=aP ha v (m+1) e _ loop q4 hv hS3 jB
       dsimp only
       split
       rotate_left
       ·exact⟨_,rfl⟩
       exact bR ha r y b base loop _ _ h4 ⟨dV m1.wf.loc.1 _,n1.wf.st,n1.wf.lv⟩ (ba hb.nn (ba (by have:=m2.nn;have:=n2.nn;unfold aQ;dsimp only;constructor<;>split<;>omega) kt.nn).nn)
     ·exact bR ha r y b base loop _ _ h4 ⟨dV m1.wf.loc.1 _,m1.wf.st,m1.wf.lv⟩ (ba hb.nn (ba (by have:=m2.nn;unfold aQ;dsimp only;constructor<;>split<;>omega) kt.nn).nn)
  ·split
   ·exact⟨_,rfl⟩
   ·rename_i l S1 hp
    obtain⟨k1,k2,k3,k4,k5⟩:=b8 hp hS
    have hmo:=dB k2 0
    split
    rotate_left
    ·exact⟨_,rfl⟩
    have hB:iK cs n (x+1) m (λS'=>aR cs la u S1.st.length S1.st.length S' (0,0)):=λS3 S4 b4 h3 h5=>aP ha u (x+1) m _ _ g4 h3 h5 jB
    obtain⟨rr,hr⟩:=kA (h:=S1.st.length) hB (λS' hS'=>bR ha u (x+1) m _ _ S' (0,0) g4 hS' jB) (show x<=x+1 by omega) hul (Nat.le_refl m) 6 1 S1.loc S1 k1 k1.loc (λh=>by omega) (by omega) (by omega)
    rw[hr]
    cases rr with
    |error e=>exact⟨_,rfl⟩
    |ok q=>
     obtain⟨head,S2,bx⟩:=q
     obtain⟨m1,m2,m3,m4,m5⟩:=fL hB (by omega) hul (Nat.le_refl _) 6 1 S1.loc hr k1 k1.loc
     exact bR ha r y b base loop _ _ h4 ⟨iA _ _ m2,m1.st,k1.lv⟩ (ba hb.nn (ba (iM m3 (by omega)).nn kt.nn).nn)
abbrev ep:=Int×Int×AV
def lI:ep:=(0,0,.ow)
theorem oI:AV.ow.cells=[.ow]:=rfl
theorem ua:AV.ow.one=true:=rfl
def Kr(a:AV):Prop:=a= .ow\/∃n r,a= .fs 2 n r
def tH(l:List ep):Prop:=∀x ∈ l,Kr x.2.2
def vI(l:List ep)(i j:Nat):AV:=if j=0 then .n .i64 (l.getD i lI).1 else if j=1 then .n .i64 (l.getD i lI).2.1 else(l.getD i lI).2.2
theorem vI0(l:List ep)(i:Nat):vI l i 0= .n .i64 (l.getD i lI).1:=rfl
theorem vI1(l:List ep)(i:Nat):vI l i 1= .n .i64 (l.getD i lI).2.1:=rfl
def jL(s e h:Int)(l:List ep):AV:= .agg [.n .i64 s,.n .i64 e,.n .i64 h,.fs 3 l.length (vI l)]
def aZ:List ep->Int->Int
 |[],_=>0
 |x::l,a=>if x.1=a then x.2.1 else aZ l a
def eN(cs:List (Int×Int))(r:Nat):AV:= .agg [.fs 2 cs.length (pI cs),.cv (.map (some r))]
theorem tu(cs:List (Int×Int))(r a b:Nat)(hab:a<=b)(hb:b<=100000):bM Tryz.prog 36 [eN cs r,.n .i64 a,.n .i64 b] [.v (.n .i64 ((b-a:Nat):Int))]:=by
 refine ag aD N5 ⟨by simp,by decide⟩ ?_
 simp only[aE,eN]
 have w:IntKind.i64.wrap ((b:Int)-a)=((b-a:Nat):Int):=(aj (by omega)).trans (by omega)
 repeat first|with_reducible refine aq ?_|simp only[w,go_sem,simprocAttr]
 exact aa rfl rfl
def cA(cs:List (Int×Int))(a:Nat):Nat->Nat
 |0=>0
 |n+1=>cA cs a n+if am cs (a+n)=34 then 1 else 0
theorem kh(cs:List (Int×Int))(a:Nat):∀n,cA cs a n<=n
 |0=>Nat.le_refl _
 |n+1=>by
  have:=kh cs a n
  rw[cA]
  split<;>omega
theorem tz(cs:List (Int×Int))(r a b:Nat)(hab:a<=b)(hb:b<=cs.length)(hcs:cs.length<=100000):bM Tryz.prog 37 [eN cs r,.n .i64 a,.n .i64 b] [.v (.n .i64 (cA cs a (b-a):Nat))]:=by
 refine ag aD Ma ⟨by simp,by decide⟩ ?_
 simp only[aE,eN]
 have s1:0<=(a:Int)/\(a:Int)<=b/\(b:Int)<=cs.length:=⟨by omega,by omega,by omega⟩
 repeat first|with_reducible refine aq ?_|simp only[s1,s1.1,s1.2.1,s1.2.2,go_sem,simprocAttr]
 refine GA.loop (I:=λm e H=>∃k:Nat,m=(b-a)-k/\k<=b-a/\e=az [(7,.n .i64 (cA cs a k:Nat)),(14,.fs 2 (b-a) λk=>pI cs (a+k)),(15,.n .i64 ((b-a:Nat):Int)),(16,.n .i64 k)]/\H=ah []) (Wk.mk [] [] ?_ ?_ ?_) ⟨0,rfl,Nat.zero_le _,rfl,rfl⟩ ?_
 ·exact a8
 ·trivial
 ·simp
 rintro m e H ⟨k,rfl,hk,rfl,rfl⟩
 have h0:(0:Int)<=(k:Int):=by omega
 by_cases h:k<b-a
 rotate_left
 ·have h':¬(k:Int)<((b-a:Nat):Int):=by omega
  obtain rfl:k=b-a:=by omega
  repeat first|with_reducible refine aq ?_|simp only[h',decide_false,go_sem,simprocAttr]
  exact aa rfl rfl
 have h':(k:Int)<((b-a:Nat):Int):=by omega
 have wk:IntKind.i64.wrap ((k:Int)+1)=((k+1:Nat):Int):=(aj (by omega)).trans (by omega)
 have hle:=kh cs a k
 by_cases e1:(cs.getD (a+k) (0,0)).1=34
 ·have hs:cA cs a (k+1)=cA cs a k+1:=by rw[cA,if_pos (show am cs (a+k)=34 from e1)]
  have we:IntKind.i64.wrap (((cA cs a k:Nat):Int)+1)=((cA cs a k+1:Nat):Int):=(aj (by omega)).trans (by omega)
  repeat first|with_reducible refine aq ?_|simp only[h',h0,cS,pj,e1,wk,we,decide_true,go_sem,simprocAttr]
  refine⟨_,_,_,?_,Wk.mk [] [] ?_ ?_ ?_,k+1,rfl,by omega,rfl,rfl⟩
  ·omega
  ·rw[hs]
   simp only[eo,cQ,go_sem,simprocAttr]
   repeat' refine aY ?_ ?_
   all_goals first|exact i8|skip
  ·trivial
  ·simp
 ·have hs:cA cs a (k+1)=cA cs a k:=by rw[cA,if_neg (show ¬am cs (a+k)=34 from e1)];rfl
  repeat first|with_reducible refine aq ?_|simp only[h',h0,cS,pj,e1,wk,decide_true,decide_false,go_sem,simprocAttr]
  refine⟨_,_,_,?_,Wk.mk [] [] ?_ ?_ ?_,k+1,rfl,by omega,rfl,rfl⟩
  ·omega
  ·rw[hs]
   simp only[eo,cQ,go_sem,simprocAttr]
   repeat' refine aY ?_ ?_
   all_goals first|exact i8|skip
  ·trivial
  ·simp
def AR:Fo->Prop
 |.nil=>True
 |.pl x y r=>x<=y/\y<=100000/\AR r
 |.br op x y u v r=>(op=27\/op=29)/\AR u/\AR v/\AR r
theorem aN.okf{cs:List (Int×Int)}{out:List Int}:∀{o:Fo} {a b:Nat},aN cs out o a b->b<=100000->AR o
 |.nil,_,_,_,_=>trivial
 |.pl x y r,a,b,h,hb=>by
  obtain⟨h0,h1,_,_,h4⟩:=h
  have:=h4.le
  exact⟨by omega,by omega,h4.okf hb⟩
 |.br op x y u v r,a,b,h,hb=>by
  obtain⟨_,_,h2,⟨m,_,g2,g3,g4,g5⟩,h4⟩:=h
  refine⟨h2,g4.okf (by omega),?_,h4.okf hb⟩
  rcases g5 with⟨_,e,_,_,q3,q4,_⟩|⟨_,q1,_⟩
  ·exact q4.okf (by omega)
  ·rw[q1];trivial
def aO(li:List ep):Fo->Int->Int
 |.nil,n=>n
 |.pl x y r,n=>aO li r (bk (n+(y-x)))
 |.br op x y u v r,n=>aO li r (if op=27 then bk (n+1+(if aO li u 0<aO li v 0 then aO li v 0 else aO li u 0)) else bk (n+1+aU (bk (aO li u 0+1)) (aZ li x)))
theorem bV{li:List ep}(hm:∀a,0<=aZ li a):∀(o:Fo) (n:Int),AR o->0<=n/\n<=281474976710657->0<=aO li o n/\aO li o n<=281474976710657
 |.nil,n,_,h=>h
 |.pl x y r,n,ho,h=>bV hm r _ ho.2.2 (aC (by have:=ho.1;omega))
 |.br op x y u v r,n,ho,h=>by
  have hu:=bV hm u 0 ho.2.1 (by omega)
  have hv:=bV hm v 0 ho.2.2.1 (by omega)
  refine bV hm r _ ho.2.2.2 ?_
  split
  ·refine aC ?_
   split<;>omega
  ·refine aC ?_
   have:=(bz (aC (n:=aO li u 0+1) (by omega)).1 (hm x)).1
   omega
theorem Fo.len_le_size:∀o:Fo,o.len<=o.size
 |.nil=>Nat.le_refl _
 |.pl x y r=>by have:=Fo.len_le_size r;simp only[Fo.len,Fo.size];omega
 |.br op x y u v r=>by have:=Fo.len_le_size r;simp only[Fo.len,Fo.size];omega
theorem aN.size{cs:List (Int×Int)}{out:List Int}:∀{o:Fo} {a b:Nat},aN cs out o a b->a+o.size<=b
 |.nil,a,b,h=>by cases h;exact Nat.le_refl _
 |.pl x y r,a,b,h=>by
  obtain⟨_,h1,_,_,h2⟩:=h
  have:=h2.size
  simp only[Fo.size]
  omega
 |.br op x y u v r,a,b,h=>by
  obtain⟨_,_,_,⟨m,_,h1,_,h4,h2⟩,h3⟩:=h
  have e1:=h3.size
  have e2:=h4.size
  simp only[Fo.size]
  rcases h2 with⟨_,e,_,q2,_,q4,h5⟩|⟨_,q1,h5⟩
  ·have e3:=q4.size
   omega
  ·rw[q1]
   simp only[Fo.size]
   omega
def bJ(li:List ep)(pl:Nat->Nat->Int)(own:Int):Fo->Int->Int
 |.nil,n=>n
 |.pl x y r,n=>bJ li pl own r (bk (n+pl x y))
 |.br op x y u v r,n=>bJ li pl own r (bk (n+(if op=27 then bk (own+(if bJ li pl own u 0<bJ li pl own v 0 then bJ li pl own v 0 else bJ li pl own u 0)) else bk (own+aU (bk (own+bJ li pl own u 0)) (aZ li x)))))
theorem cz{a b:Int}(h:0<=a):bk (a+bk b)=bk (a+b):=by
 unfold bk
 split<;>split<;>(try split)<;>omega
theorem dM{li:List ep}(hm:∀a,0<=aZ li a):∀(o:Fo) (n:Int),AR o->0<=n/\n<=281474976710657->bJ li (λx y=>(y:Int)-x) 1 o n=aO li o n
 |.nil,n,_,_=>rfl
 |.pl x y r,n,ho,h=>by
  rw[bJ,aO]
  exact dM hm r _ ho.2.2 (aC (by have:=ho.1;omega))
 |.br op x y u v r,n,ho,h=>by
  have hu:=bV hm u 0 ho.2.1 (by omega)
  have hv:=bV hm v 0 ho.2.2.1 (by omega)
  rw[bJ,aO,dM hm u 0 ho.2.1 (by omega),dM hm v 0 ho.2.2.1 (by omega)]
  by_cases e:op=27
  ·rw[if_pos e,if_pos e,cz h.1,<-Int.add_assoc]
   refine dM hm r _ ho.2.2.2 (aC ?_)
   split<;>omega
  ·rw[if_neg e,if_neg e,cz h.1,<-Int.add_assoc,Int.add_comm 1 (aO li u 0)]
   refine dM hm r _ ho.2.2.2 (aC ?_)
   have:=(bz (aC (n:=aO li u 0+1) (by omega)).1 (hm x)).1
   omega
def a7(cs:List (Int×Int))(li:List ep):Fo->Int->Int
 |.nil,n=>n
 |.pl x y r,n=>a7 cs li r (bk (n+(cA cs x (y-x):Nat)))
 |.br op x y u v r,n=>a7 cs li r (if op=27 then bk (n+(if a7 cs li u 0<a7 cs li v 0 then a7 cs li v 0 else a7 cs li u 0)) else bk (n+aU (a7 cs li u 0) (aZ li x)))
theorem bW{cs:List (Int×Int)}{li:List ep}(hm:∀a,0<=aZ li a):∀(o:Fo) (n:Int),0<=n/\n<=281474976710657->0<=a7 cs li o n/\a7 cs li o n<=281474976710657
 |.nil,n,h=>h
 |.pl x y r,n,h=>bW hm r _ (aC (by omega))
 |.br op x y u v r,n,h=>by
  have hu:=bW (cs:=cs) hm u 0 (by omega)
  have hv:=bW (cs:=cs) hm v 0 (by omega)
  refine bW hm r _ ?_
  split
  ·refine aC ?_
   split<;>omega
  ·refine aC ?_
   have:=(bz hu.1 (hm x)).1
   omega
theorem pR{n:Int}(h:n<=281474976710657):bk n=n:=by unfold bk;split<;>omega
theorem dN{cs:List (Int×Int)}{li:List ep}(hm:∀a,0<=aZ li a):∀(o:Fo) (n:Int),0<=n/\n<=281474976710657->bJ li (λx y=>(cA cs x (y-x):Nat)) 0 o n=a7 cs li o n
 |.nil,n,_=>rfl
 |.pl x y r,n,h=>by
  rw[bJ,a7]
  exact dN hm r _ (aC (by omega))
 |.br op x y u v r,n,h=>by
  have hu:=bW (cs:=cs) hm u 0 (by omega)
  have hv:=bW (cs:=cs) hm v 0 (by omega)
  rw[bJ,a7,dN hm u 0 (by omega),dN hm v 0 (by omega)]
  by_cases e:op=27
  ·rw[if_pos e,if_pos e,cz h.1,Int.zero_add]
   refine dN hm r _ (aC ?_)
   split<;>omega
  ·rw[if_neg e,if_neg e,cz h.1,Int.zero_add,Int.zero_add,pR hu.2]
   refine dN hm r _ (aC ?_)
   have:=(bz hu.1 (hm x)).1
   omega
theorem fR:∀{li:List ep},(∀x ∈ li,0<=x.2.1/\x.2.1<=65536)->∀a,0<=aZ li a/\aZ li a<=65536
 |[],_,a=>⟨Int.le_refl _,(by decide:(0:Int)<=65536)⟩
 |x::l,h,a=>by
  unfold aZ
  split
  ·exact h x (List.mem_cons_self ..)
  ·exact fR (λy hy=>h y (List.mem_cons_of_mem _ hy)) a
def nF(ls:List Int)(li:List ep):Int:=if ls.length=li.length/\(li.map λx=>x.1)=ls then(if ∀x ∈ li,0<=x.2.1/\x.2.1<=65536 then 0 else 2) else 23
def rU(cs:List (Int×Int)):Fo->Prop
 |.nil=>True
 |.pl x y r=>x<=y/\y<=cs.length/\rU cs r
 |.br op x y u v r=>(op=27\/op=29)/\rU cs u/\rU cs v/\rU cs r
theorem aN.oke{cs:List (Int×Int)}{out:List Int}:∀{o:Fo} {a b:Nat},aN cs out o a b->b<=cs.length->rU cs o
 |.nil,_,_,_,_=>trivial
 |.pl x y r,a,b,h,hb=>by
  obtain⟨h0,h1,_,_,h4⟩:=h
  have:=h4.le
  exact⟨by omega,by omega,h4.oke hb⟩
 |.br op x y u v r,a,b,h,hb=>by
  obtain⟨_,_,h2,⟨m,_,g2,g3,g4,g5⟩,h4⟩:=h
  refine⟨h2,g4.oke (by omega),?_,h4.oke hb⟩
  rcases g5 with⟨_,e,_,_,q3,q4,_⟩|⟨_,q1,_⟩
  ·exact q4.oke (by omega)
  ·rw[q1];trivial
theorem my{p:Int}{base:Nat}{ty:List UInt8}{S S1:WS}{l:List Vl}(h:fe p base ty S= .ok (l,S1)):¬S.st.length<base+ty.length/\l=S.st.drop (S.st.length-ty.length)/\S1={S with st:=S.st.take (S.st.length-ty.length)}:=by
 unfold fe at h
 split at h
 ·cases h
 rename_i a
 split at h
 ·cases h;exact⟨a,rfl,rfl⟩
 ·cases h
structure Sm(p:Nat)(S:WS):Prop where
 st:S.st.length<=32
 ht:0<=S.ht/\S.ht<=32
 lv:S.lv.length<=p
theorem Sm.le{p q:Nat}{S:WS}(h:Sm p S)(hpq:p<=q):Sm q S:=⟨h.st,h.ht,Nat.le_trans h.lv hpq⟩
theorem gn{p:Int}{base q:Nat}{ty:List UInt8}{S S1:WS}{l:List Vl}(h:fe p base ty S= .ok (l,S1))(hS:Sm q S):Sm q S1:=by
 obtain⟨_,_,rfl⟩:=my h
 exact⟨by simp only[List.length_take];have:=hS.st;omega,hS.ht,hS.lv⟩
theorem dx{p:Int}{q:Nat}{S S1:WS}{l:List Vl}(h:bU p l S= .ok S1)(hS:Sm q S):Sm q S1:=by
 unfold bU at h
 split at h
 ·cases h
  rename_i hl
  refine⟨hl,?_,hS.lv⟩
  have:=hS.ht
  show 0<=aQ _ _/\aQ _ _<=32
  unfold aQ
  split<;>omega
 ·cases h
theorem dq{q:Nat}{b0 b:Bd}{S1:WS}{x:Except Er WS}(h:cq b0 x= .ok (S1,b))(hx:∀S,x= .ok S->Sm q S):Sm q S1:=by
 cases x with
 |error e=>cases h
 |ok S=>cases h;exact hx _ rfl
theorem CY{la:List (Bool×Int)}{op arg p:Int}{l:List Vl}{S S':WS}{b:Bd}{q:Nat}(h:b6 la op arg p l S= .ok (S',b))(hS:Sm q S):Sm q S':=by
 unfold b6 at h
 by_cases c:op=0
 ·rw[if_pos c] at h
  exact dq h λ_ h'=>dx h' hS
 rw[if_neg c] at h;clear c
 by_cases c:op=1
 ·rw[if_pos c] at h
  exact dq h λ_ h'=>dx h' hS
 rw[if_neg c] at h;clear c
 by_cases c:op=2
 ·rw[if_pos c] at h
  cases h;exact⟨hS.st,hS.ht,hS.lv⟩
 rw[if_neg c] at h;clear c
 by_cases c:op=3
 ·rw[if_pos c] at h
  cases he:dJ la arg p (l.getD 0 v0) with
  |error e=>rw[he] at h;cases h
  |ok x=>rw[he] at h;exact dq h λ_ h'=>dx h' hS
 rw[if_neg c] at h;clear c
 by_cases c:op=4
 ·rw[if_pos c] at h
  cases he:dJ la arg p (l.getD 0 v0) with
  |error e=>rw[he] at h;cases h
  |ok x=>rw[he] at h;cases h;exact hS
 rw[if_neg c] at h;clear c
 by_cases c:op=5
 ·rw[if_pos c] at h
  exact dq h λ_ h'=>dx h' hS
 rw[if_neg c] at h;clear c
 by_cases c:op=7
 ·rw[if_pos c] at h
  exact dq h λ_ h'=>dx h' hS
 rw[if_neg c] at h;clear c
 by_cases c:op=6\/op=35
 ·rw[if_pos c] at h
  cases h;exact hS
 rw[if_neg c] at h;clear c
 by_cases c:op=34
 ·rw[if_pos c] at h
  cases h;exact hS
 rw[if_neg c] at h;clear c
 by_cases c:op=32
 ·rw[if_pos c] at h
  exact dq h λ_ h'=>dx h' hS
 rw[if_neg c] at h;clear c
 by_cases c:op=26
 ·rw[if_pos c] at h
  exact dq h λ_ h'=>dx h' hS
 rw[if_neg c] at h;clear c
 by_cases c:(fg op).2=[116]
 ·rw[if_pos c] at h
  exact dq h λ_ h'=>dx h' hS
 rw[if_neg c] at h;clear c
 by_cases c:(bi op (l.getD 0 v0).2 (l.getD 1 v0).2).2=0
 ·rw[if_pos c] at h
  exact dq h λ_ h'=>dx h' hS
 ·rw[if_neg c] at h;cases h
theorem oZ{cs:List (Int×Int)}{la:List (Bool×Int)}{base loop p:Nat}{S S':WS}{b:Bd}(h:fC cs la base loop p S= .ok (S',b))(hS:Sm p S):Sm (p+1) S':=by
 unfold fC at h
 split at h
 ·split at h
  ·cases h
  ·rename_i l S1 hp
   have h1:=gn hp hS
   split at h
   ·cases h
    refine⟨h1.st,h1.ht,?_⟩
    simp only[List.length_append,List.length_cons,List.length_nil]
    have:=h1.lv
    omega
   ·cases h
 ·unfold dR at h
  split at h
  ·cases h
  ·rename_i l S1 hp
   exact(CY h (gn hp hS)).le (by omega)
theorem qz{cs:List (Int×Int)}{la:List (Bool×Int)}{base loop:Nat}:∀(n p:Nat) {S S':WS} {b b':Bd},ic cs la base loop n p S b= .ok (S',b')->Sm p S->Sm (p+n) S'
 |0,p,S,S',b,b',h,hS=>by cases h;exact hS
 |n+1,p,S,S',b,b',h,hS=>by
  rw[ic] at h
  split at h
  ·cases h
  ·rename_i S1 x h1
   have:=qz n (p+1) h (oZ h1 hS)
   rwa [show p+1+n=p+(n+1) by omega] at this
theorem tW{body:WS->Option (Except Er (WS×Bd))}{to h a m:Nat}{sto:Nat->Bool}(hB:∀S S' b,body S=some (.ok (S',b))->Sm a S->Sm m S')(hm:∀S,Sm m S->S.lv=[]->Sm a S):∀(f:Nat) (pass:Int) (head:List Iv) {S S':WS} {hd:List Iv} {b:Bd},gL body to h sto f pass head S=some (.ok (hd,S',b))->(S.st.length<=32/\0<=S.ht/\S.ht<=32)->Sm m S'
 |0,pass,head,S,S',hd,b,h,hS=>by cases h
 |f+1,pass,head,S,S',hd,b,h,hS=>by
  rw[gL] at h
  split at h
  ·cases h
  ·cases h
  ·rename_i S1 b1 hb
   have h1:=hB _ _ _ hb ⟨hS.1,hS.2,Nat.zero_le _⟩
   split at h
   ·split at h
    ·cases h;exact h1
    ·exact tW hB hm f _ _ h ⟨h1.st,h1.ht⟩
   ·cases h
theorem ch{cs:List (Int×Int)}{la:List (Bool×Int)}{out:List Int}:∀(o:Fo) (a b base loop:Nat) {S S':WS} {bd bd':Bd},aN cs out o a b->aR cs la o base loop S bd=some (.ok (S',bd'))->Sm a S->Sm b S'
 |.nil,a,b,base,loop,S,S',bd,bd',hg,h,hS=>by cases h;exact hS.le hg.le
 |.pl x y r,a,b,base,loop,S,S',bd,bd',hg,h,hS=>by
  obtain⟨rfl,h1,_,_,h4⟩:=hg
  rw[aR] at h
  split at h
  ·cases h
  ·rename_i S1 b1 hr
   have:=qz _ _ hr hS
   rw[show x+(y-x)=y by omega] at this
   exact ch r y b base loop h4 h this
 |.br op x y u v r,a,b,base,loop,S,S',bd,bd',hg,h,hS=>by
  obtain⟨rfl,hop,hopv,⟨m,g1,g2,g3,g4,g5⟩,h4⟩:=hg
  have hle:=h4.le
  have hul:=g4.le
  have hmy:m<y:=by rcases g5 with⟨_,e,_,q2,_,_,q5⟩|⟨_,_,q2⟩<;>omega
  rw[aR,g4.lastB] at h
  split at h
  ·rename_i h27
   split at h
   ·cases h
   ·rename_i l S1 hp
    have k1:=gn hp hS
    split at h
    ·cases h
    ·cases h
    ·rename_i S2 bx hu
     have m1:=ch u (x+1) m _ loop g4 hu (k1.le (by omega))
     split at h
     rotate_left
     ·cases h
     split at h
     ·rename_i h28
      rcases g5 with⟨_,e,q1,q2,q3,q4,q5⟩|⟨q0,_,_⟩
      rotate_left
      ·exact absurd h28 q0
      split at h
      ·cases h
      ·cases h
      ·rename_i S4 by_ hv
       have n1:=ch v (m+1) e _ loop q4 hv (show Sm (m+1) {S2 with loc:=S1.loc} from⟨m1.st,m1.ht,Nat.le_trans m1.lv (by omega)⟩)
       split at h
       rotate_left
       ·cases h
       exact ch r y b base loop h4 h ⟨n1.st,n1.ht,Nat.le_trans n1.lv (by omega)⟩
     ·exact ch r y b base loop h4 h ⟨m1.st,m1.ht,Nat.le_trans m1.lv (by omega)⟩
  ·split at h
   ·cases h
   ·rename_i l S1 hp
    have k1:=gn hp hS
    split at h
    rotate_left
    ·cases h
    split at h
    ·cases h
    ·cases h
    ·rename_i head S2 bx hr
     have m1:=tW (a:=x+1) (m:=m) (λS3 S4 b4 h3 h5=>ch u (x+1) m _ _ g4 h3 h5) (λS h1 h2=>⟨h1.st,h1.ht,by rw[h2];exact Nat.zero_le _⟩) 6 1 S1.loc hr ⟨k1.st,k1.ht⟩
     exact ch r y b base loop h4 h ⟨m1.st,m1.ht,Nat.le_trans k1.lv (by omega)⟩
def eM(cs:List (Int×Int))(la:List (Bool×Int))(x:Nat)(u v:Fo)(base loop:Nat)(S:WS):Option (Except Er (WS×Bd)):=match fe x base [116] S with
 |.error e=>some (.error e)
 |.ok (_,S1)=>match aR cs la u S1.st.length loop S1 (0,0) with
  |none=>none
  |some (.error e)=>some (.error e)
  |some (.ok (S2,bx))=>
   if S2.st.length=S1.st.length then
    if am cs (u.lastB (x+1))=28 then match aR cs la v S1.st.length loop {S2 with loc:=S1.loc} (0,0) with
     |none=>none
     |some (.error e)=>some (.error e)
     |some (.ok (S4,by_))=>
      if S4.st.length=S1.st.length then some (.ok ({S4 with loc:=bL S2.loc S4.loc},bw (aQ bx.1 by_.1,aQ bx.2 by_.2) (1,0)))
      else some (.error ((v.lastB (u.lastB (x+1)+1):Nat),14))
    else some (.ok ({S2 with loc:=bL S2.loc S1.loc},bw (aQ bx.1 0,aQ bx.2 0) (1,0)))
   else some (.error ((u.lastB (x+1):Nat),14))
def jV(cs:List (Int×Int))(la:List (Bool×Int))(x:Nat)(u:Fo)(base:Nat)(S:WS):Option (Except Er (WS×Bd)):=match fe x base [110] S with
 |.error e=>some (.error e)
 |.ok (l,S1)=>
  if(l.getD 0 v0).2.2<=65536 then match gL (λS'=>aR cs la u S1.st.length S1.st.length S' (0,0)) (u.lastB (x+1)) S1.st.length (stoF cs x (u.lastB (x+1)-x)) 6 1 S1.loc S1 with
   |none=>none
   |some (.error e)=>some (.error e)
   |some (.ok (head,S2,bx))=>some (.ok ({S2 with loc:=S2.lv.foldl bL head,lv:=S1.lv,lp:=fP S2.lp x (l.getD 0 v0).2.2},bw (fB bx (l.getD 0 v0).2.2) (1,0)))
  else some (.error (x,18))
def VF(cs:List (Int×Int))(la:List (Bool×Int))(r:Fo)(base loop:Nat)(b:Bd):Option (Except Er (WS×Bd))->Option (Except Er (WS×Bd))
 |none=>none
 |some (.error e)=>some (.error e)
 |some (.ok (S',z))=>aR cs la r base loop S' (bw b z)
theorem m8{cs:List (Int×Int)}{la:List (Bool×Int)}{op:Int}{x y:Nat}{u v r:Fo}{base loop:Nat}{S:WS}{b:Bd}:aR cs la (.br op x y u v r) base loop S b=VF cs la r base loop b (if op=27 then eM cs la x u v base loop S else jV cs la x u base S):=by
 rw[aR]
 by_cases h:op=27
 ·rw[if_pos h,if_pos h]
  unfold eM
  cases fe x base [116] S with
  |error e=>rfl
  |ok q=>
   obtain⟨l,S1⟩:=q
   dsimp only
   cases aR cs la u S1.st.length loop S1 (0,0) with
   |none=>rfl
   |some q=>
    cases q with
    |error e=>rfl
    |ok q=>
     obtain⟨S2,bx⟩:=q
     dsimp only
     by_cases h1:S2.st.length=S1.st.length
     ·rw[if_pos h1,if_pos h1]
      by_cases h2:am cs (u.lastB (x+1))=28
      ·rw[if_pos h2,if_pos h2]
       cases aR cs la v S1.st.length loop {S2 with loc:=S1.loc} (0,0) with
       |none=>rfl
       |some q=>
        cases q with
        |error e=>rfl
        |ok q=>
         obtain⟨S4,b4⟩:=q
         dsimp only
         by_cases h3:S4.st.length=S1.st.length
         ·rw[if_pos h3,if_pos h3];rfl
         ·rw[if_neg h3,if_neg h3];rfl
      ·rw[if_neg h2,if_neg h2];rfl
     ·rw[if_neg h1,if_neg h1];rfl
 ·rw[if_neg h,if_neg h]
  unfold jV
  cases fe x base [110] S with
  |error e=>rfl
  |ok q=>
   obtain⟨l,S1⟩:=q
   dsimp only
   by_cases h1:(l.getD 0 v0).2.2<=65536
   ·rw[if_pos h1,if_pos h1]
    cases gL (λS'=>aR cs la u S1.st.length S1.st.length S' (0,0)) (u.lastB (x+1)) S1.st.length (stoF cs x (u.lastB (x+1)-x)) 6 1 S1.loc S1 with
    |none=>rfl
    |some q=>
     cases q with
     |error e=>rfl
     |ok q=>rfl
   ·rw[if_neg h1,if_neg h1];rfl
def dz(cs:List (Int×Int)):List Int×Int:=if 1024<cs.length then([],6) else match cR cs with
 |.ok (_,pt)=>(pt,0)
 |.error _=>([],15)
def kr(cs:List (Int×Int))(φ:Fz)(w:World)(e:Ending)(w':World):Prop:=∃(v:Value) (φ':Fz),e= .returned (.tuple #[v,.int .i64 (dz cs).2])/\
 VR (Sg.data φ') (.fs 1 (dz cs).1.length (iC (dz cs).1)) v/\pE φ' w'/\Below w.heap.size w w'/\∀c,c<w.heap.size->φ' c=φ c
def r8(w:World):World:=(w.alloc (Obj.cells #[.int .i64 0] 30)).alloc (Obj.cells #[.int .i64 0] 3)
theorem qk(w:World):(r8 w).heap.size=w.heap.size+2:=by simp[r8]
theorem Db(w:World):(r8 w).heap[w.heap.size]? =some (.cells #[.int .i64 0] 30 (0,0)):=by
 rw[r8,Below.heap_alloc _ _ _ (by simp)]
 exact lQ w _
theorem VE(w:World):(r8 w).heap[w.heap.size+1]? =some (.cells #[.int .i64 0] 3 (0,0)):=by
 have:=lQ (w.alloc (Obj.cells #[.int .i64 0] 30)) (Obj.cells #[.int .i64 0] 3)
 simpa [r8] using this
theorem tM(w:World):Below w.heap.size w (r8 w):=((Below.refl _ _).alloc (by simp) _).alloc (by simp) _
theorem lh{cs:List (Int×Int)}{φ:Fz}{w w2:World}{a n:Int}(hφ:pE φ w)(hb:Below (r8 w).heap.size (r8 w) w2)(hp:dz cs=([],n))(tm:Array Value)(h2:tm[2]? =some (.slice none 0 0))(h3:tm[3]? =some (.pointer (some ⟨w.heap.size,0,none⟩))):
  Leaves Tryz.prog Tryz.f52 tm (kr cs φ w) [{target:= .fn (.func 82) #[],args:= #[.pointer (some ⟨w.heap.size+1,0,none⟩),.pointer (some ⟨w.heap.size,0,none⟩)]}] (.panicking (fF a n)) w2:=by
 have hz:=qk w
 have q1:w2.heap[w.heap.size]? =some (.cells #[.int .i64 0] 30 (0,0)):=by rw[hb.block _ (by omega)];exact Db w
 have q2:w2.heap[w.heap.size+1]? =some (.cells #[.int .i64 0] 3 (0,0)):=by rw[hb.block _ (by omega)];exact VE w
 refine leaves_cons (f:=82) (args:= #[.pointer (some ⟨w.heap.size+1,0,none⟩),.pointer (some ⟨w.heap.size,0,none⟩)]) (by simp) (by simp[go_sem]) ?_
 refine(fK (w.heap.size+1) w.heap.size 0 0 a n [] w2 q2 q1 (by omega) (by omega)).mono ?_
 rintro e u' w3 ⟨rfl,rfl,b1,b2,b3,ho3,ht3,hp3,hs3⟩
 have hsz:=hb.size
 have hB:=tM w
 have y2:w3.cell? ⟨w.heap.size,0,none⟩=some (.int .i64 n):=by simp[World.cell?,b2]
 have hbl:∀k,k<w.heap.size->w3.heap[k]? =w.heap[k]? :=λk hk=>by rw[b3 k (by omega) (by omega) (by omega),hb.block k (by omega),hB.block k hk]
 have hfin:kr cs φ w (.returned (.tuple #[.slice none 0 0,.int .i64 n])) w3:=by
  refine⟨.slice none 0 0,φ,by rw[hp],by rw[hp];exact .fs0 _ _ _ _,iY hφ hbl,⟨ho3.trans (hb.os.trans hB.os),ht3.trans (hb.tape.trans hB.tape),hp3.trans (hb.output.trans hB.output),by omega,hbl⟩,λ_ _=>rfl⟩
 have H:=gW.mk hfin
 clear hfin
 simp[Leaves,settle,results,Tryz.results52,go_sem,y2,h2,h3]
 exact H.out
theorem xX(cs:List (Int×Int))(φ:Fz)(w:World)(u:Value)(hφ:pE φ w)(hu:VR (Sg.data φ) (.fs 2 cs.length (pI cs)) u):Calls Tryz.prog 52 #[u] w (kr cs φ w):=by
 have HU:=gW.mk hu
 have HF:=gW.mk hφ
 clear hu hφ
 go_enter_defers Tryz.func52,Tryz.ntmps52
 go_wp2_with fail
 show Calls _ _ _ (r8 w) _
 have hz:=qk w
 have hB:=tM w
 refine((rL cs).2 (r8 w).heap.size (Sg.data φ) (r8 w) #[u] (HR.empty (r8 w) (iY HF.out λk hk=>hB.block k hk)) ⟨rfl,λi v hv=>?_⟩).mono ?_
 ·cases i with
  |zero=>cases hv;exact HU.out
  |succ i=>simp at hv
 rintro e w2 hp
 cases e with
 |outgrown=>exact hp.elim
 |panicked c=>
  obtain⟨H',σ',⟨hlong,rfl⟩,hHR,hA⟩:=hp
  exact lh HF.out hA.bel (by rw[dz,if_pos hlong]) _ rfl rfl
 |returned v=>
  obtain⟨v',H1,σ1,⟨hle,rfl,rfl⟩,hv,hHR1,hA1⟩:=hp
  cases hv with
  |@p _ _ _ c0 oc hs=>
  have H1:=gW.mk hHR1
  have H2:=gW.mk hA1
  have H3:=gW.mk hs
  have H4:=gW.mk hB
  clear hHR1 hA1 hs hB
  go_wp2_with fail
  refine((qj cs hle _ rfl).2 (r8 w).heap.size σ1 w2 _ H1.out ⟨rfl,λi v hv=>?_⟩).mono ?_
  ·cases i with
   |zero=>cases hv;exact .p H3.out
   |succ i=>simp at hv
  rintro e w3 hp
  have hb2:=H2.out.bel
  cases e with
  |outgrown=>exact hp.elim
  |panicked c=>
   obtain⟨H',σ',⟨x,hx,rfl⟩,hHR,hA⟩:=hp
   exact lh HF.out (hb2.trans hA.bel) (by rw[dz,if_neg (by omega),hx]) _ rfl rfl
  |returned v2=>
   obtain⟨v',H',σ2,⟨o,pt,hrd,rfl,rfl⟩,hv2,hHR2,hA2⟩:=hp
   have hs2:=hA2.kp 0 _ rfl H3.out
   obtain⟨cs0,t1,t2,t3⟩:=hHR2.blk 0 _ _ _ (by simp only[go_sem,simprocAttr]<;>rfl) hs2
   have t4:=t3.cell 2 (by show 2<3;decide)
   have t5:=t3.sz
   obtain⟨u3,hu3⟩:∃u3,cs0.getD 2 undef=u3:=⟨_,rfl⟩
   rw[hu3] at t4
   have hg:(ae 0 173 [.fs 2 cs.length (pI cs),.n .i64 cs.length,.os 1 pt.length]).get 2= .os 1 pt.length:=by simp only[go_sem,simprocAttr]
   rw[hg] at t4
   obtain⟨σ3,m1,m2,m3,m4,m5,m6,m7⟩:=hHR2.marks [1]
   have hd:VR σ3.bare (.fs 1 pt.length (iC pt)) u3:=(Cv.ownb (ty:=3) (z:=0) (M:=[1]) (by simp only[go_sem,simprocAttr]) (λi j _ _=>rfl) (by simp):Cv [1] (ah [ai 3 1 pt.length 0 (iC pt),ae 0 173 [.fs 2 cs.length (pI cs),.n .i64 cs.length,.os 1 pt.length]]) (.os 1 pt.length) (.fs 1 pt.length (iC pt))).ok hHR2 m1 m2 m7 t4
   have z2:w3.cell? ⟨c0,2,none⟩=some u3:=by
    have hlt:2<cs0.size:=by have:3<=cs0.size:=t5;omega
    simp[World.cell?,t2,<-hu3,hlt,Array.getD]
   have hb3:=hb2.trans hA2.bel
   have q1:w3.heap[w.heap.size]? =some (.cells #[.int .i64 0] 30 (0,0)):=by rw[hb3.block _ (by omega)];exact Db w
   have z0:w3.cell? ⟨w.heap.size,0,none⟩=some (.int .i64 0):=by simp[World.cell?,q1]
   have f0:w3.frozen? ⟨w.heap.size,0,none⟩=false:=by simp[World.frozen?,q1]
   have hpf:dz cs=(pt,0):=by rw[dz,if_neg (by omega),hrd]
   have hfz:∀c,c<(r8 w).heap.size->σ3.fz c=φ c:=λc hc=>(m4.eq c hc).trans ((hA2.fzb.eq c hc).trans (H2.out.fzb.eq c hc))
   have G1:=gW.mk m6
   have G2:=gW.mk hfz
   have G3:=gW.mk hd
   have G4:=gW.mk hb3
   have G5:=gW.mk q1
   clear hHR2 hA2 hv2 hb3 hb2 q1 t1 t2 t3 t4 t5 m1 m2 m3 m4 m5 m6 m7 hd hfz hs2 hg hu3
   go_wp2
   have y1:(w3.setCell ⟨w.heap.size,0,none⟩ (.int .i64 0)).cell? ⟨w.heap.size,0,none⟩=some (.int .i64 0):=by
    simp[World.cell?,World.setCell,Array.getElem?_modify,G5.out]
   have hd:∀k,k≠w.heap.size->(w3.setCell ⟨w.heap.size,0,none⟩ (.int .i64 0)).heap[k]? =w3.heap[k]? :=λk h1=>by
    rw[Below.heap_setCell _ _ _ _ (show k≠(⟨w.heap.size,0,none⟩:Addr).block from h1)]
   have hnb:∀c fs,σ3.fz c=some fs->c≠w.heap.size:=λc fs hf=>by
    by_cases hc:c<(r8 w).heap.size
    ·rw[G2.out c hc] at hf
     obtain⟨cs',t,fr,e1,_⟩:=HF.out c fs hf
     have:=(Array.getElem?_eq_some_iff.1 e1).1
     omega
    ·omega
   have hfin:kr cs φ w (.returned (.tuple #[u3,.int .i64 0])) (w3.setCell ⟨w.heap.size,0,none⟩ (.int .i64 0)):=by
    refine⟨u3,σ3.fz,by rw[hpf],by rw[hpf];exact G3.out,λc fs hf=>?_,((H4.out.trans (G4.out.mono (by omega))).setCell (Nat.le_refl _) _),λc hc=>G2.out c (by omega)⟩
    obtain⟨cs',t,fr,e1,e2,_⟩:=G1.out.frz c fs hf
    exact⟨cs',t,fr,by rw[hd c (hnb c fs hf)];exact e1,e2⟩
   refine leaves_cons (f:=82) (args:= #[.pointer (some ⟨w.heap.size+1,0,none⟩),.pointer (some ⟨w.heap.size,0,none⟩)]) (by simp) (by simp[go_sem]) ?_
   refine(lc (w.heap.size+1) w.heap.size _).mono ?_
   rintro e u' w'' ⟨rfl,rfl,rfl⟩
   have HH:=gW.mk hfin
   clear hfin hd hnb
   refine⟨.tuple #[u3,.int .i64 0],?_,HH.out⟩
   simp[results,Tryz.results52,go_sem,y1]
theorem xY(cs:List (Int×Int)):bM Tryz.prog 52 [.fs 2 cs.length (pI cs)] [.v (.fs 1 (dz cs).1.length (iC (dz cs).1)),.v (.n .i64 (dz cs).2)]:=by
 refine⟨⟨_,Tryz.func52,by kernel_rfl,rfl⟩,λφ w args' hφ ha=>?_⟩
 obtain⟨u,rfl,hu⟩:∃u,args'= #[u]/\VR (Sg.data φ) (.fs 2 cs.length (pI cs)) u:=by
  obtain⟨l⟩:=args'
  obtain⟨h1,h2⟩:=ha
  match l,h1 with
  |[x],_=>exact⟨x,rfl,h2 0 _ rfl⟩
 refine(xX cs φ w u hφ hu).mono λe w' hp=>?_
 obtain⟨v,φ',rfl,hv,hin,hb,hfz⟩:=hp
 refine⟨.tup [.fs 1 (dz cs).1.length (iC (dz cs).1),.n .i64 (dz cs).2],⟨.nil,0,2^40,λ_=>none,[]⟩,Sg.data φ',⟨[.fs 1 (dz cs).1.length (iC (dz cs).1),.n .i64 (dz cs).2],rfl,⟨rfl,rfl⟩,⟨rfl,rfl⟩,trivial⟩,?_,HR.emptyAt w' hb.size hin,hb,hfz⟩
 exact(aX.nil.cons (.n _ _)).cons hv |>.tup
end Go.Proofs.YtdpkgnmmikebdaaGreat