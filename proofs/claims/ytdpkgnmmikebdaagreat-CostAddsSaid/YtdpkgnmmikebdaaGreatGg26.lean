/- A part of the proof of CostAdds: FlG FlH FlI FlT FlU FlV FlW FlX FlY FlZ CbA VfA VfB VfC CbB CbC CbD CbE CbF VfM VfT. No condition. -/
import Derived.ChangeAlike
import Derived.Defers
import Derived.Recover
import Derived.RegionTactic
import Derived.Test.YtdpkgnmmikebdaaGreatGg25
import Derived.Test.YtdpkgnmmikebdaaGreatGg22
import Derived.Test.YtdpkgnmmikebdaaGreatGg16
set_option linter.unusedSimpArgs false
set_option linter.unusedVariables false
set_option linter.constructorNameAsVariable false
set_option maxRecDepth 100000
set_option maxHeartbeats 4000000
namespace Go.Proofs.YtdpkgnmmikebdaaGreat
open Go.RowKit
theorem rB(w:World):(binOp .eql 20 .nilIface .nilIface).run Tryz.prog w= .ok (.bool true) w:=by kernel_rfl
theorem pL(a n:Int)(w:World):(binOp .eql 20 (.iface 211 (.agg #[.int .i64 a,.int .i64 n])) .nilIface).run Tryz.prog w= .ok (.bool false) w:=by kernel_rfl
theorem rL(a n:Int)(w:World):(Instr.typeAssert (.iface 211 (.agg #[.int .i64 a,.int .i64 n])) 20 211 true).run Tryz.prog w= .ok (.tuple #[.agg #[.int .i64 a,.int .i64 n],.bool true]) w:=by kernel_rfl
theorem kX(p q x:Value): #[p,q]++((Array.replicate 24 undef).setIfInBounds 5 x).setIfInBounds 2 x=
  #[p,q,undef,undef,x,undef,undef,x,undef,undef,undef,undef,undef,undef,undef,undef,undef,undef,undef,undef,undef,undef,undef,undef,undef,undef]:=by kernel_rfl
theorem k9(ab eb:Nat)(w:World):
  CallsD Tryz.prog 82 #[.pointer (some ⟨ab,0,none⟩),.pointer (some ⟨eb,0,none⟩)] .returning w λe u' w'=>e= .returned (.tuple #[])/\u'= .returning/\w'=w:=by
 refine callsD_of_wpS Tryz.func82 rfl λc₀ cs hu=>?_
 apply wpS_seq
 apply wpS_region
 simp[wpOpsS,go_sem,recoverD,hu,Tryz.ntmps82,Exit.thenS]
 refine wpS_of_wp ?_
 rw[kX]
 have hq:=rB
 go_wp2
 cases c₀
 simp_all [bodyPostS,results,Tryz.results82]
theorem fG(ab eb:Nat)(x y a n:Int)(older:List PanicEntry)(w:World)(ha:w.heap[ab]? =some (.cells #[.int .i64 x] 3 (0,0)))(he:w.heap[eb]? =some (.cells #[.int .i64 y] 30 (0,0)))(hne:¬ab=eb)(hne2:¬eb=ab):
  CallsD Tryz.prog 82 #[.pointer (some ⟨ab,0,none⟩),.pointer (some ⟨eb,0,none⟩)] (.panicking ({v:= .iface 211 (.agg #[.int .i64 a,.int .i64 n]),recovered:=false}::older)) w λe u' w'=>
   e= .returned (.tuple #[])/\u'= .panicking ({v:= .iface 211 (.agg #[.int .i64 a,.int .i64 n]),recovered:=true}::older)/\w'.heap[ab]? =some (.cells #[.int .i64 a] 3 (0,0))/\w'.heap[eb]? =some (.cells #[.int .i64 n] 30 (0,0))/\(∀k,k<w.heap.size->k≠ab->k≠eb->w'.heap[k]? =w.heap[k]?)/\w'.os=w.os/\w'.tape=w.tape/\w'.output=w.output/\w.heap.size<=w'.heap.size:=by
 have hq:=pL a n
 have hta:=rL a n
 refine callsD_of_wpS Tryz.func82 rfl λc₀ cs hu=>?_
 apply wpS_seq
 apply wpS_region
 simp[wpOpsS,go_sem,recoverD,hu,Tryz.ntmps82,Exit.thenS]
 refine wpS_of_wp ?_
 rw[kX]
 go_wp2
 have hal:ab<w.heap.size:=(Array.getElem?_eq_some_iff.1 ha).1
 have hel:eb<w.heap.size:=(Array.getElem?_eq_some_iff.1 he).1
 have z0:w.cell? ⟨ab,0,none⟩=some (.int .i64 x):=by simp[World.cell?,ha]
 have z1:w.cell? ⟨eb,0,none⟩=some (.int .i64 y):=by simp[World.cell?,he]
 have f0:w.frozen? ⟨ab,0,none⟩=false:=by simp[World.frozen?,ha]
 have f1:w.frozen? ⟨eb,0,none⟩=false:=by simp[World.frozen?,he]
 have y0:∀v,(w.setCell ⟨eb,0,none⟩ v).cell? ⟨ab,0,none⟩=some (.int .i64 x):=λv=>by rw[World.cell?_of_block (Below.heap_setCell _ _ _ _ hne)];exact z0
 have y1:∀v,(w.setCell ⟨ab,0,none⟩ v).cell? ⟨eb,0,none⟩=some (.int .i64 y):=λv=>by rw[World.cell?_of_block (Below.heap_setCell _ _ _ _ hne2)];exact z1
 have g0:∀v,(w.setCell ⟨eb,0,none⟩ v).frozen? ⟨ab,0,none⟩=false:=λv=>by simp only[World.frozen?];rw[Below.heap_setCell _ _ _ _ (show ab≠(⟨eb,0,none⟩:Addr).block from hne),ha];rfl
 have g1:∀v,(w.setCell ⟨ab,0,none⟩ v).frozen? ⟨eb,0,none⟩=false:=λv=>by simp only[World.frozen?];rw[Below.heap_setCell _ _ _ _ (show eb≠(⟨ab,0,none⟩:Addr).block from hne2),he];rfl
 go_region
 go_wp2
 cases c₀
 simp only at hu
 subst hu
 simp only[bodyPostS]
 refine⟨trivial,_,rfl,?_⟩
 refine⟨_,results_none rfl _ _ _,?_⟩
 refine⟨rfl,rfl,?_⟩
 have hs:((w.setCell ⟨ab,0,none⟩ (.int .i64 a)).setCell ⟨eb,0,none⟩ (.int .i64 n)).heap.size=w.heap.size:=by simp[World.setCell]
 have hd:∀k,k<w.heap.size->((((w.setCell ⟨ab,0,none⟩ (.int .i64 a)).setCell ⟨eb,0,none⟩ (.int .i64 n)).alloc (Obj.cells #[.int .i64 a,.int .i64 n] 211)).drew).heap[k]? =((w.setCell ⟨ab,0,none⟩ (.int .i64 a)).setCell ⟨eb,0,none⟩ (.int .i64 n)).heap[k]? :=λk hk=>Below.heap_alloc _ _ _ (by rw[hs];exact hk)
 refine⟨?_,?_,λk hk h1 h2=>?_,rfl,rfl,rfl,?_⟩
 ·rw[hd ab hal,Below.heap_setCell _ _ _ _ (show ab≠(⟨eb,0,none⟩:Addr).block from hne)]
  simp only[World.setCell,Array.getElem?_modify,if_true,ha]
  rfl
 ·rw[hd eb hel]
  simp only[World.setCell,Array.getElem?_modify,if_true,if_neg hne,he]
  rfl
 ·rw[hd k hk,Below.heap_setCell _ _ _ _ (show k≠(⟨eb,0,none⟩:Addr).block from h2),Below.heap_setCell _ _ _ _ (show k≠(⟨ab,0,none⟩:Addr).block from h1)]
 ·have:((((w.setCell ⟨ab,0,none⟩ (.int .i64 a)).setCell ⟨eb,0,none⟩ (.int .i64 n)).alloc (Obj.cells #[.int .i64 a,.int .i64 n] 211)).drew).heap.size=w.heap.size+1:=by rw[<-hs];exact Array.size_push ..
  omega
structure gU(p:Prop):Prop where
 out:p
def aw(cs:List (Int×Int)):Fo×Int×Int:=if 1024<cs.length then(.nil,0,6) else match cn cs with
 |.ok (o,_)=>(o,0,0)
 |.error x=>(.nil,x,15)
def i9(cs:List (Int×Int))(φ:Fz)(w:World)(e:Ending)(w':World):Prop:=∃(v:Value) (φ':Fz),e= .returned (.tuple #[v,.int .i64 (aw cs).2.1,.int .i64 (aw cs).2.2])/\
 VR (Sg.data φ') (.fs 5 (aw cs).1.len (aw cs).1.cell) v/\pY φ' w'/\Below w.heap.size w w'/\∀c,c<w.heap.size->φ' c=φ c
theorem i4{φ:Fz}{w w':World}(h:pY φ w)(hb:∀k,k<w.heap.size->w'.heap[k]? =w.heap[k]?):pY φ w':=λc fs hf=>by
 obtain⟨cs,t,fr,e1,e2⟩:=h c fs hf
 exact⟨cs,t,fr,by rw[hb c (Array.getElem?_eq_some_iff.1 e1).1];exact e1,e2⟩
def rZ(w:World):World:=(w.alloc (Obj.cells #[.int .i64 0] 3)).alloc (Obj.cells #[.int .i64 0] 30)
theorem qh(w:World):(rZ w).heap.size=w.heap.size+2:=by simp[rZ]
theorem lQ(w:World)(o:Obj):(w.alloc o).heap[w.heap.size]? =some o:=by
 show(w.heap.push o)[w.heap.size]? =some o
 simp
theorem xt(w:World):(rZ w).heap[w.heap.size]? =some (.cells #[.int .i64 0] 3 (0,0)):=by
 rw[rZ,Below.heap_alloc _ _ _ (by simp)]
 exact lQ w _
theorem xr(w:World):(rZ w).heap[w.heap.size+1]? =some (.cells #[.int .i64 0] 30 (0,0)):=by
 have:=lQ (w.alloc (Obj.cells #[.int .i64 0] 3)) (Obj.cells #[.int .i64 0] 30)
 simpa [rZ] using this
theorem oU(w:World):Below w.heap.size w (rZ w):=((Below.refl _ _).alloc (by simp) _).alloc (by simp) _
theorem jP{cs:List (Int×Int)}{φ:Fz}{w w2:World}{a n:Int}(hφ:pY φ w)(hb:Below (rZ w).heap.size (rZ w) w2)(hp:aw cs=(.nil,a,n))(tm:Array Value)(h2:tm[2]? =some (.slice none 0 0))(h3:tm[3]? =some (.pointer (some ⟨w.heap.size,0,none⟩)))(h4:tm[4]? =some (.pointer (some ⟨w.heap.size+1,0,none⟩))):
  Leaves Tryz.prog Tryz.f50 tm (i9 cs φ w) [{target:= .fn (.func 82) #[],args:= #[.pointer (some ⟨w.heap.size,0,none⟩),.pointer (some ⟨w.heap.size+1,0,none⟩)]}] (.panicking (fA a n)) w2:=by
 have hz:=qh w
 have q1:w2.heap[w.heap.size]? =some (.cells #[.int .i64 0] 3 (0,0)):=by rw[hb.block _ (by omega)];exact xt w
 have q2:w2.heap[w.heap.size+1]? =some (.cells #[.int .i64 0] 30 (0,0)):=by rw[hb.block _ (by omega)];exact xr w
 refine leaves_cons (f:=82) (args:= #[.pointer (some ⟨w.heap.size,0,none⟩),.pointer (some ⟨w.heap.size+1,0,none⟩)]) (by simp) (by simp[go_sem]) ?_
 refine(fG w.heap.size (w.heap.size+1) 0 0 a n [] w2 q1 q2 (by omega) (by omega)).mono ?_
 rintro e u' w3 ⟨rfl,rfl,b1,b2,b3,ho3,ht3,hp3,hs3⟩
 have hsz:=hb.size
 have hB:=oU w
 have y1:w3.cell? ⟨w.heap.size,0,none⟩=some (.int .i64 a):=by simp[World.cell?,b1]
 have y2:w3.cell? ⟨w.heap.size+1,0,none⟩=some (.int .i64 n):=by simp[World.cell?,b2]
 have hbl:∀k,k<w.heap.size->w3.heap[k]? =w.heap[k]? :=λk hk=>by rw[b3 k (by omega) (by omega) (by omega),hb.block k (by omega),hB.block k hk]
 have hfin:i9 cs φ w (.returned (.tuple #[.slice none 0 0,.int .i64 a,.int .i64 n])) w3:=by
  refine⟨.slice none 0 0,φ,by rw[hp],by rw[hp];exact .fs0 _ _ _ _,i4 hφ hbl,⟨ho3.trans (hb.os.trans hB.os),ht3.trans (hb.tape.trans hB.tape),hp3.trans (hb.output.trans hB.output),by omega,hbl⟩,λ_ _=>rfl⟩
 have H:=gU.mk hfin
 clear hfin
 simp[Leaves,settle,results,Tryz.results50,go_sem,y1,y2,h2,h3,h4]
 exact H.out
theorem vi(cs:List (Int×Int))(φ:Fz)(w:World)(u:Value)(hφ:pY φ w)(hu:VR (Sg.data φ) (.fs 2 cs.length (pI cs)) u):Calls Tryz.prog 50 #[u] w (i9 cs φ w):=by
 have HU:=gU.mk hu
 have HF:=gU.mk hφ
 clear hu hφ
 go_enter_defers Tryz.func50,Tryz.ntmps50
 go_wp2_with fail
 show Calls _ _ _ (rZ w) _
 have hz:=qh w
 have hB:=oU w
 refine((rI cs).2 (rZ w).heap.size (Sg.data φ) (rZ w) #[u] (HR.empty (rZ w) (i4 HF.out λk hk=>hB.block k hk)) ⟨rfl,λi v hv=>?_⟩).mono ?_
 ·cases i with
  |zero=>cases hv;exact HU.out
  |succ i=>simp at hv
 rintro e w2 hp
 cases e with
 |outgrown=>exact hp.elim
 |panicked c=>
  obtain⟨H',σ',⟨hlong,rfl⟩,hHR,hA⟩:=hp
  exact jP HF.out hA.bel (by rw[aw,if_pos hlong]) _ rfl rfl rfl
 |returned v=>
  obtain⟨v',H1,σ1,⟨hle,rfl,rfl⟩,hv,hHR1,hA1⟩:=hp
  cases hv with
  |p hs=>
  have H1:=gU.mk hHR1
  have H2:=gU.mk hA1
  have H3:=gU.mk hs
  have H4:=gU.mk hB
  clear hHR1 hA1 hs hB
  go_wp2_with fail
  refine((qf cs hle _ rfl).2 (rZ w).heap.size σ1 w2 _ H1.out ⟨rfl,λi v hv=>?_⟩).mono ?_
  ·cases i with
   |zero=>cases hv;exact .p H3.out
   |succ i=>simp at hv
  rintro e w3 hp
  have hb2:=H2.out.bel
  cases e with
  |outgrown=>exact hp.elim
  |panicked c=>
   obtain⟨H',σ',⟨x,hx,rfl⟩,hHR,hA⟩:=hp
   exact jP HF.out (hb2.trans hA.bel) (by rw[aw,if_neg (by omega),hx]) _ rfl rfl rfl
  |returned v2=>
   obtain⟨v',H',σ2,⟨o,pt,hrd,rfl,rfl⟩,hv2,hHR2,hA2⟩:=hp
   have hb3:=hb2.trans hA2.bel
   have q1:w3.heap[w.heap.size]? =some (.cells #[.int .i64 0] 3 (0,0)):=by rw[hb3.block _ (by omega)];exact xt w
   have q2:w3.heap[w.heap.size+1]? =some (.cells #[.int .i64 0] 30 (0,0)):=by rw[hb3.block _ (by omega)];exact xr w
   have z0:w3.cell? ⟨w.heap.size,0,none⟩=some (.int .i64 0):=by simp[World.cell?,q1]
   have z1:w3.cell? ⟨w.heap.size+1,0,none⟩=some (.int .i64 0):=by simp[World.cell?,q2]
   have f0:w3.frozen? ⟨w.heap.size,0,none⟩=false:=by simp[World.frozen?,q1]
   have f1:w3.frozen? ⟨w.heap.size+1,0,none⟩=false:=by simp[World.frozen?,q2]
   have G1:=gU.mk hHR2
   have G2:=gU.mk hA2
   have G3:=gU.mk hv2
   have G4:=gU.mk hb3
   have G5:=gU.mk q1
   have G6:=gU.mk q2
   clear hHR2 hA2 hv2 hb3 hb2 q1 q2
   go_wp2
   have hn1:w.heap.size≠w.heap.size+1:=by omega
   have hd:∀k,k≠w.heap.size->k≠w.heap.size+1->((w3.setCell ⟨w.heap.size,0,none⟩ (.int .i64 0)).setCell ⟨w.heap.size+1,0,none⟩ (.int .i64 0)).heap[k]? =w3.heap[k]? :=λk h1 h2=>by
    rw[Below.heap_setCell _ _ _ _ (show k≠(⟨w.heap.size+1,0,none⟩:Addr).block from h2),Below.heap_setCell _ _ _ _ (show k≠(⟨w.heap.size,0,none⟩:Addr).block from h1)]
   have y1:((w3.setCell ⟨w.heap.size,0,none⟩ (.int .i64 0)).setCell ⟨w.heap.size+1,0,none⟩ (.int .i64 0)).cell? ⟨w.heap.size,0,none⟩=some (.int .i64 0):=by
    rw[World.cell?_of_block (Below.heap_setCell _ _ _ _ (show w.heap.size≠(⟨w.heap.size+1,0,none⟩:Addr).block from hn1))]
    simp[World.cell?,World.setCell,Array.getElem?_modify,G5.out]
   have y2:((w3.setCell ⟨w.heap.size,0,none⟩ (.int .i64 0)).setCell ⟨w.heap.size+1,0,none⟩ (.int .i64 0)).cell? ⟨w.heap.size+1,0,none⟩=some (.int .i64 0):=by
    simp[World.cell?,World.setCell,Array.getElem?_modify,G6.out]
   have hpf:aw cs=(o,0,0):=by rw[aw,if_neg (by omega),hrd]
   have hfz:∀c,c<(rZ w).heap.size->σ2.fz c=φ c:=λc hc=>(G2.out.fzb.eq c hc).trans (H2.out.fzb.eq c hc)
   have hnb:∀c fs,σ2.fz c=some fs->c≠w.heap.size/\c≠w.heap.size+1:=λc fs hf=>by
    by_cases hc:c<(rZ w).heap.size
    ·rw[hfz c hc] at hf
     obtain⟨cs',t,fr,e1,_⟩:=HF.out c fs hf
     have:=(Array.getElem?_eq_some_iff.1 e1).1
     omega
    ·omega
   have hfin:i9 cs φ w (.returned (.tuple #[v2,.int .i64 0,.int .i64 0])) ((w3.setCell ⟨w.heap.size,0,none⟩ (.int .i64 0)).setCell ⟨w.heap.size+1,0,none⟩ (.int .i64 0)):=by
    refine⟨v2,σ2.fz,by rw[hpf],by rw[hpf];exact G3.out.pure 3 rfl,λc fs hf=>?_,((H4.out.trans (G4.out.mono (by omega))).setCell (Nat.le_refl _) _).setCell (Nat.le_succ _) _,λc hc=>hfz c (by omega)⟩
    obtain⟨cs',t,fr,e1,e2,_⟩:=G1.out.frz c fs hf
    obtain⟨h1,h2⟩:=hnb c fs hf
    exact⟨cs',t,fr,by rw[hd c h1 h2];exact e1,e2⟩
   refine leaves_cons (f:=82) (args:= #[.pointer (some ⟨w.heap.size,0,none⟩),.pointer (some ⟨w.heap.size+1,0,none⟩)]) (by simp) (by simp[go_sem]) ?_
   refine(k9 w.heap.size (w.heap.size+1) _).mono ?_
   rintro e u' w'' ⟨rfl,rfl,rfl⟩
   have HH:=gU.mk hfin
   clear hfin hd hfz hnb
   refine⟨.tuple #[v2,.int .i64 0,.int .i64 0],?_,HH.out⟩
   simp[results,Tryz.results50,go_sem,y1,y2]
theorem ky(cs:List (Int×Int)):bN Tryz.prog 50 [.fs 2 cs.length (pI cs)] [.v (.fs 5 (aw cs).1.len (aw cs).1.cell),.v (.n .i64 (aw cs).2.1),.v (.n .i64 (aw cs).2.2)]:=by
 refine⟨⟨_,Tryz.func50,by kernel_rfl,rfl⟩,λφ w args' hφ ha=>?_⟩
 obtain⟨u,rfl,hu⟩:∃u,args'= #[u]/\VR (Sg.data φ) (.fs 2 cs.length (pI cs)) u:=by
  obtain⟨l⟩:=args'
  obtain⟨h1,h2⟩:=ha
  match l,h1 with
  |[x],_=>exact⟨x,rfl,h2 0 _ rfl⟩
 refine(vi cs φ w u hφ hu).mono λe w' hp=>?_
 obtain⟨v,φ',rfl,hv,hin,hb,hfz⟩:=hp
 refine⟨.tup [.fs 5 (aw cs).1.len (aw cs).1.cell,.n .i64 (aw cs).2.1,.n .i64 (aw cs).2.2],⟨.nil,0,2^40,λ_=>none,[]⟩,Sg.data φ',⟨[.fs 5 (aw cs).1.len (aw cs).1.cell,.n .i64 (aw cs).2.1,.n .i64 (aw cs).2.2],rfl,⟨rfl,rfl⟩,⟨rfl,rfl⟩,⟨rfl,rfl⟩,trivial⟩,?_,HR.emptyAt w' hb.size hin,hb,hfz⟩
 exact((a8.nil.cons (.n _ _)).cons (.n _ _)).cons hv |>.tup
def aY(cs:List (Int×Int)):Nat->List Int
 |0=>[]
 |k+1=>if aj cs k=29 then aY cs k++[(k:Int)] else aY cs k
def bR(cs:List (Int×Int)):List Int:=if(aw cs).2.2=0 then aY cs cs.length else[]
theorem ii(cs:List (Int×Int)):∀k,(aY cs k).length<=k
 |0=>Nat.le_refl _
 |k+1=>by
  have:=ii cs k
  rw[aY]
  split
  ·rw[List.length_append];simp;omega
  ·omega
theorem vN(cs:List (Int×Int))(hcs:cs.length<=100000):bN Tryz.prog 65 [.fs 2 cs.length (pI cs)] [.o 3 1 (bR cs).length 0 (iC (bR cs)),.v (.n .i64 (aw cs).2.2)]:=by
 refine ag aF N4 ⟨by simp,by decide⟩ ?_
 simp only[aH]
 repeat first|with_reducible refine ao ?_|simp only[go_sem,simprocAttr]
 refine bO ([.fs 2 cs.length (pI cs)]) (ky cs) ?_
 by_cases he:(aw cs).2.2=0
 ·have hF:bR cs=aY cs cs.length:=if_pos he
  rw[hF,he]
  repeat first|with_reducible refine ao ?_|simp only[he,decide_false,decide_true,ne_eq,not_true_eq_false,go_sem,simprocAttr]
  refine GA.wk (Wk.nil 7 1 3 (by simp only[go_sem,simprocAttr]) (by decide) (by simp only[go_sem,simprocAttr])) ?_
  simp only[ke]
  refine GA.loop (I:=λm e H=>∃(k:Nat),m=cs.length-k/\k<=cs.length/\e=aB [(7,.os 0 (aY cs k).length),(19,.fs 2 cs.length (pI cs)),(20,.n .i64 cs.length),(21,.n .i64 k)]/\H=ah [ai 3 1 (aY cs k).length 0 (iC (aY cs k))]) (Wk.mk [0] [] ?_ ?_ ?_) ⟨0,rfl,by omega,rfl,rfl⟩ ?_
  ·exact ba
  ·exact .cr (.rows (x:=_) (by simp only[go_sem,simprocAttr];rfl) (by rfl) (by rfl) (by rfl) (Nat.zero_le _) (by decide) (by decide) (λi j h=>absurd h (Nat.not_lt_zero _)) (λi j h=>absurd h (Nat.not_lt_zero _))) .nil
  ·simp
  rintro m e H ⟨k,rfl,hk,rfl,rfl⟩
  have h0:(0:Int)<=(k:Int):=by omega
  have hll:=ii cs k
  obtain⟨l,hl⟩:∃l,l=aY cs k:=⟨_,rfl⟩
  rw[<-hl] at hll ⊢
  by_cases h:(k:Int)<cs.length
  rotate_left
  ·repeat first|with_reducible refine ao ?_|simp only[h,decide_false,go_sem,simprocAttr]
   have:k=cs.length:=by omega
   subst this
   exact⟨[_,_],rfl,.inr ⟨0,by rw[hl],by simp,_,by simp only[go_sem,simprocAttr];rfl,rfl,rfl,by decide,rfl,by rw[hl];exact Nat.le_refl _,Nat.le_refl _,λi j _ hj=>by rw[hl];exact aK i j hj,λ_ _ _ _=>rfl⟩,rfl,⟨rfl,rfl⟩,trivial⟩
  have hk':k<cs.length:=by omega
  have wk:IntKind.i64.wrap ((k:Int)+1)=((k+1:Nat):Int):=(am (by omega)).trans (by omega)
  have hlap:(l.length+1<1099511627776/\(l.length+1)*8<=140737488355328)/\l.length<=9223372036854775806:=⟨⟨by omega,by omega⟩,by omega⟩
  by_cases e1:(cs.getD k (0,0)).1=29
  ·have hs:aY cs (k+1)=l++[(k:Int)]:=by rw[aY,if_pos (show aj cs k=29 from e1),hl]
   repeat first|with_reducible refine ao ?_|simp only[h,h0,cT,ph,e1,wk,hlap,decide_true,go_sem,simprocAttr]
   refine⟨_,_,_,?_,Wk.mk [3] [] ?_ ?_ ?_,k+1,rfl,by omega,rfl,rfl⟩
   ·omega
   ·rw[hs,List.length_append]
    simp only[d9,cM,go_sem,simprocAttr]
    repeat' refine a7 ?_ ?_
    all_goals first|exact iI|skip
   ·rw[hs,List.length_append]
    exact .cr (.snoc (row:=iC l) (n:=l.length) (o:=l.length) (l:=[.n .i64 (k:Int)]) (by simp only[go_sem,simprocAttr]) (by omega) rfl rfl (by decide) (by omega) (λi j hi _=>by simp only[iC];rw[lj hi]) (λj hj=>by cases Nat.lt_one_iff.1 hj;simp only[iC];rw[ll];rfl) (λ_ _ _ _=>rfl)) .nil
   ·simp
  ·have hs:aY cs (k+1)=l:=by rw[aY,if_neg (show ¬aj cs k=29 from e1),hl]
   repeat first|with_reducible refine ao ?_|simp only[h,h0,cT,ph,e1,wk,decide_true,decide_false,go_sem,simprocAttr]
   refine⟨_,_,_,?_,Wk.mk [0] [] ?_ ?_ ?_,k+1,rfl,by omega,rfl,rfl⟩
   ·omega
   ·rw[hs]
    simp only[d9,cM,go_sem,simprocAttr]
    repeat' refine a7 ?_ ?_
    all_goals first|exact iI|skip
   ·rw[hs]
    exact .cr .k1 .nil
   ·simp
 ·have hF:bR cs=[]:=if_neg he
  rw[hF]
  repeat first|with_reducible refine ao ?_|simp only[he,decide_false,decide_true,ne_eq,not_false_eq_true,go_sem,simprocAttr]
  exact⟨[_,_],rfl,.inl ⟨rfl,rfl⟩,rfl,⟨rfl,rfl⟩,trivial⟩
structure Ap(cs:List (Int×Int))(s:RS)(i:Nat):Prop where
 len:s.out.length=cs.length
 op:∀b ∈ s.op,b<i/\(aj cs b=27\/aj cs b=29)
 ot:∀c ∈ s.ot,c<0\/(c<i/\aj cs c.toNat=28)
 eq:s.op.length=s.ot.length
theorem VG(cs:List (Int×Int)):Ap cs (r6 cs) 0:=⟨by simp[r6],λb hb=>by simp[r6] at hb,λc hc=>by simp[r6] at hc,rfl⟩
theorem nZ{cs:List (Int×Int)}{i:Nat}{s s1:RS}(h:bQ cs i s=some s1)(hi:i<cs.length)(H:Ap cs s i):
  Ap cs s1 (i+1)/\(∀j,j<i->aj cs j=31->s1.out.getD j 0=s.out.getD j 0)/\
   ((aj cs i=31/\∃b,s.op=b::s1.op/\s1.out.getD i 0=b)\/(aj cs i=29/\s1.op=i::s.op)\/(aj cs i=27/\s1.op=i::s.op)\/(aj cs i=30/\s1.op=s.op/\ip cs s.op=true)\/(aj cs i≠31/\aj cs i≠29/\aj cs i≠27/\aj cs i≠30/\s1.op=s.op)):=by
 have low:∀j,j<i->(s.out.set i (-1)).getD j 0=s.out.getD j 0:=λj hj=>a9 (by omega)
 have opm:∀b ∈ s.op,b<i+1/\(aj cs b=27\/aj cs b=29):=λb hb=>⟨by have:=(H.op b hb).1;omega,(H.op b hb).2⟩
 have otm:∀c ∈ s.ot,c<0\/(c<(i+1:Nat)/\aj cs c.toNat=28):=λc hc=>(H.ot c hc).imp id λh=>⟨by omega,h.2⟩
 rw[bQ] at h
 by_cases c1:aj cs i=27\/aj cs i=29
 ·rw[if_pos c1] at h
  split at h
  ·cases h
  ·cases h
   refine⟨⟨by simp[H.len],λb hb=>?_,λc hc=>?_,by simp[H.eq]⟩,λj hj _=>low j hj,?_⟩
   ·rcases List.mem_cons.1 hb with rfl|hb
    ·exact⟨by omega,c1⟩
    ·exact opm b hb
   ·rcases List.mem_cons.1 hc with rfl|hc
    ·exact .inl (by decide)
    ·exact otm c hc
   ·rcases c1 with c1|c1
    ·exact .inr (.inr (.inl ⟨c1,rfl⟩))
    ·exact .inr (.inl ⟨c1,rfl⟩)
 rw[if_neg c1] at h
 by_cases c2:aj cs i=28
 ·rw[if_pos c2] at h
  split at h
  ·rename_i b op c ot h1 h2
   split at h
   ·cases h
   ·cases h
    have hb:=H.op b (by rw[h1];exact List.mem_cons_self ..)
    refine⟨⟨by simp[H.len],λx hx=>opm x (by rw[h1];exact hx),λx hx=>?_,?_⟩,λj hj h31=>?_,.inr (.inr (.inr (.inr ⟨by rw[c2];decide,by rw[c2];decide,by rw[c2];decide,by rw[c2];decide,h1.symm⟩)))⟩
    ·rcases List.mem_cons.1 hx with rfl|hx
     ·exact .inr ⟨by omega,by rw[Int.toNat_natCast];exact c2⟩
     ·exact otm x (by rw[h2];exact List.mem_cons_of_mem _ hx)
    ·have:=H.eq;rw[h1,h2] at this;simpa using this
    ·refine(a9 ?_).trans (low j hj)
     rintro rfl
     rcases hb.2 with h|h<;>rw[h31] at h<;>exact absurd h (by decide)
  ·cases h
 rw[if_neg c2] at h
 by_cases c3:aj cs i=30
 ·rw[if_pos c3] at h
  split at h
  ·rename_i hin
   cases h
   exact⟨⟨by simp[H.len],opm,otm,H.eq⟩,λj hj _=>low j hj,.inr (.inr (.inr (.inl ⟨c3,rfl,hin⟩)))⟩
  ·cases h
 rw[if_neg c3] at h
 by_cases c4:aj cs i=31
 ·rw[if_pos c4] at h
  split at h
  ·rename_i b op c ot h1 h2
   cases h
   have hb:=H.op b (by rw[h1];exact List.mem_cons_self ..)
   have hc:=H.ot c (by rw[h2];exact List.mem_cons_self ..)
   have hne:∀j,aj cs j=31->j≠b:=λj hj=>by
    rintro rfl
    rcases hb.2 with h|h<;>rw[hj] at h<;>exact absurd h (by decide)
   have hnc:0<=c->∀j,aj cs j=31->j≠c.toNat:=λh0 j hj=>by
    rintro rfl
    rcases hc with h|h
    ·omega
    ·rw[hj] at h;exact absurd h.2 (by decide)
   have hil:i<(s.out.set i (-1)).length:=by rw[List.length_set,H.len];exact hi
   refine⟨⟨by split<;>simp[H.len],λx hx=>opm x (by rw[h1];exact List.mem_cons_of_mem _ hx),λx hx=>otm x (by rw[h2];exact List.mem_cons_of_mem _ hx),?_⟩,λj hj h31=>?_,.inl ⟨c4,b,h1,?_⟩⟩
   ·have:=H.eq;rw[h1,h2] at this;simpa using this
   ·dsimp only
    split
    ·rename_i h0
     exact(a9 (hnc h0 j h31)).trans ((a9 (by omega)).trans (low j hj))
    ·exact(a9 (hne j h31)).trans ((a9 (by omega)).trans (low j hj))
   ·dsimp only
    split
    ·rename_i h0
     exact(a9 (hnc h0 i c4)).trans (dF hil)
    ·exact(a9 (hne i c4)).trans (dF hil)
  ·cases h
 rw[if_neg c4] at h
 cases h
 exact⟨⟨by simp[H.len],opm,otm,H.eq⟩,λj hj _=>low j hj,.inr (.inr (.inr (.inr ⟨c4,λh=>c1 (.inr h),λh=>c1 (.inl h),c3,rfl⟩)))⟩
theorem n8{cs:List (Int×Int)}:∀(n i:Nat) (s s2:RS),bz cs n i s= .ok s2->i+n<=cs.length->Ap cs s i->∀j,j<i->aj cs j=31->s2.out.getD j 0=s.out.getD j 0
 |0,i,s,s2,h,_,_,j,_,_=>by cases h;rfl
 |n+1,i,s,s2,h,hn,H,j,hj,h31=>by
  rw[bz] at h
  cases hs:bQ cs i s with
  |none=>rw[hs] at h;cases h
  |some s1=>
   rw[hs] at h
   obtain⟨H1,k1,_⟩:=nZ hs (by omega) H
   exact(n8 n (i+1) s1 s2 h (by omega) H1 j (by omega) h31).trans (k1 j hj h31)
def AA(cs:List (Int×Int)):Nat->Nat->List Int->List Nat->Option (List Int)
 |0,_,out,_=>some out
 |n+1,i,out,lp=>
  if aj cs i=29 then AA cs n (i+1) out (i::lp)
  else if aj cs i=31 then
   if 0<=out.getD i 0/\out.getD i 0<cs.length then
    if aj cs (out.getD i 0).toNat=29 then match lp with
     |_::l=>AA cs n (i+1) out l
     |[]=>none
    else AA cs n (i+1) out lp
   else none
  else if aj cs i=30 then match lp with
   |b::l=>AA cs n (i+1) (out.set i (out.getD b 0)) (b::l)
   |[]=>none
  else AA cs n (i+1) out lp
def cf(cs:List (Int×Int))(l:List Nat):List Nat:=l.filter λb=>decide (aj cs b=29)
theorem qR{cs:List (Int×Int)}:∀(n i:Nat) (s s2:RS) (out:List Int),bz cs n i s= .ok s2->i+n=cs.length->Ap cs s i->(∀j,i<=j->aj cs j=31->out.getD j 0=s2.out.getD j 0)->out.length=cs.length->
  ∃out',AA cs n i out (cf cs s.op)=some out'/\out'.length=cs.length/\∀j,aj cs j≠30->out'.getD j 0=out.getD j 0
 |0,i,s,s2,out,h,hn,H,ho,hl=>⟨out,rfl,hl,λ_ _=>rfl⟩
 |n+1,i,s,s2,out,h,hn,H,ho,hl=>by
  rw[bz] at h
  cases hs:bQ cs i s with
  |none=>rw[hs] at h;cases h
  |some s1=>
   rw[hs] at h
   obtain⟨H1,k1,k2⟩:=nZ hs (by omega) H
   have ih:=λout' (q1:∀j,i+1<=j->aj cs j=31->out'.getD j 0=s2.out.getD j 0) (q2:out'.length=cs.length)=>qR n (i+1) s1 s2 out' h (by omega) H1 q1 q2
   have ih0:=ih out (λj hj h31=>ho j (by omega) h31) hl
   rw[AA.eq_def];dsimp only
   rcases k2 with⟨c,b,e1,e2⟩|⟨c,e1⟩|⟨c,e1⟩|⟨c,e1,e2⟩|⟨c1,c2,c3,c4,e1⟩
   ·have hb:=H.op b (by rw[e1];exact List.mem_cons_self ..)
    have hv:out.getD i 0=b:=by
     rw[ho i (Nat.le_refl _) c,n8 n (i+1) s1 s2 h (by omega) H1 i (by omega) c,e2]
    rw[if_neg (by rw[c];decide),if_pos c,hv,if_pos ⟨by omega,by omega⟩,Int.toNat_natCast]
    by_cases h29:aj cs b=29
    ·have:cf cs s.op=b::cf cs s1.op:=by rw[e1];simp[cf,h29]
     rw[if_pos h29,this]
     exact ih0
    ·have:cf cs s.op=cf cs s1.op:=by rw[e1];simp[cf,h29]
     rw[if_neg h29,this]
     exact ih0
   ·rw[if_pos c]
    have:cf cs s1.op=i::cf cs s.op:=by rw[e1];simp[cf,c]
    rw[<-this]
    exact ih0
   ·rw[if_neg (by rw[c];decide),if_neg (by rw[c];decide),if_neg (by rw[c];decide)]
    have:cf cs s1.op=cf cs s.op:=by rw[e1];simp[cf,c]
    rw[<-this]
    exact ih0
   ·rw[if_neg (by rw[c];decide),if_neg (by rw[c];decide),if_pos c]
    have hne:∃b l,cf cs s.op=b::l:=by
     obtain⟨b,hb,hb2⟩:=List.any_eq_true.1 e2
     cases hlp:cf cs s.op with
     |nil=>
      have:b ∈ cf cs s.op:=List.mem_filter.2 ⟨hb,hb2⟩
      rw[hlp] at this
      cases this
     |cons b l=>exact⟨b,l,rfl⟩
    obtain⟨b,l,hbl⟩:=hne
    rw[hbl]
    obtain⟨out',p1,p2,p3⟩:=ih (out.set i (out.getD b 0)) (λj hj h31=>(a9 (by omega)).trans (ho j (by omega) h31)) (by rw[List.length_set];exact hl)
    rw[e1,hbl] at p1
    exact⟨out',p1,p2,λj hj=>(p3 j hj).trans (a9 (by rintro rfl;exact hj c))⟩
   ·rw[if_neg c2,if_neg c1,if_neg c4,<-e1]
    exact ih0
def qC(cs:List (Int×Int)):List Int×Int×Int:=if 1024<cs.length then([],0,6) else match ej cs with
 |.error x=>([],x,15)
 |.ok out=>((AA cs cs.length 0 out []).getD [],0,0)
theorem PC.no{P:Program}{kk:Nat->Bool}{g:FuncId}{args:List AV}{H:AH}{Q:AV->AH->Prop}{E:List PanicEntry->AH->Prop}(h:PC P kk g args H Q E):PC P (λ_=>false) g args H Q E:=
 ⟨h.1,λB σ w args' hH ha=>(h.2 B σ w args' hH ha).mono λen w' hp=>by
  cases en with
  |returned u=>obtain⟨v,H',σ',q,q1,q2,q3⟩:=hp;exact⟨v,H',σ',q,q1,q2,q3.no⟩
  |panicked c=>exact hp
  |outgrown=>exact hp.elim⟩
def Fo.size:Fo->Nat
 |.nil=>0
 |.pl _ _ r=>r.size+1
 |.br _ _ _ u v r=>u.size+v.size+r.size+1
theorem aA.len{cs:List (Int×Int)}{out:List Int}:∀{o:Fo} {a b:Nat},aA cs out o a b->a+o.len<=b
 |.nil,a,b,h=>by cases h;simp[Fo.len]
 |.pl x y r,a,b,h=>by
  obtain⟨_,h1,_,_,h2⟩:=h
  have:=h2.len
  simp only[Fo.len]
  omega
 |.br op x y u v r,a,b,h=>by
  obtain⟨_,_,_,⟨m,_,h1,_,_,h2⟩,h3⟩:=h
  have:=h3.len
  simp only[Fo.len]
  rcases h2 with⟨_,e,_,h4,_,_,h5⟩|⟨_,_,h5⟩<;>omega
theorem sF(cs:List (Int×Int)):(∃a e:Int,e≠0/\qC cs=([],a,e)/\aw cs=(.nil,a,e))\/
  (∃out o,qC cs=(out,0,0)/\aw cs=(o,0,0)/\cs.length<=1024/\out.length=cs.length/\aA cs out o 0 cs.length):=by
 by_cases h:1024<cs.length
 ·exact .inl ⟨0,6,by decide,by rw[qC,if_pos h],by rw[aw,if_pos h]⟩
 have k:=fI cs
 cases hr:cn cs with
 |error x=>
  rw[hr] at k
  exact .inl ⟨x,15,by decide,by rw[qC,if_neg h,show ej cs= .error x from k],by rw[aw,if_neg h,hr]⟩
 |ok q=>
  obtain⟨o,pt⟩:=q
  rw[hr] at k
  obtain⟨out,k1,k2,k3⟩:=k
  have k1':=k1
  rw[ej] at k1'
  cases hs:bz cs cs.length 0 (r6 cs) with
  |error x=>rw[hs] at k1';cases k1'
  |ok s=>
   rw[hs] at k1'
   dsimp only at k1'
   by_cases hop:s.op=[]
   ·rw[if_pos hop] at k1'
    have hout:s.out=out:=by injection k1'
    obtain⟨out',p1,p2,p3⟩:=qR cs.length 0 (r6 cs) s out hs (by omega) (VG cs) (λ_ _ _=>by rw[hout]) k2
    have p1':AA cs cs.length 0 out []=some out':=p1
    exact .inr ⟨out',o,by rw[qC,if_neg h,k1];show((AA cs cs.length 0 out []).getD [],(0:Int),(0:Int))=_;rw[p1'];rfl,by rw[aw,if_neg h,hr],by omega,p2,k3.congr30 p3⟩
   ·rw[if_neg hop] at k1'
    cases k1'
def gz(la:List (Bool×Int))(loc:Int)(x:Int×Int):Prop:=((x.1=1\/x.1=2)/\loc<=x.2)\/((x.1=3\/x.1=4)/\(la.length:Int)<=x.2)
instance (la:List (Bool×Int)) (loc:Int) (x:Int×Int):Decidable (gz la loc x):=by unfold gz;exact inferInstance
def iE(la:List (Bool×Int))(loc:Int):List (Int×Int)->Nat->Int×Int
 |[],_=>(0,0)
 |x::l,k=>if gz la loc x then((k:Int),2) else iE la loc l (k+1)
def cC(la:List (Bool×Int))(loc:Int)(cs:List (Int×Int)):Int×Int:=if bb la loc cs=0 then(if(aw cs).2.2=0 then iE la loc cs 0 else((aw cs).2.1,(aw cs).2.2)) else(0,bb la loc cs)
theorem jl(la:List (Bool×Int))(loc:Int)(cs:List (Int×Int))(hl:la.length<=9223372036854775807)(hc:cs.length<=9223372036854775807)(ha:bV cs):bN Tryz.prog 28 [aJ la loc cs] [.v (.n .i64 (cC la loc cs).1),.v (.n .i64 (cC la loc cs).2)]:=by
 refine ag aF YI ⟨by simp,by decide⟩ ?_
 simp only[aH,aJ]
 repeat first|with_reducible refine ao ?_|simp only[go_sem,simprocAttr]
 by_cases hf:bb la loc cs=0
 rotate_left
 ·have hF:cC la loc cs=(0,bb la loc cs):=if_neg hf
  rw[hF]
  refine bO ([aJ la loc cs]) (m9 la loc cs hl hc ha hf) ?_
  repeat first|with_reducible refine ao ?_|simp only[hf,ne_eq,not_false_eq_true,decide_true,decide_false,Bool.not_false,go_sem,simprocAttr]
  exact⟨[_,_],rfl,⟨rfl,rfl⟩,⟨rfl,rfl⟩,trivial⟩
 refine bO ([aJ la loc cs]) (lm la loc cs ha hf) ?_
 repeat first|with_reducible refine ao ?_|simp only[ne_eq,not_true_eq_false,decide_true,decide_false,Bool.not_true,go_sem,simprocAttr]
 refine bO ([.fs 2 cs.length (pI cs)]) (ky cs) ?_
 by_cases hp:(aw cs).2.2=0
 rotate_left
 ·have hF:cC la loc cs=((aw cs).2.1,(aw cs).2.2):=by rw[cC,if_pos hf,if_neg hp]
  rw[hF]
  repeat first|with_reducible refine ao ?_|simp only[hp,ne_eq,not_false_eq_true,decide_true,decide_false,Bool.not_false,go_sem,simprocAttr]
  exact⟨[_,_],rfl,⟨rfl,rfl⟩,⟨rfl,rfl⟩,trivial⟩
 have hF:cC la loc cs=iE la loc cs 0:=by rw[cC,if_pos hf,if_pos hp]
 rw[hF]
 repeat first|with_reducible refine ao ?_|simp only[hp,ne_eq,not_true_eq_false,decide_true,decide_false,Bool.not_true,go_sem,simprocAttr]
 refine GA.loop (I:=λm e H=>∃k:Nat,m=cs.length-k/\k<=cs.length/\iE la loc cs 0=iE la loc (cs.drop k) k/\e=aB [(1,.p 0 0),(31,.fs 2 cs.length (pI cs)),(32,.n .i64 cs.length),(33,.n .i64 k)]/\H=ah [ae 0 25 [.fs 2 la.length (pA la),.n .i64 loc,.fs 2 cs.length (pI cs)]]) (Wk.mk [0] [] ?_ ?_ ?_) ⟨0,rfl,Nat.zero_le _,rfl,rfl,rfl⟩ ?_
 ·exact ba
 ·exact .cr (.j3) .nil
 ·simp
 rintro m e H ⟨k,rfl,hk,hs,rfl,rfl⟩
 have h0:(0:Int)<=(k:Int):=by omega
 by_cases h:k<cs.length
 rotate_left
 ·have h':¬(k:Int)<cs.length:=by omega
  have:k=cs.length:=by omega
  subst this
  rw[List.drop_length,iE] at hs
  rw[hs]
  repeat first|with_reducible refine ao ?_|simp only[h',decide_false,go_sem,simprocAttr]
  exact⟨[_,_],rfl,⟨rfl,rfl⟩,⟨rfl,rfl⟩,trivial⟩
 have h':(k:Int)<cs.length:=by omega
 have wk:IntKind.i64.wrap ((k:Int)+1)=((k+1:Nat):Int):=(am (by omega)).trans (by omega)
 have hx:=ha _ (eD (d:=(0,0)) h)
 have wx:IntKind.i64.wrap (cs.getD k (0,0)).2=(cs.getD k (0,0)).2:=am (by omega)
 rw[cF (d:=(0,0)) h,iE] at hs
 have nx:∀(v:Int),(cs.getD k (0,0)).1=v->¬(v=1\/v=2)->¬(v=3\/v=4)->¬gz la loc (cs.getD k (0,0)):=λv e h1 h2 hb=>by
  subst e
  rcases hb with hb|hb
  ·exact h1 hb.1
  ·exact h2 hb.1
 by_cases hop:(cs.getD k (0,0)).1=1\/(cs.getD k (0,0)).1=2
 ·have h34:¬((cs.getD k (0,0)).1=3\/(cs.getD k (0,0)).1=4):=by omega
  by_cases hb:loc<=(cs.getD k (0,0)).2
  ·rw[if_pos (.inl ⟨hop,hb⟩)] at hs
   rw[hs]
   rcases hop with e|e
   all_goals
    repeat first|with_reducible refine ao ?_|simp only[h0,h',cT,ph,e,wx,hb,ge_iff_le,decide_true,decide_false,go_sem,simprocAttr]
    exact⟨[_,_],rfl,⟨rfl,rfl⟩,⟨rfl,rfl⟩,trivial⟩
  ·rw[if_neg (λh=>h.elim (λh=>hb h.2) (λh=>h34 h.1))] at hs
   rcases hop with e|e
   all_goals
    repeat first|with_reducible refine ao ?_|simp only[h0,h',cT,ph,e,wx,hb,wk,ge_iff_le,decide_true,decide_false,go_sem,simprocAttr]
    refine⟨_,_,_,?_,Wk.mk [0] [] ?_ ?_ ?_,k+1,rfl,by omega,hs,rfl,rfl⟩
    ·omega
    ·exact ba
    ·exact .cr .ls .nil
    ·simp
 have n1:¬(cs.getD k (0,0)).1=1:=λh=>hop (.inl h)
 have n2:¬(cs.getD k (0,0)).1=2:=λh=>hop (.inr h)
 by_cases hop2:(cs.getD k (0,0)).1=3\/(cs.getD k (0,0)).1=4
 ·by_cases hb:(la.length:Int)<=(cs.getD k (0,0)).2
  ·rw[if_pos (.inr ⟨hop2,hb⟩)] at hs
   rw[hs]
   rcases hop2 with e|e
   all_goals
    repeat first|with_reducible refine ao ?_|simp only[h0,h',cT,ph,e,wx,hb,ge_iff_le,decide_true,decide_false,go_sem,simprocAttr]
    exact⟨[_,_],rfl,⟨rfl,rfl⟩,⟨rfl,rfl⟩,trivial⟩
  ·rw[if_neg (λh=>h.elim (λh=>hop h.1) (λh=>hb h.2))] at hs
   rcases hop2 with e|e
   all_goals
    repeat first|with_reducible refine ao ?_|simp only[h0,h',cT,ph,e,wx,hb,wk,ge_iff_le,decide_true,decide_false,go_sem,simprocAttr]
    refine⟨_,_,_,?_,Wk.mk [0] [] ?_ ?_ ?_,k+1,rfl,by omega,hs,rfl,rfl⟩
    ·omega
    ·exact ba
    ·exact .cr .ls .nil
    ·simp
 have n3:¬(cs.getD k (0,0)).1=3:=λh=>hop2 (.inl h)
 have n4:¬(cs.getD k (0,0)).1=4:=λh=>hop2 (.inr h)
 rw[if_neg (λh=>h.elim (λh=>hop h.1) (λh=>hop2 h.1))] at hs
 repeat first|with_reducible refine ao ?_|simp only[h0,h',cT,ph,n1,n2,n3,n4,wk,decide_true,decide_false,go_sem,simprocAttr]
 refine⟨_,_,_,?_,Wk.mk [0] [] ?_ ?_ ?_,k+1,rfl,by omega,hs,rfl,rfl⟩
 ·omega
 ·exact ba
 ·exact .cr .ls .nil
 ·simp
theorem ch(k:IntKind)(x:Int):dw (pure (Value.int k x))=some (.n k x):=rfl
def aX(n:Int):Int:=if 281474976710657<n then 281474976710657 else n
def bc(a n:Int):Int:=if 0<n/\281474976710657 / n<a then 281474976710657 else aX (a*n)
def jz(n:Int):Int×Int:=if 281474976710657<=n then(0,18) else(n,0)
theorem ay{n:Int}(h:0<=n):0<=aX n/\aX n<=281474976710657:=by unfold aX;split<;>omega
theorem bo{a n:Int}(h:0<=a)(hn:0<=n):0<=bc a n/\bc a n<=281474976710657:=by
 unfold bc
 split
 ·omega
 ·exact ay (Int.mul_nonneg h hn)
theorem fJ(a b:Int)(ha:0<=a/\a<=1125899906842624)(hb:0<=b/\b<=1125899906842624):bN Tryz.prog 66 [.n .i64 a,.n .i64 b] [.v (.n .i64 (aX (a+b)))]:=by
 refine ag aF NB ⟨by simp,by decide⟩ ?_
 simp only[aH]
 have w:IntKind.i64.wrap (a+b)=a+b:=am (by omega)
 repeat first|with_reducible refine ao ?_|simp only[w,ox,gF,BV,go_sem,simprocAttr]
 exact aa rfl rfl
theorem iz(n:Int):bN Tryz.prog 23 [.n .i64 n] [.v (.n .i64 (jz n).1),.v (.n .i64 (jz n).2)]:=by
 refine ag aF Ni ⟨by simp,by decide⟩ ?_
 simp only[aH]
 by_cases h:281474976710657<=n
 ·rw[show jz n=(0,18) from if_pos h]
  repeat first|with_reducible refine ao ?_|simp only[h,ge_iff_le,decide_true,go_sem,simprocAttr]
  exact⟨[_,_],rfl,⟨rfl,rfl⟩,⟨rfl,rfl⟩,trivial⟩
 ·rw[show jz n=(n,0) from if_neg h]
  repeat first|with_reducible refine ao ?_|simp only[h,ge_iff_le,decide_false,go_sem,simprocAttr]
  exact⟨[_,_],rfl,⟨rfl,rfl⟩,⟨rfl,rfl⟩,trivial⟩
theorem nW(a n:Int)(ha:0<=a/\a<=281474976710657)(hn:0<=n/\n<=65536):bN Tryz.prog 24 [.n .i64 a,.n .i64 n] [.v (.n .i64 (bc a n))]:=by
 refine ag aF Nn ⟨by simp,by decide⟩ ?_
 simp only[aH]
 by_cases h:0<n
 ·have hq:¬n=0:=by omega
  have wq:IntKind.i64.wrap (Int.tdiv 281474976710657 n)=281474976710657 / n:=by
   rw[Int.tdiv_eq_ediv_of_nonneg (by decide)]
   have h1:281474976710657 / n<=281474976710657:=Int.ediv_le_self _ (by decide)
   have h2:0<=281474976710657 / n:=Int.ediv_nonneg (by decide) (by omega)
   exact am (by omega)
  by_cases hc:281474976710657 / n<a
  ·rw[show bc a n=281474976710657 from if_pos ⟨h,hc⟩]
   repeat first|with_reducible refine ao ?_|simp only[h,kv hq,hq,if_false,ch,wq,hc,gt_iff_lt,decide_true,go_sem,simprocAttr]
   exact aa rfl rfl
  ·rw[show bc a n=aX (a*n) from if_neg (λk=>hc k.2)]
   have hp:a*n<=281474976710657:=by
    have:=Int.mul_le_of_le_ediv h (Int.not_lt.1 hc)
    exact this
   have hp0:0<=a*n:=Int.mul_nonneg ha.1 hn.1
   have w:IntKind.i64.wrap (a*n)=a*n:=am (by omega)
   repeat first|with_reducible refine ao ?_|simp only[h,kv hq,hq,if_false,ch,wq,hc,w,gt_iff_lt,ox,gF,BV,decide_true,decide_false,go_sem,simprocAttr]
   exact aa rfl rfl
 ·obtain rfl:n=0:=by omega
  rw[show bc a 0=aX (a*0) from if_neg (λk=>h k.1)]
  have w:IntKind.i64.wrap (a*0)=a*0:=am (by omega)
  repeat first|with_reducible refine ao ?_|simp only[h,w,gt_iff_lt,ox,gF,BV,decide_false,go_sem,simprocAttr]
  exact aa rfl rfl
abbrev Iv:=Int×Int
abbrev Vl:=Bool×Iv
abbrev cO(x:Iv):Prop:=0<=x.1/\x.1<=x.2/\x.2<=4294967295
def jb(i j:Int):Int:=if j<i then j else i
def aU(i j:Int):Int:=if i<j then j else i
def wL(x:Iv):Int:=if x.1<0\/4294967295<x.1\/x.2<0\/4294967295<x.2 then 2 else if x.2<x.1 then 29 else 0
theorem i7{x:Iv}:wL x=0↔cO x:=by
 unfold wL
 split
 ·rename_i h;constructor
  ·intro h';cases h'
  ·intro h';omega
 ·split
  ·rename_i h1 h2;constructor
   ·intro h';cases h'
   ·intro h';omega
  ·rename_i h1 h2;constructor
   ·intro _;refine⟨?_,?_,?_⟩<;>omega
   ·intro _;rfl
def fP(x y:Iv):Iv:=if cO x/\cO y then(jb x.1 y.1,aU x.2 y.2) else(0,0)
def Ch(n:Int):Int:=if n<=255 then 255 else if n<=65535 then 65535 else 4294967295
def fo(x y:Iv):Iv:=if cO x/\cO y then(if y.1<x.1 then 0 else x.1,if x.2<y.2 then Ch y.2 else x.2) else(0,0)
def dh(x y:Iv):Bool:=decide (cO x/\cO y)&&decide (y.1<=x.1)&&decide (x.2<=y.2)
theorem yb{x y:Iv}:cO (fP x y):=by
 unfold fP jb aU
 split
 ·rename_i h
  obtain⟨⟨h1,h2,h3⟩,h4,h5,h6⟩:=h
  refine⟨?_,?_,?_⟩<;>(dsimp only;repeat' split)<;>omega
 ·exact⟨by decide,by decide,by decide⟩
theorem vp{x y:Iv}:cO (fo x y):=by
 unfold fo Ch
 split
 ·rename_i h
  obtain⟨⟨h1,h2,h3⟩,h4,h5,h6⟩:=h
  refine⟨?_,?_,?_⟩<;>(dsimp only;repeat' split)<;>omega
 ·exact⟨by decide,by decide,by decide⟩
theorem om{x:Iv}(h:cO x):fP x x=x:=by
 unfold fP jb aU
 rw[if_pos ⟨h,h⟩,if_neg (Int.lt_irrefl _),if_neg (Int.lt_irrefl _)]
theorem sj{x:Iv}(h:cO x):fo x x=x:=by
 unfold fo
 rw[if_pos ⟨h,h⟩,if_neg (Int.lt_irrefl _),if_neg (Int.lt_irrefl _)]
theorem qc{x:Iv}(h:cO x):dh x x=true:=by simp[dh,h]
theorem qe{x:Iv}(h:cO x):dh x (0,4294967295)=true:=by
 have:cO (0,4294967295):=⟨by decide,by decide,by decide⟩
 simp[dh,h]
/-! ### the arithmetic of intervals-/
def fK(n:Int):Int:=if n=0 then 0 else(2:Int)^(Nat.log2 n.toNat+1)-1
def cW(l h:Int):Iv:=if 0<=l/\h<=4294967295 then(l,h) else if 4294967295<l then(l-4294967296,h-4294967296) else if h<0 then(l+4294967296,h+4294967296) else(0,4294967295)
def WA(a b:Int):Int:=IntKind.u32.wrap ((BitVec.ofInt 32 a&&& BitVec.ofInt 32 b).toNat:Int)
def orU(a b:Int):Int:=IntKind.u32.wrap ((BitVec.ofInt 32 a|||BitVec.ofInt 32 b).toNat:Int)
def uQ(a b:Int):Int:=IntKind.u32.wrap ((BitVec.ofInt 32 a ^^^ BitVec.ofInt 32 b).toNat:Int)
def Db(a b:Int):Int:=uQ (IntKind.u32.wrap (uQ a (IntKind.u32.wrap (b*2654435761))*2246822519)) (IntKind.u32.wrap (uQ a (IntKind.u32.wrap (b*2654435761))*2246822519) / 65536)
def cD(op a b:Int):Int:=
 if op=8 then IntKind.u32.wrap (a+b) else if op=9 then IntKind.u32.wrap (a-b) else if op=10 then IntKind.u32.wrap (a*b) else if op=11 then a / b else if op=12 then a%b
 else if op=13 then WA a b else if op=14 then orU a b else if op=15 then uQ a b else if op=16 then IntKind.u32.wrap (a*2^(b%32).toNat) else if op=17 then a / 2^(b%32).toNat
 else if op=18 then jb a b else if op=19 then aU a b else Db a b
def b7(op:Int)(x y:Iv):Iv:=
 if op=8 then cW (x.1+y.1) (x.2+y.2) else if op=9 then cW (x.1-y.2) (x.2-y.1)
 else if op=10 then(if 0<y.2/\4294967295 / y.2<x.2 then(0,4294967295) else(x.1*y.1,x.2*y.2))
 else if op=11 then(x.1 / y.2,x.2 / y.1)
 else if op=12 then(if x.2<y.1 then x else(0,jb x.2 (y.2-1)))
 else if op=13 then(0,jb x.2 y.2) else if op=14 then(aU x.1 y.1,fK (aU x.2 y.2)) else if op=15 then(0,fK (aU x.2 y.2))
 else if op=16 then(if y.1≠y.2\/4294967295 / 2^(y.1%32).toNat<x.2 then(0,4294967295) else(x.1*2^(y.1%32).toNat,x.2*2^(y.1%32).toNat))
 else if op=17 then(if y.2<=31 then(x.1 / 2^y.2.toNat,x.2 / 2^y.1.toNat) else if y.1=y.2 then(x.1 / 2^(y.1%32).toNat,x.2 / 2^(y.1%32).toNat) else(0,x.2))
 else if op=18 then(jb x.1 y.1,jb x.2 y.2) else if op=19 then(aU x.1 y.1,aU x.2 y.2) else(0,4294967295)
def bm(op:Int)(x y:Iv):Iv×Int:=
 if y.1=0/\(op=11\/op=12) then((0,0),17) else if x.1=x.2/\y.1=y.2 then((cD op x.1 y.1,cD op x.1 y.1),0) else(b7 op x y,0)
/-! ### the state-/
structure WS where
 loc:List Iv
 st:List Vl
 ht:Int
 lv:List (List Iv)
 lp:List (Int×Int)
abbrev Er:=Int×Int
abbrev Bd:=Int×Int
def bA(b c:Bd):Bd:=(aX (b.1+c.1),aX (b.2+c.2))
def ft(b:Bd)(n:Int):Bd:=(bc (aX (b.1+1)) n,bc b.2 n)
def V5(c:UInt8)(v:Vl):Bool:=if c=110 then !v.1 else if c=116 then v.1 else true
def jR:List Vl->List UInt8->Bool
 |v::l,c::m=>V5 c v&&jR l m
 |_,_=>true
def eS(p:Int)(base:Nat)(ty:List UInt8)(S:WS):Except Er (List Vl×WS):=
 if S.st.length<base+ty.length then .error (p,14)
 else if jR (S.st.drop (S.st.length-ty.length)) ty=true then .ok (S.st.drop (S.st.length-ty.length),{S with st:=S.st.take (S.st.length-ty.length)})
 else .error (p,13)
def bX(p:Int)(l:List Vl)(S:WS):Except Er WS:=if(S.st++l).length<=32 then .ok {S with st:=S.st++l,ht:=aU S.ht ((S.st++l).length:Nat)} else .error (p,14)
def dA(la:List (Bool×Int))(arg:Int)(p:Int)(v:Vl):Except Er Iv:=
 if v.2.2<(la.getD arg.toNat (false,0)).2 then .ok (if(la.getD arg.toNat (false,0)).1=true then(0,4294967295) else(0,255)) else .error (p,16)
def v0:Vl:=(false,0,0)
def cx(b:Bd):Except Er WS->Except Er (WS×Bd)
 |.error e=> .error e
 |.ok S=> .ok (S,b)
def b8(la:List (Bool×Int))(op arg:Int)(p:Int)(l:List Vl)(S:WS):Except Er (WS×Bd):=
 if op=0 then cx (1,0) (bX p [(false,arg,arg)] S)
 else if op=1 then cx (1,0) (bX p [(false,S.loc.getD arg.toNat (0,0))] S)
 else if op=2 then .ok ({S with loc:=S.loc.set arg.toNat (l.getD 0 v0).2},(1,0))
 else if op=3 then match dA la arg p (l.getD 0 v0) with
  |.error e=> .error e
  |.ok x=>cx (1,0) (bX p [(false,x)] S)
 else if op=4 then match dA la arg p (l.getD 0 v0) with
  |.error e=> .error e
  |.ok x=> .ok (S,(1,0))
 else if op=5 then cx (1,0) (bX p [l.getD 0 v0,l.getD 0 v0] S)
 else if op=7 then cx (1,0) (bX p [l.getD 1 v0,l.getD 0 v0] S)
 else if op=6\/op=35 then .ok (S,(1,0))
 else if op=34 then .ok (S,(1,1))
 else if op=32 then cx (1,0) (bX p [(false,0,4294967295)] S)
 else if op=26 then cx (1,0) (bX p [(false,0,1)] S)
 else if(eU op).2=[116] then cx (1,0) (bX p [(true,0,0)] S)
 else if(bm op (l.getD 0 v0).2 (l.getD 1 v0).2).2=0 then cx (1,0) (bX p [(false,(bm op (l.getD 0 v0).2 (l.getD 1 v0).2).1)] S)
 else .error (p,(bm op (l.getD 0 v0).2 (l.getD 1 v0).2).2)
def dI(la:List (Bool×Int))(op arg:Int)(p:Int)(base:Nat)(S:WS):Except Er (WS×Bd):=match eS p base (eU op).1 S with
 |.error e=> .error e
 |.ok (l,S1)=>b8 la op arg p l S1
def fu(cs:List (Int×Int))(la:List (Bool×Int))(base loop:Nat)(p:Nat)(S:WS):Except Er (WS×Bd):=
 if aj cs p=30 then match eS p base [116] S with
  |.error e=> .error e
  |.ok (_,S1)=>if S1.st.length=loop then .ok ({S1 with lv:=S1.lv++[S1.loc]},(1,0)) else .error (p,14)
 else dI la (aj cs p) (cs.getD p (0,0)).2 p base S
def g9(cs:List (Int×Int))(la:List (Bool×Int))(base loop:Nat):Nat->Nat->WS->Bd->Except Er (WS×Bd)
 |0,_,S,b=> .ok (S,b)
 |n+1,p,S,b=>match fu cs la base loop p S with
  |.error e=> .error e
  |.ok (S',x)=>g9 cs la base loop n (p+1) S' (bA b x)
def bL:List Iv->List Iv->List Iv
 |[],_=>[]
 |x::l,m=>fP x (m.headD (0,0))::bL l m.tail
def b9:List Iv->List Iv->Bool
 |[],[]=>true
 |x::l,y::m=>dh x y&&b9 l m
 |_,_=>false
def stoF(cs:List (Int×Int)):Nat->Nat->Nat->Bool
 |_,0,_=>false
 |p,n+1,i=>decide (cs.getD p (0,0)=(2,(i:Int)))||stoF cs (p+1) n i
def dQ(sto:Nat->Bool)(pass:Int):Nat->List Iv->List Iv->List Iv
 |_,[],_=>[]
 |i,x::l,m=>(if pass<3 then fo x (fP x (m.headD (0,0))) else if sto i=true then(0,4294967295) else x)::dQ sto pass (i+1) l m.tail
def gJ(body:WS->Option (Except Er (WS×Bd)))(to h:Nat)(sto:Nat->Bool):Nat->Int->List Iv->WS->Option (Except Er (List Iv×WS×Bd))
 |0,_,_,_=>none
 |f+1,pass,head,S=>match body {S with loc:=head,lv:=[]} with
  |none=>none
  |some (.error e)=>some (.error e)
  |some (.ok (S',b))=>if S'.st.length=h then(if b9 S'.loc head=true then some (.ok (head,S',b)) else gJ body to h sto f (pass+1) (dQ sto pass 0 head S'.loc) S') else some (.error (to,14))
def fM:List (Int×Int)->Int->Int->List (Int×Int)
 |[],p,n=>[(p,n)]
 |x::l,p,n=>if x.1=p then(p,n)::l else x::fM l p n
def aW(cs:List (Int×Int))(la:List (Bool×Int)):Fo->Nat->Nat->WS->Bd->Option (Except Er (WS×Bd))
 |.nil,_,_,S,b=>some (.ok (S,b))
 |.pl x y r,base,loop,S,b=>match g9 cs la base loop (y-x) x S b with
  |.error e=>some (.error e)
  |.ok (S',b')=>aW cs la r base loop S' b'
 |.br op x y u v r,base,loop,S,b=>
  if op=27 then match eS x base [116] S with
   |.error e=>some (.error e)
   |.ok (_,S1)=>match aW cs la u S1.st.length loop S1 (0,0) with
    |none=>none
    |some (.error e)=>some (.error e)
    |some (.ok (S2,bx))=>
     if S2.st.length=S1.st.length then
      if aj cs (u.lastB (x+1))=28 then match aW cs la v S1.st.length loop {S2 with loc:=S1.loc} (0,0) with
       |none=>none
       |some (.error e)=>some (.error e)
       |some (.ok (S4,by_))=>
        if S4.st.length=S1.st.length then aW cs la r base loop {S4 with loc:=bL S2.loc S4.loc} (bA b (bA (aU bx.1 by_.1,aU bx.2 by_.2) (1,0)))
        else some (.error ((v.lastB (u.lastB (x+1)+1):Nat),14))
      else aW cs la r base loop {S2 with loc:=bL S2.loc S1.loc} (bA b (bA (aU bx.1 0,aU bx.2 0) (1,0)))
     else some (.error ((u.lastB (x+1):Nat),14))
  else match eS x base [110] S with
   |.error e=>some (.error e)
   |.ok (l,S1)=>
    if(l.getD 0 v0).2.2<=65536 then match gJ (λS'=>aW cs la u S1.st.length S1.st.length S' (0,0)) (u.lastB (x+1)) S1.st.length (stoF cs x (u.lastB (x+1)-x)) 6 1 S1.loc S1 with
     |none=>none
     |some (.error e)=>some (.error e)
     |some (.ok (head,S2,bx))=>aW cs la r base loop {S2 with loc:=S2.lv.foldl bL head,lv:=S1.lv,lp:=fM S2.lp x (l.getD 0 v0).2.2} (bA b (bA (ft bx (l.getD 0 v0).2.2) (1,0)))
    else some (.error (x,18))
def sd(n:Nat)(l:List Iv):Prop:=l.length=n/\∀x ∈ l,cO x
structure WF(n:Nat)(S:WS):Prop where
 loc:sd n S.loc
 st:∀v ∈ S.st,cO v.2
 lv:∀l ∈ S.lv,sd n l
def jf(b:Bd):Prop:=(0<=b.1/\b.1<=281474976710657)/\0<=b.2/\b.2<=281474976710657
theorem bf{b c:Bd}(hb:0<=b.1/\0<=b.2)(hc:0<=c.1/\0<=c.2):jf (bA b c):=⟨ay (by omega),ay (by omega)⟩
theorem iK{b:Bd}(hb:jf b){n:Int}(hn:0<=n):jf (ft b n):=⟨bo (ay (by have:=hb.1;omega)).1 hn,bo hb.2.1 hn⟩
theorem eC:∀(l m:List Iv),(bL l m).length=l.length
 |[],_=>rfl
 |x::l,m=>by simp[bL,eC l m.tail]
theorem ra:∀(l m:List Iv),∀x ∈ bL l m,cO x
 |[],_,x,h=>by cases h
 |y::l,m,x,h=>by
  rcases List.mem_cons.1 h with rfl|h
  ·exact yb
  ·exact ra l m.tail x h
theorem dM{n:Nat}{l:List Iv}(h:l.length=n)(m:List Iv):sd n (bL l m):=⟨(eC l m).trans h,ra l m⟩
theorem rk{l:List Iv}(h:∀x ∈ l,cO x)(i:Nat):cO (l.getD i (0,0)):=by
 rw[List.getD_eq_getElem?_getD]
 cases hi:l[i]? with
 |none=>exact⟨by decide,by decide,by decide⟩
 |some x=>exact h x (List.mem_of_getElem? hi)
theorem du{l:List Vl}(h:∀v ∈ l,cO v.2)(i:Nat):cO (l.getD i v0).2:=by
 rw[List.getD_eq_getElem?_getD]
 cases hi:l[i]? with
 |none=>exact⟨by decide,by decide,by decide⟩
 |some x=>exact h x (List.mem_of_getElem? hi)
theorem iY:∀(l m:List Iv) (i:Nat),i<l.length->(bL l m).getD i (0,0)=fP (l.getD i (0,0)) (m.getD i (0,0))
 |[],_,i,h=>absurd h (Nat.not_lt_zero _)
 |x::l,m,0,h=>by cases m<;>rfl
 |x::l,m,i+1,h=>by
  have:=iY l m.tail i (by simpa using h)
  cases m with
  |nil=>simpa [bL] using this
  |cons y m=>simpa [bL] using this
theorem ir{n:Nat}:∀(ls:List (List Iv)) (h:List Iv),sd n h->sd n (ls.foldl bL h)
 |[],h,hh=>hh
 |l::ls,h,hh=>ir ls _ (dM hh.1 l)
theorem jD(sto:Nat->Bool)(p:Int):∀(i:Nat) (l m:List Iv),(dQ sto p i l m).length=l.length
 |_,[],_=>rfl
 |i,x::l,m=>by simp[dQ,jD sto p (i+1) l m.tail]
theorem eL:cO (0,4294967295):=⟨by decide,by decide,by decide⟩
theorem oJ(sto:Nat->Bool)(p:Int):∀(i:Nat) (l m:List Iv),(∀x ∈ l,cO x)->∀x ∈ dQ sto p i l m,cO x
 |_,[],_,_,x,h=>by cases h
 |i,y::l,m,hl,x,h=>by
  rcases List.mem_cons.1 h with rfl|h
  ·split
   ·exact vp
   ·split
    ·exact eL
    ·exact hl y (List.mem_cons_self ..)
  ·exact oJ sto p (i+1) l m.tail (λx hx=>hl x (List.mem_cons_of_mem _ hx)) x h
theorem gB{n:Nat}{l:List Iv}(h:sd n l)(sto:Nat->Bool)(p:Int)(i:Nat)(m:List Iv):sd n (dQ sto p i l m):=⟨(jD sto p i l m).trans h.1,oJ sto p i l m h.2⟩
theorem gA(sto:Nat->Bool)(p:Int):∀(k:Nat) (l m:List Iv) (i:Nat),i<l.length->(dQ sto p k l m).getD i (0,0)=if p<3 then fo (l.getD i (0,0)) (fP (l.getD i (0,0)) (m.getD i (0,0))) else if sto (k+i)=true then(0,4294967295) else l.getD i (0,0)
 |_,[],_,i,h=>absurd h (Nat.not_lt_zero _)
 |k,x::l,m,0,h=>by cases m<;>rfl
 |k,x::l,m,i+1,h=>by
  have:=gA sto p (k+1) l m.tail i (by simpa using h)
  rw[show k+1+i=k+(i+1) by omega] at this
  cases m with
  |nil=>simpa [dQ] using this
  |cons y m=>simpa [dQ] using this
theorem lV{n:Nat}:∀{l m:List Iv},l.length=m.length->(∀i,i<l.length->dh (l.getD i (0,0)) (m.getD i (0,0))=true)->b9 l m=true
 |[],[],_,_=>rfl
 |[],_::_,h,_=>by simp at h
 |_::_,[],h,_=>by simp at h
 |x::l,y::m,h,hw=>by
  have h0:dh x y=true:=hw 0 (by simp)
  rw[b9,h0,Bool.true_and]
  exact lV (n:=n) (by simpa using h) λi hi=>hw (i+1) (by simpa using hi)
theorem jL(cs:List (Int×Int))(i:Nat):∀(p n:Nat),stoF cs p n i=true↔∃k,p<=k/\k<p+n/\cs.getD k (0,0)=(2,(i:Int))
 |p,0=>by
  constructor
  ·intro h;cases h
  ·rintro ⟨k,h1,h2,_⟩;omega
 |p,n+1=>by
  rw[stoF,Bool.or_eq_true,decide_eq_true_eq,jL cs i (p+1) n]
  constructor
  ·rintro (h|⟨k,h1,h2,h3⟩)
   ·exact⟨p,Nat.le_refl _,by omega,h⟩
   ·exact⟨k,by omega,by omega,h3⟩
  ·rintro ⟨k,h1,h2,h3⟩
   by_cases e:k=p
   ·subst e;exact .inl h3
   ·exact .inr ⟨k,by omega,by omega,h3⟩
theorem cz{cs:List (Int×Int)}{i a n a' n':Nat}(h:stoF cs a n i=false)(h1:a<=a')(h2:a'+n'<=a+n):stoF cs a' n' i=false:=by
 rw[<-Bool.not_eq_true] at h ⊢
 intro hh
 obtain⟨k,k1,k2,k3⟩:=(jL cs i a' n').1 hh
 exact h ((jL cs i a n).2 ⟨k,by omega,by omega,k3⟩)
/-! ### pops and pushes-/
theorem BD{p:Int}{base:Nat}{ty:List UInt8}{S S1:WS}{l:List Vl}(h:eS p base ty S= .ok (l,S1)):base+ty.length<=S.st.length/\l=S.st.drop (S.st.length-ty.length)/\S1={S with st:=S.st.take (S.st.length-ty.length)}/\jR l ty=true:=by
 unfold eS at h
 split at h
 ·cases h
 ·rename_i h1
  split at h
  ·rename_i h2
   cases h
   exact⟨by omega,rfl,rfl,h2⟩
  ·cases h
theorem ce{n:Nat}{p:Int}{base:Nat}{ty:List UInt8}{S S1:WS}{l:List Vl}(h:eS p base ty S= .ok (l,S1))(hS:WF n S):WF n S1/\(∀v ∈ l,cO v.2)/\S1.loc=S.loc/\S1.lv=S.lv/\S1.lp=S.lp:=by
 obtain⟨h1,rfl,rfl,_⟩:=BD h
 exact⟨⟨hS.loc,λv hv=>hS.st v (List.mem_of_mem_take hv),hS.lv⟩,λv hv=>hS.st v (List.mem_of_mem_drop hv),rfl,rfl,rfl⟩
theorem xU{p:Int}{l:List Vl}{S S1:WS}(h:bX p l S= .ok S1):(S.st++l).length<=32/\S1={S with st:=S.st++l,ht:=aU S.ht ((S.st++l).length:Nat)}:=by
 unfold bX at h
 split at h
 ·rename_i h1;cases h;exact⟨h1,rfl⟩
 ·cases h
theorem xT{n:Nat}{p:Int}{l:List Vl}{S S1:WS}(h:bX p l S= .ok S1)(hS:WF n S)(hl:∀v ∈ l,cO v.2):WF n S1/\S1.loc=S.loc/\S1.lv=S.lv/\S1.lp=S.lp:=by
 obtain⟨_,rfl⟩:=xU h
 exact⟨⟨hS.loc,λv hv=>by rcases List.mem_append.1 hv with h|h;exact hS.st v h;exact hl v h,hS.lv⟩,rfl,rfl,rfl⟩
theorem xp{b b':Bd}{r:Except Er WS}{S:WS}(h:cx b r= .ok (S,b')):r= .ok S/\b'=b:=by
 cases r with
 |error e=>cases h
 |ok S'=>cases h;exact⟨rfl,rfl⟩
theorem zP{la:List (Bool×Int)}{arg p:Int}{v:Vl}{x:Iv}(h:dA la arg p v= .ok x):cO x:=by
 unfold dA at h
 split at h
 ·cases h
  split
  ·exact eL
  ·exact⟨by decide,by decide,by decide⟩
 ·cases h
theorem ga(x:Int):0<=IntKind.u32.wrap x/\IntKind.u32.wrap x<=4294967295:=by
 rw[IntKind.wrap_u32];omega
theorem uc{n:Int}(h:0<=n/\n<=4294967295):n<=fK n/\fK n<=4294967295:=by
 unfold fK
 split
 ·omega
 ·rename_i h0
  obtain⟨k,rfl⟩:=Int.eq_ofNat_of_zero_le h.1
  have hk:k≠0:=by omega
  have h1:k<2^(Nat.log2 k+1):=Nat.lt_log2_self
  have h2:2^Nat.log2 k<=k:=Nat.log2_self_le hk
  have h3:Nat.log2 k<32:=(Nat.log2_lt hk).2 (by omega)
  have h4:2^(Nat.log2 k+1)<=2^32:=Nat.pow_le_pow_right (by decide) (by omega)
  have e:((2:Int)^(Nat.log2 (Int.toNat (k:Int))+1))=((2^(Nat.log2 k+1):Nat):Int):=by simp
  rw[e]
  omega
theorem jx{a b:Int}(ha:0<=a)(hb:0<=b):0<=a / b/\a / b<=a:=⟨Int.ediv_nonneg ha hb,Int.ediv_le_self _ ha⟩
theorem jI(k:Nat):(0:Int)<2^k:=by
 have:(0:Int)<2:=by decide
 exact Int.pow_pos this
theorem qI{op:Int}(h:8<=op/\op<=20):op=8\/op=9\/op=10\/op=11\/op=12\/op=13\/op=14\/op=15\/op=16\/op=17\/op=18\/op=19\/op=20:=by omega
theorem kO{op a b:Int}(h:8<=op/\op<=20)(ha:0<=a/\a<=4294967295)(hb:0<=b/\b<=4294967295)(hz:b=0->op≠11/\op≠12):0<=cD op a b/\cD op a b<=4294967295:=by
 have hd:=jx ha.1 hb.1
 have hd2:=jx ha.1 (Int.le_of_lt (jI (b%32).toNat))
 rcases qI h with rfl|rfl|rfl|rfl|rfl|rfl|rfl|rfl|rfl|rfl|rfl|rfl|rfl
 all_goals simp(config:={decide:=true}) only[cD,if_true,if_false]
 ·exact ga _
 ·exact ga _
 ·exact ga _
 ·omega
 ·have h1:=Int.emod_nonneg a (show b≠0 from λh0=>(hz h0).2 rfl)
  have h2:=Int.emod_lt_of_pos a (show 0<b from by have:=λh0=>(hz h0).2 rfl;omega)
  omega
 ·exact ga _
 ·exact ga _
 ·exact ga _
 ·exact ga _
 ·omega
 ·unfold jb;split<;>omega
 ·unfold aU;split<;>omega
 ·exact ga _
theorem ym{a b c d:Int}(h0:0<=a)(h1:a<=b)(h2:0<=c)(h3:c<=d):0<=a*c/\a*c<=b*d:=⟨Int.mul_nonneg h0 h2,Int.mul_le_mul h1 h3 h2 (by omega)⟩
theorem qr{l h:Int}(h1: -4294967296<=l)(h2:l<=h)(h3:h<=8589934590):cO (cW l h):=by
 unfold cW
 repeat' split
 all_goals first|exact eL|(refine⟨?_,?_,?_⟩<;>dsimp only<;>omega)
theorem ni{a b c d:Int}(h0:0<=a)(h1:a<=b)(hc:0<c)(h2:c<=d):0<=a / d/\a / d<=b / c/\b / c<=b:=by
 refine⟨Int.ediv_nonneg h0 (by omega),?_,Int.ediv_le_self _ (by omega)⟩
 have e1:a / d*c<=a / d*d:=Int.mul_le_mul_of_nonneg_left h2 (Int.ediv_nonneg h0 (by omega))
 have e2:a / d*d<=a:=Int.ediv_mul_le a (by omega)
 exact(Int.le_ediv_iff_mul_le hc).2 (by omega)
theorem vf{a b:Nat}(h:a<=b):(2:Int)^a<=2^b:=by
 have:=Nat.pow_le_pow_right (show 0<2 by decide) h
 have e:∀k:Nat,((2:Int)^k)=((2^k:Nat):Int):=λk=>by simp
 rw[e,e]
 omega
theorem Bx{op:Int}{x y:Iv}(h:8<=op/\op<=20)(hx:cO x)(hy:cO y)(hz:y.1=0->op≠11/\op≠12):cO (b7 op x y):=by
 obtain⟨a,b⟩:=x
 obtain⟨c,d⟩:=y
 obtain⟨x1,x2,x3⟩:=hx
 obtain⟨y1,y2,y3⟩:=hy
 dsimp only at x1 x2 x3 y1 y2 y3 hz
 have hone:=uc (n:=aU b d) (by unfold aU;split<;>omega)
 rcases qI h with rfl|rfl|rfl|rfl|rfl|rfl|rfl|rfl|rfl|rfl|rfl|rfl|rfl
 all_goals simp(config:={decide:=true}) only[b7,if_true,if_false]
 ·exact qr (by omega) (by omega) (by omega)
 ·exact qr (by omega) (by omega) (by omega)
 ·split
  ·exact eL
  ·rename_i hq
   have h1:=ym x1 x2 y1 y2
   refine⟨h1.1,h1.2,?_⟩
   by_cases hd:0<d
   ·exact Int.mul_le_of_le_ediv hd (show b<=4294967295 / d by omega)
   ·obtain rfl:d=0:=by omega
    show b*0<=_
    rw[Int.mul_zero];decide
 ·have h1:=ni x1 x2 (show 0<c from by have:=λh0=>(hz h0).1 rfl;omega) y2
  exact⟨h1.1,h1.2.1,by show b / c<=_;omega⟩
 ·have hc:0<c:=by have:=λh0=>(hz h0).2 rfl;omega
  unfold jb
  split
  ·exact⟨x1,x2,x3⟩
  ·refine⟨?_,?_,?_⟩<;>dsimp only<;>(repeat' split)<;>omega
 ·unfold jb
  refine⟨?_,?_,?_⟩<;>dsimp only<;>(repeat' split)<;>omega
 ·unfold aU at*
  refine⟨?_,?_,?_⟩<;>dsimp only
  ·split<;>omega
  ·have:=hone.1
   split at this<;>split<;>omega
  ·exact hone.2
 ·exact⟨Int.le_refl _,by have:=hone.1;dsimp only;unfold aU at*;split at this<;>omega,hone.2⟩
 ·split
  ·exact eL
  ·rename_i hq
   have hp:=jI (c%32).toNat
   have h1:=ym x1 x2 (Int.le_of_lt hp) (Int.le_refl (2^(c%32).toNat))
   exact⟨h1.1,h1.2,Int.mul_le_of_le_ediv hp (show b<=4294967295 / 2^(c%32).toNat by omega)⟩
 ·split
  ·have h1:=ni (c:=2^c.toNat) (d:=2^d.toNat) x1 x2 (jI _) (vf (by omega))
   exact⟨h1.1,h1.2.1,by show b / 2^c.toNat<=_;omega⟩
  ·split
   ·have h1:=ni (c:=2^(c%32).toNat) (d:=2^(c%32).toNat) x1 x2 (jI _) (Int.le_refl _)
    exact⟨h1.1,h1.2.1,by show b / 2^(c%32).toNat<=_;omega⟩
   ·exact⟨Int.le_refl _,by dsimp only;omega,x3⟩
 ·unfold jb
  refine⟨?_,?_,?_⟩<;>dsimp only<;>(repeat' split)<;>omega
 ·unfold aU
  refine⟨?_,?_,?_⟩<;>dsimp only<;>(repeat' split)<;>omega
theorem wR{op:Int}{x y:Iv}(h:8<=op/\op<=20)(hx:cO x)(hy:cO y)(he:(bm op x y).2=0):cO (bm op x y).1:=by
 unfold bm at he ⊢
 split
 ·rename_i h1
  rw[if_pos h1] at he
  exact absurd he (by decide)
 ·rename_i h1
  have hz:y.1=0->op≠11/\op≠12:=λh0=>⟨λe=>h1 ⟨h0,.inl e⟩,λe=>h1 ⟨h0,.inr e⟩⟩
  split
  ·have:=kO h (a:=x.1) (b:=y.1) (by have:=hx.2;omega) (by have:=hy.2;omega) hz
   exact⟨this.1,Int.le_refl _,this.2⟩
  ·exact Bx h hx hy hz
theorem sy{op:Int}(h:¬(8<=op/\op<=20))(x y:Iv):cO (b7 op x y):=by
 unfold b7
 rw[if_neg (by omega),if_neg (by omega),if_neg (by omega),if_neg (by omega),if_neg (by omega),if_neg (by omega),if_neg (by omega),if_neg (by omega),if_neg (by omega),if_neg (by omega),if_neg (by omega),if_neg (by omega)]
 exact eL
theorem rM{op:Int}(h:¬(8<=op/\op<=20))(a b:Int):0<=cD op a b/\cD op a b<=4294967295:=by
 unfold cD
 rw[if_neg (by omega),if_neg (by omega),if_neg (by omega),if_neg (by omega),if_neg (by omega),if_neg (by omega),if_neg (by omega),if_neg (by omega),if_neg (by omega),if_neg (by omega),if_neg (by omega),if_neg (by omega)]
 exact ga _
theorem tB{op:Int}{x y:Iv}(hx:cO x)(hy:cO y)(he:(bm op x y).2=0):cO (bm op x y).1:=by
 by_cases h:8<=op/\op<=20
 ·exact wR h hx hy he
 ·unfold bm
  rw[if_neg (by omega)]
  split
  ·have:=rM h x.1 y.1
   exact⟨this.1,Int.le_refl _,this.2⟩
  ·exact sy h x y
def kS(cs:List (Int×Int)):Prop:=∀k,0<=(cs.getD k (0,0)).2/\(cs.getD k (0,0)).2<=4294967295
theorem bV.k{cs:List (Int×Int)}(h:bV cs):kS cs:=λk=>by
 rw[List.getD_eq_getElem?_getD]
 cases hk:cs[k]? with
 |none=>exact⟨by decide,by decide⟩
 |some x=>have:=h x (List.mem_of_getElem? hk);exact⟨this.1,by show x.2<=_;omega⟩
def JI(i:Nat)(x:Iv)(S:WS):Prop:=S.loc.getD i (0,0)=x/\∀l ∈ S.lv,l.getD i (0,0)=x
structure fB(cs:List (Int×Int))(n a b:Nat)(S S':WS):Prop where
 wf:WF n S'
 keep:∀i x,i<n->cO x->stoF cs a (b-a) i=false->JI i x S->JI i x S'
theorem fB.refl{cs:List (Int×Int)}{n a b:Nat}{S:WS}(h:WF n S):fB cs n a b S S:=⟨h,λ_ _ _ _ _ h=>h⟩
theorem fB.trans{cs:List (Int×Int)}{n a b c:Nat}{S S1 S2:WS}(h:fB cs n a b S S1)(h':fB cs n b c S1 S2)(h1:a<=b)(h2:b<=c):fB cs n a c S S2:=
 ⟨h'.wf,λi x hi hx hs hj=>h'.keep i x hi hx (cz hs h1 (by omega)) (h.keep i x hi hx (cz hs (Nat.le_refl _) (by omega)) hj)⟩
theorem fB.sub{cs:List (Int×Int)}{n a b a' b':Nat}{S S1:WS}(h:fB cs n a b S S1)(h1:a'<=a)(h2:b<=b')(h3:a<=b):fB cs n a' b' S S1:=
 ⟨h.wf,λi x hi hx hs hj=>h.keep i x hi hx (cz hs h1 (by omega)) hj⟩
theorem Bq{n:Nat}{l:List Iv}(h:sd n l)(i:Nat){x:Iv}(hx:cO x):sd n (l.set i x):=⟨by rw[List.length_set];exact h.1,λy hy=>by
 rcases List.mem_or_eq_of_mem_set hy with hy|rfl
 ·exact h.2 y hy
 ·exact hx⟩
theorem kq:jf (1,0):=⟨⟨by decide,by decide⟩,by decide,by decide⟩
theorem b11:jf (1,1):=⟨⟨by decide,by decide⟩,by decide,by decide⟩
theorem jE:jf (0,0):=⟨⟨by decide,by decide⟩,by decide,by decide⟩
theorem jf.nn{b:Bd}(h:jf b):0<=b.1/\0<=b.2:=⟨h.1.1,h.2.1⟩
theorem V6:cO (0,1):=⟨by decide,by decide,by decide⟩
theorem oe:cO (0,0):=⟨by decide,by decide,by decide⟩
theorem kR{la:List (Bool×Int)}{n:Nat}{op arg p:Int}{l:List Vl}{S S':WS}{b:Bd}(h:b8 la op arg p l S= .ok (S',b))(ha:0<=arg/\arg<=4294967295)(hl:∀v ∈ l,cO v.2)(hS:WF n S):
  WF n S'/\jf b/\S'.lv=S.lv/\S'.lp=S.lp/\(S'.loc=S.loc\/(op=2/\∃x,S'.loc=S.loc.set arg.toNat x)):=by
 have push:∀(l:List Vl) (b0:Bd),(∀v ∈ l,cO v.2)->jf b0->cx b0 (bX p l S)= .ok (S',b)->WF n S'/\jf b/\S'.lv=S.lv/\S'.lp=S.lp/\(S'.loc=S.loc\/(op=2/\∃x,S'.loc=S.loc.set arg.toNat x)):=λl b0 h1 h2 h3=>by
  obtain⟨k1,rfl⟩:=xp h3
  obtain⟨k2,k3,k4,k5⟩:=xT k1 hS h1
  exact⟨k2,h2,k4,k5,.inl k3⟩
 have one:∀(v:Vl),cO v.2->∀w ∈ [v],cO w.2:=λv hv w hw=>by rw[List.mem_singleton.1 hw];exact hv
 have two:∀(v u:Vl),cO v.2->cO u.2->∀w ∈ [v,u],cO w.2:=λv u hv hu w hw=>by
  rcases List.mem_cons.1 hw with rfl|hw
  ·exact hv
  ·rw[List.mem_singleton.1 hw];exact hu
 have g0:=du hl 0
 have g1:=du hl 1
 unfold b8 at h
 by_cases c:op=0
 ·rw[if_pos c] at h
  exact push _ _ (one _ ⟨ha.1,Int.le_refl _,ha.2⟩) kq h
 rw[if_neg c] at h;clear c
 by_cases c:op=1
 ·rw[if_pos c] at h
  exact push _ _ (one _ (rk hS.loc.2 _)) kq h
 rw[if_neg c] at h;clear c
 by_cases c:op=2
 ·rw[if_pos c] at h
  cases h
  exact⟨⟨Bq hS.loc _ g0,hS.st,hS.lv⟩,kq,rfl,rfl,.inr ⟨c,_,rfl⟩⟩
 rw[if_neg c] at h;clear c
 by_cases c:op=3
 ·rw[if_pos c] at h
  cases he:dA la arg p (l.getD 0 v0) with
  |error e=>rw[he] at h;cases h
  |ok x=>rw[he] at h;exact push _ _ (one _ (zP he)) kq h
 rw[if_neg c] at h;clear c
 by_cases c:op=4
 ·rw[if_pos c] at h
  cases he:dA la arg p (l.getD 0 v0) with
  |error e=>rw[he] at h;cases h
  |ok x=>rw[he] at h;cases h;exact⟨hS,kq,rfl,rfl,.inl rfl⟩
 rw[if_neg c] at h;clear c
 by_cases c:op=5
 ·rw[if_pos c] at h
  exact push _ _ (two _ _ g0 g0) kq h
 rw[if_neg c] at h;clear c
 by_cases c:op=7
 ·rw[if_pos c] at h
  exact push _ _ (two _ _ g1 g0) kq h
 rw[if_neg c] at h;clear c
 by_cases c:op=6\/op=35
 ·rw[if_pos c] at h
  cases h;exact⟨hS,kq,rfl,rfl,.inl rfl⟩
 rw[if_neg c] at h;clear c
 by_cases c:op=34
 ·rw[if_pos c] at h
  cases h;exact⟨hS,b11,rfl,rfl,.inl rfl⟩
 rw[if_neg c] at h;clear c
 by_cases c:op=32
 ·rw[if_pos c] at h
  exact push _ _ (one _ eL) kq h
 rw[if_neg c] at h;clear c
 by_cases c:op=26
 ·rw[if_pos c] at h
  exact push _ _ (one _ V6) kq h
 rw[if_neg c] at h;clear c
 by_cases c:(eU op).2=[116]
 ·rw[if_pos c] at h
  exact push _ _ (one _ oe) kq h
 rw[if_neg c] at h;clear c
 by_cases c:(bm op (l.getD 0 v0).2 (l.getD 1 v0).2).2=0
 ·rw[if_pos c] at h
  exact push _ _ (one _ (tB g0 g1 c)) kq h
 ·rw[if_neg c] at h;cases h
theorem iL{cs:List (Int×Int)}{la:List (Bool×Int)}{n base loop p:Nat}{S S':WS}{b:Bd}(h:fu cs la base loop p S= .ok (S',b))(ha:kS cs)(hS:WF n S):fB cs n p (p+1) S S'/\jf b:=by
 unfold fu at h
 split at h
 ·split at h
  ·cases h
  ·rename_i l S1 hp
   obtain⟨k1,k2,k3,k4,k5⟩:=ce hp hS
   split at h
   ·cases h
    refine⟨⟨⟨k1.loc,k1.st,λl hl=>?_⟩,λi x hi hx hs hj=>⟨by rw[<-hj.1,<-k3],λl hl=>?_⟩⟩,kq⟩
    ·rcases List.mem_append.1 hl with hl|hl
     ·exact k1.lv l hl
     ·rw[List.mem_singleton.1 hl];exact k1.loc
    ·rcases List.mem_append.1 hl with hl|hl
     ·exact hj.2 l (k4 ▸ hl)
     ·rw[List.mem_singleton.1 hl,k3];exact hj.1
   ·cases h
 ·rename_i h30
  unfold dI at h
  split at h
  ·cases h
  ·rename_i l S1 hp
   obtain⟨k1,k2,k3,k4,k5⟩:=ce hp hS
   obtain⟨m1,m2,m3,m4,m5⟩:=kR h (ha p) k2 k1
   refine⟨⟨m1,λi x hi hx hs hj=>⟨?_,λl hl=>hj.2 l (by rw[<-k4,<-m3];exact hl)⟩⟩,m2⟩
   rcases m5 with m5|⟨m5,y,m6⟩
   ·rw[m5,k3];exact hj.1
   ·rw[m6,k3]
    have hne:(cs.getD p (0,0)).2.toNat≠i:=λe=>by
     have:stoF cs p (p+1-p) i=true:=(jL cs i p _).2 ⟨p,Nat.le_refl _,by omega,by
      have h1:(cs.getD p (0,0)).1=2:=m5
      have h2:(cs.getD p (0,0)).2=(i:Int):=by have:=(ha p).1;omega
      rw[<-h1,<-h2]⟩
     rw[hs] at this;cases this
    rw[List.getD_eq_getElem?_getD,List.getElem?_set_ne hne,<-List.getD_eq_getElem?_getD]
    exact hj.1
theorem gh{cs:List (Int×Int)}{la:List (Bool×Int)}{n base loop:Nat}(ha:kS cs):∀(k p:Nat) {S S':WS} {b b':Bd},g9 cs la base loop k p S b= .ok (S',b')->WF n S->jf b->fB cs n p (p+k) S S'/\jf b'
 |0,p,S,S',b,b',h,hS,hb=>by cases h;exact⟨.refl hS,hb⟩
 |k+1,p,S,S',b,b',h,hS,hb=>by
  rw[g9] at h
  split at h
  ·cases h
  ·rename_i S1 x hs
   obtain⟨k1,k2⟩:=iL hs ha hS
   obtain⟨m1,m2⟩:=gh ha k (p+1) h k1.wf (bf hb.nn k2.nn)
   rw[show p+1+k=p+(k+1) by omega] at m1
   exact⟨k1.trans m1 (by omega) (by omega),m2⟩
theorem aA.lastB{cs:List (Int×Int)}{out:List Int}:∀{o:Fo} {a b:Nat},aA cs out o a b->o.lastB a=b
 |.nil,a,b,h=>h
 |.pl x y r,a,b,h=>by
  obtain⟨_,_,_,_,h4⟩:=h
  exact h4.lastB
 |.br op x y u v r,a,b,h=>by
  obtain⟨_,_,_,_,h4⟩:=h
  exact h4.lastB
theorem rl{n:Nat}{l:List Iv}(h:sd n l)(i:Nat):cO (l.getD i (0,0)):=rk h.2 i
theorem pr{n i:Nat}{x:Iv}{l m:List Iv}(hl:l.length=n)(hi:i<n)(hx:cO x)(h1:l.getD i (0,0)=x)(h2:m.getD i (0,0)=x):(bL l m).getD i (0,0)=x:=by
 rw[iY l m i (by omega),h1,h2,om hx]
theorem uz{n i:Nat}{x:Iv}(hi:i<n)(hx:cO x):∀(ls:List (List Iv)) (h:List Iv),h.length=n->h.getD i (0,0)=x->(∀l ∈ ls,l.getD i (0,0)=x)->(ls.foldl bL h).getD i (0,0)=x
 |[],h,_,h1,_=>h1
 |l::ls,h,hl,h1,h2=>uz hi hx ls _ ((eC h l).trans hl) (pr hl hi hx h1 (h2 l (List.mem_cons_self ..))) λk hk=>h2 k (List.mem_cons_of_mem _ hk)
def iG(cs:List (Int×Int))(n a b:Nat)(body:WS->Option (Except Er (WS×Bd))):Prop:=∀S S' bd,body S=some (.ok (S',bd))->WF n S->fB cs n a b S S'/\jf bd
theorem fH{cs:List (Int×Int)}{n a b x0 to h:Nat}{body:WS->Option (Except Er (WS×Bd))}(hB:iG cs n a b body)(ha:x0<=a)(hb:a<=b)(hto:b<=to):∀(f:Nat) (pass:Int) (head:List Iv) {S S':WS} {hd:List Iv} {bd:Bd},gJ body to h (stoF cs x0 (to-x0)) f pass head S=some (.ok (hd,S',bd))->WF n S->sd n head->
  WF n S'/\sd n hd/\jf bd/\S'.st.length=h/\∀i x,i<n->cO x->stoF cs x0 (to-x0) i=false->head.getD i (0,0)=x->hd.getD i (0,0)=x/\JI i x S'
 |0,pass,head,S,S',hd,bd,hr,_,_=>by cases hr
 |f+1,pass,head,S,S',hd,bd,hr,hS,hh=>by
  rw[gJ] at hr
  split at hr
  ·cases hr
  ·cases hr
  ·rename_i S1 b1 hb1
   have hS0:WF n {S with loc:=head,lv:=[]}:=⟨hh,hS.st,λl hl=>by cases hl⟩
   obtain⟨k1,k2⟩:=hB _ _ _ hb1 hS0
   have hk:∀i x,i<n->cO x->stoF cs x0 (to-x0) i=false->head.getD i (0,0)=x->JI i x S1:=λi x hi hx hs hj=>
    k1.keep i x hi hx (cz hs ha (by omega)) ⟨hj,λl hl=>by cases hl⟩
   split at hr
   ·rename_i hlen
    split at hr
    ·cases hr
     exact⟨k1.wf,hh,k2,hlen,λi x hi hx hs hj=>⟨hj,hk i x hi hx hs hj⟩⟩
    ·obtain⟨m1,m2,m3,m4,m5⟩:=fH hB ha hb hto f (pass+1) _ hr k1.wf (gB hh _ _ _ _)
     refine⟨m1,m2,m3,m4,λi x hi hx hs hj=>m5 i x hi hx hs ?_⟩
     rw[gA _ _ _ _ _ _ (by rw[hh.1];exact hi),hj,(hk i x hi hx hs hj).1,om hx,sj hx,Nat.zero_add,hs]
     split<;>rfl
   ·cases hr
theorem aQ{cs:List (Int×Int)}{la:List (Bool×Int)}{out:List Int}{n:Nat}(ha:kS cs):∀(o:Fo) (a b base loop:Nat) {S S':WS} {bd bd':Bd},aA cs out o a b->aW cs la o base loop S bd=some (.ok (S',bd'))->WF n S->jf bd->fB cs n a b S S'/\jf bd'
 |.nil,a,b,base,loop,S,S',bd,bd',hg,h,hS,hb=>by cases h;exact⟨.refl hS,hb⟩
 |.pl x y r,a,b,base,loop,S,S',bd,bd',hg,h,hS,hb=>by
  obtain⟨rfl,h1,_,_,h4⟩:=hg
  rw[aW] at h
  split at h
  ·cases h
  ·rename_i S1 b1 hr
   obtain⟨k1,k2⟩:=gh ha _ _ hr hS hb
   rw[show x+(y-x)=y by omega] at k1
   obtain⟨m1,m2⟩:=aQ ha r y b base loop h4 h k1.wf k2
   exact⟨k1.trans m1 (by omega) h4.le,m2⟩
 |.br op x y u v r,a,b,base,loop,S,S',bd,bd',hg,h,hS,hb=>by
  obtain⟨rfl,hop,hopv,⟨m,g1,g2,g3,g4,g5⟩,h4⟩:=hg
  have hle:=h4.le
  have hul:=g4.le
  have hmy:m<y:=by rcases g5 with⟨_,e,_,q2,_,_,q5⟩|⟨_,_,q2⟩<;>omega
  rw[aW,g4.lastB] at h
  split at h
  ·rename_i h27
   split at h
   ·cases h
   ·rename_i l S1 hp
    obtain⟨k1,k2,k3,k4,k5⟩:=ce hp hS
    split at h
    ·cases h
    ·cases h
    ·rename_i S2 bx hu
     obtain⟨m1,m2⟩:=aQ ha u (x+1) m _ loop g4 hu k1 jE
     split at h
     rotate_left
     ·cases h
     split at h
     ·rename_i h28
      rcases g5 with⟨_,e,q1,q2,q3,q4,q5⟩|⟨q0,_,_⟩
      rotate_left
      ·exact absurd h28 q0
      split at h
      ·cases h
      ·cases h
      ·rename_i S4 by_ hv
       have hS3:WF n {S2 with loc:=S1.loc}:=⟨k1.loc,m1.wf.st,m1.wf.lv⟩
       obtain⟨n1,n2⟩:=aQ ha v (m+1) e _ loop q4 hv hS3 jE
       split at h
       rotate_left
       ·cases h
       have hS5:WF n {S4 with loc:=bL S2.loc S4.loc}:=⟨dM m1.wf.loc.1 _,n1.wf.st,n1.wf.lv⟩
       have hbd:jf (bA bd (bA (aU bx.1 by_.1,aU bx.2 by_.2) (1,0))):=bf hb.nn (bf (by have:=m2.nn;have:=n2.nn;unfold aU;dsimp only;constructor<;>split<;>omega) kq.nn).nn
       obtain⟨t1,t2⟩:=aQ ha r y b base loop h4 h hS5 hbd
       refine⟨⟨t1.wf,λi z hi hz hs hj=>t1.keep i z hi hz (cz hs (by omega) (by omega)) ?_⟩,t2⟩
       have j1:JI i z S1:=⟨by rw[k3];exact hj.1,by rw[k4];exact hj.2⟩
       have j2:=m1.keep i z hi hz (cz hs (by omega) (by omega)) j1
       have j4:=n1.keep i z hi hz (cz hs (by omega) (by omega)) (show JI i z {S2 with loc:=S1.loc} from⟨j1.1,j2.2⟩)
       exact⟨pr m1.wf.loc.1 hi hz j2.1 j4.1,j4.2⟩
     ·have hS5:WF n {S2 with loc:=bL S2.loc S1.loc}:=⟨dM m1.wf.loc.1 _,m1.wf.st,m1.wf.lv⟩
      have hbd:jf (bA bd (bA (aU bx.1 0,aU bx.2 0) (1,0))):=bf hb.nn (bf (by have:=m2.nn;unfold aU;dsimp only;constructor<;>split<;>omega) kq.nn).nn
      obtain⟨t1,t2⟩:=aQ ha r y b base loop h4 h hS5 hbd
      refine⟨⟨t1.wf,λi z hi hz hs hj=>t1.keep i z hi hz (cz hs (by omega) (by omega)) ?_⟩,t2⟩
      have j1:JI i z S1:=⟨by rw[k3];exact hj.1,by rw[k4];exact hj.2⟩
      have j2:=m1.keep i z hi hz (cz hs (by omega) (by omega)) j1
      exact⟨pr m1.wf.loc.1 hi hz j2.1 j1.1,j2.2⟩
  ·split at h
   ·cases h
   ·rename_i l S1 hp
    obtain⟨k1,k2,k3,k4,k5⟩:=ce hp hS
    have hmo:=du k2 0
    split at h
    rotate_left
    ·cases h
    split at h
    ·cases h
    ·cases h
    ·rename_i head S2 bx hr
     have hB:iG cs n (x+1) m (λS'=>aW cs la u S1.st.length S1.st.length S' (0,0)):=λS3 S4 b4 h3 h5=>aQ ha u (x+1) m _ _ g4 h3 h5 jE
     obtain⟨m1,m2,m3,m4,m5⟩:=fH hB (by omega) hul (Nat.le_refl _) 6 1 S1.loc hr k1 k1.loc
     have hS5:WF n {S2 with loc:=S2.lv.foldl bL head,lv:=S1.lv,lp:=fM S2.lp x (l.getD 0 v0).2.2}:=⟨ir _ _ m2,m1.st,k1.lv⟩
     have hbd:jf (bA bd (bA (ft bx (l.getD 0 v0).2.2) (1,0))):=bf hb.nn (bf (iK m3 (by omega)).nn kq.nn).nn
     obtain⟨t1,t2⟩:=aQ ha r y b base loop h4 h hS5 hbd
     refine⟨⟨t1.wf,λi z hi hz hs hj=>t1.keep i z hi hz (cz hs (by omega) (by omega)) ?_⟩,t2⟩
     obtain⟨j1,j2⟩:=m5 i z hi hz (cz hs (by omega) (by omega)) (by rw[k3];exact hj.1)
     exact⟨uz hi hz _ _ m2.1 j1 j2.2,by show ∀l ∈ S1.lv,_;rw[k4];exact hj.2⟩
/-! ### it ends-/
theorem vc{n:Nat}{sto:Nat->Bool}{head m:List Iv}(hh:sd n head){pass:Int}(hp:¬pass<3)(i:Nat)(hi:i<n):(dQ sto pass 0 head m).getD i (0,0)=if sto i=true then(0,4294967295) else head.getD i (0,0):=by
 rw[gA _ _ _ _ _ _ (by rw[hh.1];exact hi),if_neg hp,Nat.zero_add]
theorem kx{cs:List (Int×Int)}{n a b x0 to h:Nat}{body:WS->Option (Except Er (WS×Bd))}(hB:iG cs n a b body)(hT:∀S,WF n S->∃r,body S=some r)(ha:x0<=a)(hb:a<=b)(hto:b<=to):∀(f:Nat) (pass:Int) (head:List Iv) (S:WS),WF n S->sd n head->(4<=pass->∀i,i<n->stoF cs x0 (to-x0) i=true->head.getD i (0,0)=(0,4294967295))->5<=pass+f->1<=f->∃r,gJ body to h (stoF cs x0 (to-x0)) f pass head S=some r
 |0,pass,head,S,_,_,_,_,hf=>by omega
 |f+1,pass,head,S,hS,hh,h4,h5,_=>by
  rw[gJ]
  have hS0:WF n {S with loc:=head,lv:=[]}:=⟨hh,hS.st,λl hl=>by cases hl⟩
  obtain⟨r,hr⟩:=hT _ hS0
  rw[hr]
  cases r with
  |error e=>exact⟨_,rfl⟩
  |ok q=>
   obtain⟨S1,b1⟩:=q
   obtain⟨k1,k2⟩:=hB _ _ _ hr hS0
   dsimp only
   by_cases hl:S1.st.length=h
   rotate_left
   ·rw[if_neg hl];exact⟨_,rfl⟩
   rw[if_pos hl]
   by_cases hw:b9 S1.loc head=true
   ·rw[if_pos hw];exact⟨_,rfl⟩
   rw[if_neg hw]
   have hp:pass<4:=by
    by_cases hp0:pass<4
    ·exact hp0
    ·have hp:4<=pass:=by omega
     refine absurd (lV (n:=n) (by rw[k1.wf.loc.1,hh.1]) λi hi=>?_) hw
     rw[k1.wf.loc.1] at hi
     cases hs:stoF cs x0 (to-x0) i with
     |true=>rw[h4 hp i hi hs];exact qe (rl k1.wf.loc i)
     |false=>
      have hx:=rl hh i
      have j:=k1.keep i (head.getD i (0,0)) hi hx (cz hs ha (by omega)) ⟨rfl,λl hl=>by cases hl⟩
      rw[j.1]
      exact qc hx
   refine kx hB hT ha hb hto f (pass+1) _ S1 k1.wf (gB hh _ _ _ _) (λhp4 i hi hs=>?_) (by omega) (by omega)
   rw[vc hh (by omega) i hi,if_pos hs]
theorem bU{cs:List (Int×Int)}{la:List (Bool×Int)}{out:List Int}{n:Nat}(ha:kS cs):∀(o:Fo) (a b base loop:Nat) (S:WS) (bd:Bd),aA cs out o a b->WF n S->jf bd->∃r,aW cs la o base loop S bd=some r
 |.nil,a,b,base,loop,S,bd,hg,hS,hb=>⟨_,rfl⟩
 |.pl x y r,a,b,base,loop,S,bd,hg,hS,hb=>by
  obtain⟨rfl,h1,_,_,h4⟩:=hg
  rw[aW]
  split
  ·exact⟨_,rfl⟩
  ·rename_i S1 b1 hr
   obtain⟨k1,k2⟩:=gh ha _ _ hr hS hb
   exact bU ha r y b base loop S1 b1 h4 k1.wf k2
 |.br op x y u v r,a,b,base,loop,S,bd,hg,hS,hb=>by
  obtain⟨rfl,hop,hopv,⟨m,g1,g2,g3,g4,g5⟩,h4⟩:=hg
  have hle:=h4.le
  have hul:=g4.le
  have hmy:m<y:=by rcases g5 with⟨_,e,_,q2,_,_,q5⟩|⟨_,_,q2⟩<;>omega
  rw[aW,g4.lastB]
  split
  ·split
   ·exact⟨_,rfl⟩
   ·rename_i l S1 hp
    obtain⟨k1,k2,k3,k4,k5⟩:=ce hp hS
    obtain⟨ru,hu⟩:=bU ha u (x+1) m S1.st.length loop S1 (0,0) g4 k1 jE
    rw[hu]
    cases ru with
    |error e=>exact⟨_,rfl⟩
    |ok q=>
     obtain⟨S2,bx⟩:=q
     obtain⟨m1,m2⟩:=aQ ha u (x+1) m _ loop g4 hu k1 jE
     dsimp only
     split
     rotate_left
     ·exact⟨_,rfl⟩
     split
     ·rename_i h28
      rcases g5 with⟨_,e,q1,q2,q3,q4,q5⟩|⟨q0,_,_⟩
      rotate_left
      ·exact absurd h28 q0
      have hS3:WF n {S2 with loc:=S1.loc}:=⟨k1.loc,m1.wf.st,m1.wf.lv⟩
      obtain⟨rv,hv⟩:=bU ha v (m+1) e S1.st.length loop _ (0,0) q4 hS3 jE
      rw[hv]
      cases rv with
      |error e=>exact⟨_,rfl⟩
      |ok q=>
       obtain⟨S4,by_⟩:=q
       obtain⟨n1,n2⟩:=aQ ha v (m+1) e _ loop q4 hv hS3 jE
       dsimp only
       split
       rotate_left
       ·exact⟨_,rfl⟩
       exact bU ha r y b base loop _ _ h4 ⟨dM m1.wf.loc.1 _,n1.wf.st,n1.wf.lv⟩ (bf hb.nn (bf (by have:=m2.nn;have:=n2.nn;unfold aU;dsimp only;constructor<;>split<;>omega) kq.nn).nn)
     ·exact bU ha r y b base loop _ _ h4 ⟨dM m1.wf.loc.1 _,m1.wf.st,m1.wf.lv⟩ (bf hb.nn (bf (by have:=m2.nn;unfold aU;dsimp only;constructor<;>split<;>omega) kq.nn).nn)
  ·split
   ·exact⟨_,rfl⟩
   ·rename_i l S1 hp
    obtain⟨k1,k2,k3,k4,k5⟩:=ce hp hS
    have hmo:=du k2 0
    split
    rotate_left
    ·exact⟨_,rfl⟩
    have hB:iG cs n (x+1) m (λS'=>aW cs la u S1.st.length S1.st.length S' (0,0)):=λS3 S4 b4 h3 h5=>aQ ha u (x+1) m _ _ g4 h3 h5 jE
    obtain⟨rr,hr⟩:=kx (h:=S1.st.length) hB (λS' hS'=>bU ha u (x+1) m _ _ S' (0,0) g4 hS' jE) (show x<=x+1 by omega) hul (Nat.le_refl m) 6 1 S1.loc S1 k1 k1.loc (λh=>by omega) (by omega) (by omega)
    rw[hr]
    cases rr with
    |error e=>exact⟨_,rfl⟩
    |ok q=>
     obtain⟨head,S2,bx⟩:=q
     obtain⟨m1,m2,m3,m4,m5⟩:=fH hB (by omega) hul (Nat.le_refl _) 6 1 S1.loc hr k1 k1.loc
     exact bU ha r y b base loop _ _ h4 ⟨ir _ _ m2,m1.st,k1.lv⟩ (bf hb.nn (bf (iK m3 (by omega)).nn kq.nn).nn)
abbrev cS:=Int×Int×AV
def lI:cS:=(0,0,.ow)
theorem oE:AV.ow.cells=[.ow]:=rfl
theorem ud:AV.ow.one=true:=rfl
def Ki(a:AV):Prop:=a= .ow\/∃n r,a= .fs 2 n r
def tH(l:List cS):Prop:=∀x ∈ l,Ki x.2.2
def vI(l:List cS)(i j:Nat):AV:=if j=0 then .n .i64 (l.getD i lI).1 else if j=1 then .n .i64 (l.getD i lI).2.1 else(l.getD i lI).2.2
theorem vI0(l:List cS)(i:Nat):vI l i 0= .n .i64 (l.getD i lI).1:=rfl
theorem vI1(l:List cS)(i:Nat):vI l i 1= .n .i64 (l.getD i lI).2.1:=rfl
def jN(s e h:Int)(l:List cS):AV:= .agg [.n .i64 s,.n .i64 e,.n .i64 h,.fs 3 l.length (vI l)]
def aO:List cS->Int->Int
 |[],_=>0
 |x::l,a=>if x.1=a then x.2.1 else aO l a
def eB(cs:List (Int×Int))(r:Nat):AV:= .agg [.fs 2 cs.length (pI cs),.cv (.map (some r))]
theorem tt(cs:List (Int×Int))(r a b:Nat)(hab:a<=b)(hb:b<=100000):bN Tryz.prog 36 [eB cs r,.n .i64 a,.n .i64 b] [.v (.n .i64 ((b-a:Nat):Int))]:=by
 refine ag aF NS ⟨by simp,by decide⟩ ?_
 simp only[aH,eB]
 have w:IntKind.i64.wrap ((b:Int)-a)=((b-a:Nat):Int):=(am (by omega)).trans (by omega)
 repeat first|with_reducible refine ao ?_|simp only[w,go_sem,simprocAttr]
 exact aa rfl rfl
def bH(cs:List (Int×Int))(a:Nat):Nat->Nat
 |0=>0
 |n+1=>bH cs a n+if aj cs (a+n)=34 then 1 else 0
theorem kg(cs:List (Int×Int))(a:Nat):∀n,bH cs a n<=n
 |0=>Nat.le_refl _
 |n+1=>by
  have:=kg cs a n
  rw[bH]
  split<;>omega
theorem tw(cs:List (Int×Int))(r a b:Nat)(hab:a<=b)(hb:b<=cs.length)(hcs:cs.length<=100000):bN Tryz.prog 37 [eB cs r,.n .i64 a,.n .i64 b] [.v (.n .i64 (bH cs a (b-a):Nat))]:=by
 refine ag aF LX ⟨by simp,by decide⟩ ?_
 simp only[aH,eB]
 have s1:0<=(a:Int)/\(a:Int)<=b/\(b:Int)<=cs.length:=⟨by omega,by omega,by omega⟩
 repeat first|with_reducible refine ao ?_|simp only[s1,s1.1,s1.2.1,s1.2.2,go_sem,simprocAttr]
 refine GA.loop (I:=λm e H=>∃k:Nat,m=(b-a)-k/\k<=b-a/\e=aB [(7,.n .i64 (bH cs a k:Nat)),(14,.fs 2 (b-a) λk=>pI cs (a+k)),(15,.n .i64 ((b-a:Nat):Int)),(16,.n .i64 k)]/\H=ah []) (Wk.mk [] [] ?_ ?_ ?_) ⟨0,rfl,Nat.zero_le _,rfl,rfl⟩ ?_
 ·exact ba
 ·trivial
 ·simp
 rintro m e H ⟨k,rfl,hk,rfl,rfl⟩
 have h0:(0:Int)<=(k:Int):=by omega
 by_cases h:k<b-a
 rotate_left
 ·have h':¬(k:Int)<((b-a:Nat):Int):=by omega
  obtain rfl:k=b-a:=by omega
  repeat first|with_reducible refine ao ?_|simp only[h',decide_false,go_sem,simprocAttr]
  exact aa rfl rfl
 have h':(k:Int)<((b-a:Nat):Int):=by omega
 have wk:IntKind.i64.wrap ((k:Int)+1)=((k+1:Nat):Int):=(am (by omega)).trans (by omega)
 have hle:=kg cs a k
 by_cases e1:(cs.getD (a+k) (0,0)).1=34
 ·have hs:bH cs a (k+1)=bH cs a k+1:=by rw[bH,if_pos (show aj cs (a+k)=34 from e1)]
  have we:IntKind.i64.wrap (((bH cs a k:Nat):Int)+1)=((bH cs a k+1:Nat):Int):=(am (by omega)).trans (by omega)
  repeat first|with_reducible refine ao ?_|simp only[h',h0,cT,ph,e1,wk,we,decide_true,go_sem,simprocAttr]
  refine⟨_,_,_,?_,Wk.mk [] [] ?_ ?_ ?_,k+1,rfl,by omega,rfl,rfl⟩
  ·omega
  ·rw[hs]
   simp only[d9,cM,go_sem,simprocAttr]
   repeat' refine a7 ?_ ?_
   all_goals first|exact iI|skip
  ·trivial
  ·simp
 ·have hs:bH cs a (k+1)=bH cs a k:=by rw[bH,if_neg (show ¬aj cs (a+k)=34 from e1)];rfl
  repeat first|with_reducible refine ao ?_|simp only[h',h0,cT,ph,e1,wk,decide_true,decide_false,go_sem,simprocAttr]
  refine⟨_,_,_,?_,Wk.mk [] [] ?_ ?_ ?_,k+1,rfl,by omega,rfl,rfl⟩
  ·omega
  ·rw[hs]
   simp only[d9,cM,go_sem,simprocAttr]
   repeat' refine a7 ?_ ?_
   all_goals first|exact iI|skip
  ·trivial
  ·simp
def Au:Fo->Prop
 |.nil=>True
 |.pl x y r=>x<=y/\y<=100000/\Au r
 |.br op x y u v r=>(op=27\/op=29)/\Au u/\Au v/\Au r
theorem aA.okf{cs:List (Int×Int)}{out:List Int}:∀{o:Fo} {a b:Nat},aA cs out o a b->b<=100000->Au o
 |.nil,_,_,_,_=>trivial
 |.pl x y r,a,b,h,hb=>by
  obtain⟨h0,h1,_,_,h4⟩:=h
  have:=h4.le
  exact⟨by omega,by omega,h4.okf hb⟩
 |.br op x y u v r,a,b,h,hb=>by
  obtain⟨_,_,h2,⟨m,_,g2,g3,g4,g5⟩,h4⟩:=h
  refine⟨h2,g4.okf (by omega),?_,h4.okf hb⟩
  rcases g5 with⟨_,e,_,_,q3,q4,_⟩|⟨_,q1,_⟩
  ·exact q4.okf (by omega)
  ·rw[q1];trivial
def av(li:List cS):Fo->Int->Int
 |.nil,n=>n
 |.pl x y r,n=>av li r (aX (n+(y-x)))
 |.br op x y u v r,n=>av li r (if op=27 then aX (n+1+(if av li u 0<av li v 0 then av li v 0 else av li u 0)) else aX (n+1+bc (aX (av li u 0+1)) (aO li x)))
theorem bK{li:List cS}(hm:∀a,0<=aO li a):∀(o:Fo) (n:Int),Au o->0<=n/\n<=281474976710657->0<=av li o n/\av li o n<=281474976710657
 |.nil,n,_,h=>h
 |.pl x y r,n,ho,h=>bK hm r _ ho.2.2 (ay (by have:=ho.1;omega))
 |.br op x y u v r,n,ho,h=>by
  have hu:=bK hm u 0 ho.2.1 (by omega)
  have hv:=bK hm v 0 ho.2.2.1 (by omega)
  refine bK hm r _ ho.2.2.2 ?_
  split
  ·refine ay ?_
   split<;>omega
  ·refine ay ?_
   have:=(bo (ay (n:=av li u 0+1) (by omega)).1 (hm x)).1
   omega
theorem Fo.len_le_size:∀o:Fo,o.len<=o.size
 |.nil=>Nat.le_refl _
 |.pl x y r=>by have:=Fo.len_le_size r;simp only[Fo.len,Fo.size];omega
 |.br op x y u v r=>by have:=Fo.len_le_size r;simp only[Fo.len,Fo.size];omega
theorem aA.size{cs:List (Int×Int)}{out:List Int}:∀{o:Fo} {a b:Nat},aA cs out o a b->a+o.size<=b
 |.nil,a,b,h=>by cases h;exact Nat.le_refl _
 |.pl x y r,a,b,h=>by
  obtain⟨_,h1,_,_,h2⟩:=h
  have:=h2.size
  simp only[Fo.size]
  omega
 |.br op x y u v r,a,b,h=>by
  obtain⟨_,_,_,⟨m,_,h1,_,h4,h2⟩,h3⟩:=h
  have e1:=h3.size
  have e2:=h4.size
  simp only[Fo.size]
  rcases h2 with⟨_,e,_,q2,_,q4,h5⟩|⟨_,q1,h5⟩
  ·have e3:=q4.size
   omega
  ·rw[q1]
   simp only[Fo.size]
   omega
def bJ(li:List cS)(pl:Nat->Nat->Int)(own:Int):Fo->Int->Int
 |.nil,n=>n
 |.pl x y r,n=>bJ li pl own r (aX (n+pl x y))
 |.br op x y u v r,n=>bJ li pl own r (aX (n+(if op=27 then aX (own+(if bJ li pl own u 0<bJ li pl own v 0 then bJ li pl own v 0 else bJ li pl own u 0)) else aX (own+bc (aX (own+bJ li pl own u 0)) (aO li x)))))
theorem bB{a b:Int}(h:0<=a):aX (a+aX b)=aX (a+b):=by
 unfold aX
 split<;>split<;>(try split)<;>omega
theorem dC{li:List cS}(hm:∀a,0<=aO li a):∀(o:Fo) (n:Int),Au o->0<=n/\n<=281474976710657->bJ li (λx y=>(y:Int)-x) 1 o n=av li o n
 |.nil,n,_,_=>rfl
 |.pl x y r,n,ho,h=>by
  rw[bJ,av]
  exact dC hm r _ ho.2.2 (ay (by have:=ho.1;omega))
 |.br op x y u v r,n,ho,h=>by
  have hu:=bK hm u 0 ho.2.1 (by omega)
  have hv:=bK hm v 0 ho.2.2.1 (by omega)
  rw[bJ,av,dC hm u 0 ho.2.1 (by omega),dC hm v 0 ho.2.2.1 (by omega)]
  by_cases e:op=27
  ·rw[if_pos e,if_pos e,bB h.1,<-Int.add_assoc]
   refine dC hm r _ ho.2.2.2 (ay ?_)
   split<;>omega
  ·rw[if_neg e,if_neg e,bB h.1,<-Int.add_assoc,Int.add_comm 1 (av li u 0)]
   refine dC hm r _ ho.2.2.2 (ay ?_)
   have:=(bo (ay (n:=av li u 0+1) (by omega)).1 (hm x)).1
   omega
def aE(cs:List (Int×Int))(li:List cS):Fo->Int->Int
 |.nil,n=>n
 |.pl x y r,n=>aE cs li r (aX (n+(bH cs x (y-x):Nat)))
 |.br op x y u v r,n=>aE cs li r (if op=27 then aX (n+(if aE cs li u 0<aE cs li v 0 then aE cs li v 0 else aE cs li u 0)) else aX (n+bc (aE cs li u 0) (aO li x)))
theorem bM{cs:List (Int×Int)}{li:List cS}(hm:∀a,0<=aO li a):∀(o:Fo) (n:Int),0<=n/\n<=281474976710657->0<=aE cs li o n/\aE cs li o n<=281474976710657
 |.nil,n,h=>h
 |.pl x y r,n,h=>bM hm r _ (ay (by omega))
 |.br op x y u v r,n,h=>by
  have hu:=bM (cs:=cs) hm u 0 (by omega)
  have hv:=bM (cs:=cs) hm v 0 (by omega)
  refine bM hm r _ ?_
  split
  ·refine ay ?_
   split<;>omega
  ·refine ay ?_
   have:=(bo hu.1 (hm x)).1
   omega
theorem gp{n:Int}(h:n<=281474976710657):aX n=n:=by unfold aX;split<;>omega
theorem dD{cs:List (Int×Int)}{li:List cS}(hm:∀a,0<=aO li a):∀(o:Fo) (n:Int),0<=n/\n<=281474976710657->bJ li (λx y=>(bH cs x (y-x):Nat)) 0 o n=aE cs li o n
 |.nil,n,_=>rfl
 |.pl x y r,n,h=>by
  rw[bJ,aE]
  exact dD hm r _ (ay (by omega))
 |.br op x y u v r,n,h=>by
  have hu:=bM (cs:=cs) hm u 0 (by omega)
  have hv:=bM (cs:=cs) hm v 0 (by omega)
  rw[bJ,aE,dD hm u 0 (by omega),dD hm v 0 (by omega)]
  by_cases e:op=27
  ·rw[if_pos e,if_pos e,bB h.1,Int.zero_add]
   refine dD hm r _ (ay ?_)
   split<;>omega
  ·rw[if_neg e,if_neg e,bB h.1,Int.zero_add,Int.zero_add,gp hu.2]
   refine dD hm r _ (ay ?_)
   have:=(bo hu.1 (hm x)).1
   omega
theorem ig:∀{li:List cS},(∀x ∈ li,0<=x.2.1/\x.2.1<=65536)->∀a,0<=aO li a/\aO li a<=65536
 |[],_,a=>⟨Int.le_refl _,(by decide:(0:Int)<=65536)⟩
 |x::l,h,a=>by
  unfold aO
  split
  ·exact h x (List.mem_cons_self ..)
  ·exact ig (λy hy=>h y (List.mem_cons_of_mem _ hy)) a
def lC(ls:List Int)(li:List cS):Int:=if ls.length=li.length/\(li.map λx=>x.1)=ls then(if ∀x ∈ li,0<=x.2.1/\x.2.1<=65536 then 0 else 2) else 23
def rS(cs:List (Int×Int)):Fo->Prop
 |.nil=>True
 |.pl x y r=>x<=y/\y<=cs.length/\rS cs r
 |.br op x y u v r=>(op=27\/op=29)/\rS cs u/\rS cs v/\rS cs r
theorem aA.oke{cs:List (Int×Int)}{out:List Int}:∀{o:Fo} {a b:Nat},aA cs out o a b->b<=cs.length->rS cs o
 |.nil,_,_,_,_=>trivial
 |.pl x y r,a,b,h,hb=>by
  obtain⟨h0,h1,_,_,h4⟩:=h
  have:=h4.le
  exact⟨by omega,by omega,h4.oke hb⟩
 |.br op x y u v r,a,b,h,hb=>by
  obtain⟨_,_,h2,⟨m,_,g2,g3,g4,g5⟩,h4⟩:=h
  refine⟨h2,g4.oke (by omega),?_,h4.oke hb⟩
  rcases g5 with⟨_,e,_,_,q3,q4,_⟩|⟨_,q1,_⟩
  ·exact q4.oke (by omega)
  ·rw[q1];trivial
theorem mC{p:Int}{base:Nat}{ty:List UInt8}{S S1:WS}{l:List Vl}(h:eS p base ty S= .ok (l,S1)):¬S.st.length<base+ty.length/\l=S.st.drop (S.st.length-ty.length)/\S1={S with st:=S.st.take (S.st.length-ty.length)}:=by
 unfold eS at h
 split at h
 ·cases h
 rename_i a
 split at h
 ·cases h;exact⟨a,rfl,rfl⟩
 ·cases h
structure Sm(p:Nat)(S:WS):Prop where
 st:S.st.length<=32
 ht:0<=S.ht/\S.ht<=32
 lv:S.lv.length<=p
theorem Sm.le{p q:Nat}{S:WS}(h:Sm p S)(hpq:p<=q):Sm q S:=⟨h.st,h.ht,Nat.le_trans h.lv hpq⟩
theorem gi{p:Int}{base q:Nat}{ty:List UInt8}{S S1:WS}{l:List Vl}(h:eS p base ty S= .ok (l,S1))(hS:Sm q S):Sm q S1:=by
 obtain⟨_,_,rfl⟩:=mC h
 exact⟨by simp only[List.length_take];have:=hS.st;omega,hS.ht,hS.lv⟩
theorem dm{p:Int}{q:Nat}{S S1:WS}{l:List Vl}(h:bX p l S= .ok S1)(hS:Sm q S):Sm q S1:=by
 unfold bX at h
 split at h
 ·cases h
  rename_i hl
  refine⟨hl,?_,hS.lv⟩
  have:=hS.ht
  show 0<=aU _ _/\aU _ _<=32
  unfold aU
  split<;>omega
 ·cases h
theorem di{q:Nat}{b0 b:Bd}{S1:WS}{x:Except Er WS}(h:cx b0 x= .ok (S1,b))(hx:∀S,x= .ok S->Sm q S):Sm q S1:=by
 cases x with
 |error e=>cases h
 |ok S=>cases h;exact hx _ rfl
theorem CP{la:List (Bool×Int)}{op arg p:Int}{l:List Vl}{S S':WS}{b:Bd}{q:Nat}(h:b8 la op arg p l S= .ok (S',b))(hS:Sm q S):Sm q S':=by
 unfold b8 at h
 by_cases c:op=0
 ·rw[if_pos c] at h
  exact di h λ_ h'=>dm h' hS
 rw[if_neg c] at h;clear c
 by_cases c:op=1
 ·rw[if_pos c] at h
  exact di h λ_ h'=>dm h' hS
 rw[if_neg c] at h;clear c
 by_cases c:op=2
 ·rw[if_pos c] at h
  cases h;exact⟨hS.st,hS.ht,hS.lv⟩
 rw[if_neg c] at h;clear c
 by_cases c:op=3
 ·rw[if_pos c] at h
  cases he:dA la arg p (l.getD 0 v0) with
  |error e=>rw[he] at h;cases h
  |ok x=>rw[he] at h;exact di h λ_ h'=>dm h' hS
 rw[if_neg c] at h;clear c
 by_cases c:op=4
 ·rw[if_pos c] at h
  cases he:dA la arg p (l.getD 0 v0) with
  |error e=>rw[he] at h;cases h
  |ok x=>rw[he] at h;cases h;exact hS
 rw[if_neg c] at h;clear c
 by_cases c:op=5
 ·rw[if_pos c] at h
  exact di h λ_ h'=>dm h' hS
 rw[if_neg c] at h;clear c
 by_cases c:op=7
 ·rw[if_pos c] at h
  exact di h λ_ h'=>dm h' hS
 rw[if_neg c] at h;clear c
 by_cases c:op=6\/op=35
 ·rw[if_pos c] at h
  cases h;exact hS
 rw[if_neg c] at h;clear c
 by_cases c:op=34
 ·rw[if_pos c] at h
  cases h;exact hS
 rw[if_neg c] at h;clear c
 by_cases c:op=32
 ·rw[if_pos c] at h
  exact di h λ_ h'=>dm h' hS
 rw[if_neg c] at h;clear c
 by_cases c:op=26
 ·rw[if_pos c] at h
  exact di h λ_ h'=>dm h' hS
 rw[if_neg c] at h;clear c
 by_cases c:(eU op).2=[116]
 ·rw[if_pos c] at h
  exact di h λ_ h'=>dm h' hS
 rw[if_neg c] at h;clear c
 by_cases c:(bm op (l.getD 0 v0).2 (l.getD 1 v0).2).2=0
 ·rw[if_pos c] at h
  exact di h λ_ h'=>dm h' hS
 ·rw[if_neg c] at h;cases h
theorem oX{cs:List (Int×Int)}{la:List (Bool×Int)}{base loop p:Nat}{S S':WS}{b:Bd}(h:fu cs la base loop p S= .ok (S',b))(hS:Sm p S):Sm (p+1) S':=by
 unfold fu at h
 split at h
 ·split at h
  ·cases h
  ·rename_i l S1 hp
   have h1:=gi hp hS
   split at h
   ·cases h
    refine⟨h1.st,h1.ht,?_⟩
    simp only[List.length_append,List.length_cons,List.length_nil]
    have:=h1.lv
    omega
   ·cases h
 ·unfold dI at h
  split at h
  ·cases h
  ·rename_i l S1 hp
   exact(CP h (gi hp hS)).le (by omega)
theorem qv{cs:List (Int×Int)}{la:List (Bool×Int)}{base loop:Nat}:∀(n p:Nat) {S S':WS} {b b':Bd},g9 cs la base loop n p S b= .ok (S',b')->Sm p S->Sm (p+n) S'
 |0,p,S,S',b,b',h,hS=>by cases h;exact hS
 |n+1,p,S,S',b,b',h,hS=>by
  rw[g9] at h
  split at h
  ·cases h
  ·rename_i S1 x h1
   have:=qv n (p+1) h (oX h1 hS)
   rwa [show p+1+n=p+(n+1) by omega] at this
theorem tZ{body:WS->Option (Except Er (WS×Bd))}{to h a m:Nat}{sto:Nat->Bool}(hB:∀S S' b,body S=some (.ok (S',b))->Sm a S->Sm m S')(hm:∀S,Sm m S->S.lv=[]->Sm a S):∀(f:Nat) (pass:Int) (head:List Iv) {S S':WS} {hd:List Iv} {b:Bd},gJ body to h sto f pass head S=some (.ok (hd,S',b))->(S.st.length<=32/\0<=S.ht/\S.ht<=32)->Sm m S'
 |0,pass,head,S,S',hd,b,h,hS=>by cases h
 |f+1,pass,head,S,S',hd,b,h,hS=>by
  rw[gJ] at h
  split at h
  ·cases h
  ·cases h
  ·rename_i S1 b1 hb
   have h1:=hB _ _ _ hb ⟨hS.1,hS.2,Nat.zero_le _⟩
   split at h
   ·split at h
    ·cases h;exact h1
    ·exact tZ hB hm f _ _ h ⟨h1.st,h1.ht⟩
   ·cases h
theorem ck{cs:List (Int×Int)}{la:List (Bool×Int)}{out:List Int}:∀(o:Fo) (a b base loop:Nat) {S S':WS} {bd bd':Bd},aA cs out o a b->aW cs la o base loop S bd=some (.ok (S',bd'))->Sm a S->Sm b S'
 |.nil,a,b,base,loop,S,S',bd,bd',hg,h,hS=>by cases h;exact hS.le hg.le
 |.pl x y r,a,b,base,loop,S,S',bd,bd',hg,h,hS=>by
  obtain⟨rfl,h1,_,_,h4⟩:=hg
  rw[aW] at h
  split at h
  ·cases h
  ·rename_i S1 b1 hr
   have:=qv _ _ hr hS
   rw[show x+(y-x)=y by omega] at this
   exact ck r y b base loop h4 h this
 |.br op x y u v r,a,b,base,loop,S,S',bd,bd',hg,h,hS=>by
  obtain⟨rfl,hop,hopv,⟨m,g1,g2,g3,g4,g5⟩,h4⟩:=hg
  have hle:=h4.le
  have hul:=g4.le
  have hmy:m<y:=by rcases g5 with⟨_,e,_,q2,_,_,q5⟩|⟨_,_,q2⟩<;>omega
  rw[aW,g4.lastB] at h
  split at h
  ·rename_i h27
   split at h
   ·cases h
   ·rename_i l S1 hp
    have k1:=gi hp hS
    split at h
    ·cases h
    ·cases h
    ·rename_i S2 bx hu
     have m1:=ck u (x+1) m _ loop g4 hu (k1.le (by omega))
     split at h
     rotate_left
     ·cases h
     split at h
     ·rename_i h28
      rcases g5 with⟨_,e,q1,q2,q3,q4,q5⟩|⟨q0,_,_⟩
      rotate_left
      ·exact absurd h28 q0
      split at h
      ·cases h
      ·cases h
      ·rename_i S4 by_ hv
       have n1:=ck v (m+1) e _ loop q4 hv (show Sm (m+1) {S2 with loc:=S1.loc} from⟨m1.st,m1.ht,Nat.le_trans m1.lv (by omega)⟩)
       split at h
       rotate_left
       ·cases h
       exact ck r y b base loop h4 h ⟨n1.st,n1.ht,Nat.le_trans n1.lv (by omega)⟩
     ·exact ck r y b base loop h4 h ⟨m1.st,m1.ht,Nat.le_trans m1.lv (by omega)⟩
  ·split at h
   ·cases h
   ·rename_i l S1 hp
    have k1:=gi hp hS
    split at h
    rotate_left
    ·cases h
    split at h
    ·cases h
    ·cases h
    ·rename_i head S2 bx hr
     have m1:=tZ (a:=x+1) (m:=m) (λS3 S4 b4 h3 h5=>ck u (x+1) m _ _ g4 h3 h5) (λS h1 h2=>⟨h1.st,h1.ht,by rw[h2];exact Nat.zero_le _⟩) 6 1 S1.loc hr ⟨k1.st,k1.ht⟩
     exact ck r y b base loop h4 h ⟨m1.st,m1.ht,Nat.le_trans k1.lv (by omega)⟩
def eA(cs:List (Int×Int))(la:List (Bool×Int))(x:Nat)(u v:Fo)(base loop:Nat)(S:WS):Option (Except Er (WS×Bd)):=match eS x base [116] S with
 |.error e=>some (.error e)
 |.ok (_,S1)=>match aW cs la u S1.st.length loop S1 (0,0) with
  |none=>none
  |some (.error e)=>some (.error e)
  |some (.ok (S2,bx))=>
   if S2.st.length=S1.st.length then
    if aj cs (u.lastB (x+1))=28 then match aW cs la v S1.st.length loop {S2 with loc:=S1.loc} (0,0) with
     |none=>none
     |some (.error e)=>some (.error e)
     |some (.ok (S4,by_))=>
      if S4.st.length=S1.st.length then some (.ok ({S4 with loc:=bL S2.loc S4.loc},bA (aU bx.1 by_.1,aU bx.2 by_.2) (1,0)))
      else some (.error ((v.lastB (u.lastB (x+1)+1):Nat),14))
    else some (.ok ({S2 with loc:=bL S2.loc S1.loc},bA (aU bx.1 0,aU bx.2 0) (1,0)))
   else some (.error ((u.lastB (x+1):Nat),14))
def jX(cs:List (Int×Int))(la:List (Bool×Int))(x:Nat)(u:Fo)(base:Nat)(S:WS):Option (Except Er (WS×Bd)):=match eS x base [110] S with
 |.error e=>some (.error e)
 |.ok (l,S1)=>
  if(l.getD 0 v0).2.2<=65536 then match gJ (λS'=>aW cs la u S1.st.length S1.st.length S' (0,0)) (u.lastB (x+1)) S1.st.length (stoF cs x (u.lastB (x+1)-x)) 6 1 S1.loc S1 with
   |none=>none
   |some (.error e)=>some (.error e)
   |some (.ok (head,S2,bx))=>some (.ok ({S2 with loc:=S2.lv.foldl bL head,lv:=S1.lv,lp:=fM S2.lp x (l.getD 0 v0).2.2},bA (ft bx (l.getD 0 v0).2.2) (1,0)))
  else some (.error (x,18))
def Vt(cs:List (Int×Int))(la:List (Bool×Int))(r:Fo)(base loop:Nat)(b:Bd):Option (Except Er (WS×Bd))->Option (Except Er (WS×Bd))
 |none=>none
 |some (.error e)=>some (.error e)
 |some (.ok (S',z))=>aW cs la r base loop S' (bA b z)
theorem nj{cs:List (Int×Int)}{la:List (Bool×Int)}{op:Int}{x y:Nat}{u v r:Fo}{base loop:Nat}{S:WS}{b:Bd}:aW cs la (.br op x y u v r) base loop S b=Vt cs la r base loop b (if op=27 then eA cs la x u v base loop S else jX cs la x u base S):=by
 rw[aW]
 by_cases h:op=27
 ·rw[if_pos h,if_pos h]
  unfold eA
  cases eS x base [116] S with
  |error e=>rfl
  |ok q=>
   obtain⟨l,S1⟩:=q
   dsimp only
   cases aW cs la u S1.st.length loop S1 (0,0) with
   |none=>rfl
   |some q=>
    cases q with
    |error e=>rfl
    |ok q=>
     obtain⟨S2,bx⟩:=q
     dsimp only
     by_cases h1:S2.st.length=S1.st.length
     ·rw[if_pos h1,if_pos h1]
      by_cases h2:aj cs (u.lastB (x+1))=28
      ·rw[if_pos h2,if_pos h2]
       cases aW cs la v S1.st.length loop {S2 with loc:=S1.loc} (0,0) with
       |none=>rfl
       |some q=>
        cases q with
        |error e=>rfl
        |ok q=>
         obtain⟨S4,b4⟩:=q
         dsimp only
         by_cases h3:S4.st.length=S1.st.length
         ·rw[if_pos h3,if_pos h3];rfl
         ·rw[if_neg h3,if_neg h3];rfl
      ·rw[if_neg h2,if_neg h2];rfl
     ·rw[if_neg h1,if_neg h1];rfl
 ·rw[if_neg h,if_neg h]
  unfold jX
  cases eS x base [110] S with
  |error e=>rfl
  |ok q=>
   obtain⟨l,S1⟩:=q
   dsimp only
   by_cases h1:(l.getD 0 v0).2.2<=65536
   ·rw[if_pos h1,if_pos h1]
    cases gJ (λS'=>aW cs la u S1.st.length S1.st.length S' (0,0)) (u.lastB (x+1)) S1.st.length (stoF cs x (u.lastB (x+1)-x)) 6 1 S1.loc S1 with
    |none=>rfl
    |some q=>
     cases q with
     |error e=>rfl
     |ok q=>rfl
   ·rw[if_neg h1,if_neg h1];rfl
def dp(cs:List (Int×Int)):List Int×Int:=if 1024<cs.length then([],6) else match cn cs with
 |.ok (_,pt)=>(pt,0)
 |.error _=>([],15)
def kn(cs:List (Int×Int))(φ:Fz)(w:World)(e:Ending)(w':World):Prop:=∃(v:Value) (φ':Fz),e= .returned (.tuple #[v,.int .i64 (dp cs).2])/\
 VR (Sg.data φ') (.fs 1 (dp cs).1.length (iC (dp cs).1)) v/\pY φ' w'/\Below w.heap.size w w'/\∀c,c<w.heap.size->φ' c=φ c
def rY(w:World):World:=(w.alloc (Obj.cells #[.int .i64 0] 30)).alloc (Obj.cells #[.int .i64 0] 3)
theorem qg(w:World):(rY w).heap.size=w.heap.size+2:=by simp[rY]
theorem C1(w:World):(rY w).heap[w.heap.size]? =some (.cells #[.int .i64 0] 30 (0,0)):=by
 rw[rY,Below.heap_alloc _ _ _ (by simp)]
 exact lQ w _
theorem Vr(w:World):(rY w).heap[w.heap.size+1]? =some (.cells #[.int .i64 0] 3 (0,0)):=by
 have:=lQ (w.alloc (Obj.cells #[.int .i64 0] 30)) (Obj.cells #[.int .i64 0] 3)
 simpa [rY] using this
theorem tN(w:World):Below w.heap.size w (rY w):=((Below.refl _ _).alloc (by simp) _).alloc (by simp) _
theorem lb{cs:List (Int×Int)}{φ:Fz}{w w2:World}{a n:Int}(hφ:pY φ w)(hb:Below (rY w).heap.size (rY w) w2)(hp:dp cs=([],n))(tm:Array Value)(h2:tm[2]? =some (.slice none 0 0))(h3:tm[3]? =some (.pointer (some ⟨w.heap.size,0,none⟩))):
  Leaves Tryz.prog Tryz.f52 tm (kn cs φ w) [{target:= .fn (.func 82) #[],args:= #[.pointer (some ⟨w.heap.size+1,0,none⟩),.pointer (some ⟨w.heap.size,0,none⟩)]}] (.panicking (fA a n)) w2:=by
 have hz:=qg w
 have q1:w2.heap[w.heap.size]? =some (.cells #[.int .i64 0] 30 (0,0)):=by rw[hb.block _ (by omega)];exact C1 w
 have q2:w2.heap[w.heap.size+1]? =some (.cells #[.int .i64 0] 3 (0,0)):=by rw[hb.block _ (by omega)];exact Vr w
 refine leaves_cons (f:=82) (args:= #[.pointer (some ⟨w.heap.size+1,0,none⟩),.pointer (some ⟨w.heap.size,0,none⟩)]) (by simp) (by simp[go_sem]) ?_
 refine(fG (w.heap.size+1) w.heap.size 0 0 a n [] w2 q2 q1 (by omega) (by omega)).mono ?_
 rintro e u' w3 ⟨rfl,rfl,b1,b2,b3,ho3,ht3,hp3,hs3⟩
 have hsz:=hb.size
 have hB:=tN w
 have y2:w3.cell? ⟨w.heap.size,0,none⟩=some (.int .i64 n):=by simp[World.cell?,b2]
 have hbl:∀k,k<w.heap.size->w3.heap[k]? =w.heap[k]? :=λk hk=>by rw[b3 k (by omega) (by omega) (by omega),hb.block k (by omega),hB.block k hk]
 have hfin:kn cs φ w (.returned (.tuple #[.slice none 0 0,.int .i64 n])) w3:=by
  refine⟨.slice none 0 0,φ,by rw[hp],by rw[hp];exact .fs0 _ _ _ _,i4 hφ hbl,⟨ho3.trans (hb.os.trans hB.os),ht3.trans (hb.tape.trans hB.tape),hp3.trans (hb.output.trans hB.output),by omega,hbl⟩,λ_ _=>rfl⟩
 have H:=gU.mk hfin
 clear hfin
 simp[Leaves,settle,results,Tryz.results52,go_sem,y2,h2,h3]
 exact H.out
theorem xY(cs:List (Int×Int))(φ:Fz)(w:World)(u:Value)(hφ:pY φ w)(hu:VR (Sg.data φ) (.fs 2 cs.length (pI cs)) u):Calls Tryz.prog 52 #[u] w (kn cs φ w):=by
 have HU:=gU.mk hu
 have HF:=gU.mk hφ
 clear hu hφ
 go_enter_defers Tryz.func52,Tryz.ntmps52
 go_wp2_with fail
 show Calls _ _ _ (rY w) _
 have hz:=qg w
 have hB:=tN w
 refine((rI cs).2 (rY w).heap.size (Sg.data φ) (rY w) #[u] (HR.empty (rY w) (i4 HF.out λk hk=>hB.block k hk)) ⟨rfl,λi v hv=>?_⟩).mono ?_
 ·cases i with
  |zero=>cases hv;exact HU.out
  |succ i=>simp at hv
 rintro e w2 hp
 cases e with
 |outgrown=>exact hp.elim
 |panicked c=>
  obtain⟨H',σ',⟨hlong,rfl⟩,hHR,hA⟩:=hp
  exact lb HF.out hA.bel (by rw[dp,if_pos hlong]) _ rfl rfl
 |returned v=>
  obtain⟨v',H1,σ1,⟨hle,rfl,rfl⟩,hv,hHR1,hA1⟩:=hp
  cases hv with
  |@p _ _ _ c0 oc hs=>
  have H1:=gU.mk hHR1
  have H2:=gU.mk hA1
  have H3:=gU.mk hs
  have H4:=gU.mk hB
  clear hHR1 hA1 hs hB
  go_wp2_with fail
  refine((qf cs hle _ rfl).2 (rY w).heap.size σ1 w2 _ H1.out ⟨rfl,λi v hv=>?_⟩).mono ?_
  ·cases i with
   |zero=>cases hv;exact .p H3.out
   |succ i=>simp at hv
  rintro e w3 hp
  have hb2:=H2.out.bel
  cases e with
  |outgrown=>exact hp.elim
  |panicked c=>
   obtain⟨H',σ',⟨x,hx,rfl⟩,hHR,hA⟩:=hp
   exact lb HF.out (hb2.trans hA.bel) (by rw[dp,if_neg (by omega),hx]) _ rfl rfl
  |returned v2=>
   obtain⟨v',H',σ2,⟨o,pt,hrd,rfl,rfl⟩,hv2,hHR2,hA2⟩:=hp
   have hs2:=hA2.kp 0 _ rfl H3.out
   obtain⟨cs0,t1,t2,t3⟩:=hHR2.blk 0 _ _ _ (by simp only[go_sem,simprocAttr]<;>rfl) hs2
   have t4:=t3.cell 2 (by show 2<3;decide)
   have t5:=t3.sz
   obtain⟨u3,hu3⟩:∃u3,cs0.getD 2 undef=u3:=⟨_,rfl⟩
   rw[hu3] at t4
   have hg:(ae 0 173 [.fs 2 cs.length (pI cs),.n .i64 cs.length,.os 1 pt.length]).get 2= .os 1 pt.length:=by simp only[go_sem,simprocAttr]
   rw[hg] at t4
   obtain⟨σ3,m1,m2,m3,m4,m5,m6,m7⟩:=hHR2.marks [1]
   have hd:VR σ3.bare (.fs 1 pt.length (iC pt)) u3:=(Cv.ownb (ty:=3) (z:=0) (M:=[1]) (by simp only[go_sem,simprocAttr]) (λi j _ _=>rfl) (by simp):Cv [1] (ah [ai 3 1 pt.length 0 (iC pt),ae 0 173 [.fs 2 cs.length (pI cs),.n .i64 cs.length,.os 1 pt.length]]) (.os 1 pt.length) (.fs 1 pt.length (iC pt))).ok hHR2 m1 m2 m7 t4
   have z2:w3.cell? ⟨c0,2,none⟩=some u3:=by
    have hlt:2<cs0.size:=by have:3<=cs0.size:=t5;omega
    simp[World.cell?,t2,<-hu3,hlt,Array.getD]
   have hb3:=hb2.trans hA2.bel
   have q1:w3.heap[w.heap.size]? =some (.cells #[.int .i64 0] 30 (0,0)):=by rw[hb3.block _ (by omega)];exact C1 w
   have z0:w3.cell? ⟨w.heap.size,0,none⟩=some (.int .i64 0):=by simp[World.cell?,q1]
   have f0:w3.frozen? ⟨w.heap.size,0,none⟩=false:=by simp[World.frozen?,q1]
   have hpf:dp cs=(pt,0):=by rw[dp,if_neg (by omega),hrd]
   have hfz:∀c,c<(rY w).heap.size->σ3.fz c=φ c:=λc hc=>(m4.eq c hc).trans ((hA2.fzb.eq c hc).trans (H2.out.fzb.eq c hc))
   have G1:=gU.mk m6
   have G2:=gU.mk hfz
   have G3:=gU.mk hd
   have G4:=gU.mk hb3
   have G5:=gU.mk q1
   clear hHR2 hA2 hv2 hb3 hb2 q1 t1 t2 t3 t4 t5 m1 m2 m3 m4 m5 m6 m7 hd hfz hs2 hg hu3
   go_wp2
   have y1:(w3.setCell ⟨w.heap.size,0,none⟩ (.int .i64 0)).cell? ⟨w.heap.size,0,none⟩=some (.int .i64 0):=by
    simp[World.cell?,World.setCell,Array.getElem?_modify,G5.out]
   have hd:∀k,k≠w.heap.size->(w3.setCell ⟨w.heap.size,0,none⟩ (.int .i64 0)).heap[k]? =w3.heap[k]? :=λk h1=>by
    rw[Below.heap_setCell _ _ _ _ (show k≠(⟨w.heap.size,0,none⟩:Addr).block from h1)]
   have hnb:∀c fs,σ3.fz c=some fs->c≠w.heap.size:=λc fs hf=>by
    by_cases hc:c<(rY w).heap.size
    ·rw[G2.out c hc] at hf
     obtain⟨cs',t,fr,e1,_⟩:=HF.out c fs hf
     have:=(Array.getElem?_eq_some_iff.1 e1).1
     omega
    ·omega
   have hfin:kn cs φ w (.returned (.tuple #[u3,.int .i64 0])) (w3.setCell ⟨w.heap.size,0,none⟩ (.int .i64 0)):=by
    refine⟨u3,σ3.fz,by rw[hpf],by rw[hpf];exact G3.out,λc fs hf=>?_,((H4.out.trans (G4.out.mono (by omega))).setCell (Nat.le_refl _) _),λc hc=>G2.out c (by omega)⟩
    obtain⟨cs',t,fr,e1,e2,_⟩:=G1.out.frz c fs hf
    exact⟨cs',t,fr,by rw[hd c (hnb c fs hf)];exact e1,e2⟩
   refine leaves_cons (f:=82) (args:= #[.pointer (some ⟨w.heap.size+1,0,none⟩),.pointer (some ⟨w.heap.size,0,none⟩)]) (by simp) (by simp[go_sem]) ?_
   refine(k9 (w.heap.size+1) w.heap.size _).mono ?_
   rintro e u' w'' ⟨rfl,rfl,rfl⟩
   have HH:=gU.mk hfin
   clear hfin hd hnb
   refine⟨.tuple #[u3,.int .i64 0],?_,HH.out⟩
   simp[results,Tryz.results52,go_sem,y1]
theorem xZ(cs:List (Int×Int)):bN Tryz.prog 52 [.fs 2 cs.length (pI cs)] [.v (.fs 1 (dp cs).1.length (iC (dp cs).1)),.v (.n .i64 (dp cs).2)]:=by
 refine⟨⟨_,Tryz.func52,by kernel_rfl,rfl⟩,λφ w args' hφ ha=>?_⟩
 obtain⟨u,rfl,hu⟩:∃u,args'= #[u]/\VR (Sg.data φ) (.fs 2 cs.length (pI cs)) u:=by
  obtain⟨l⟩:=args'
  obtain⟨h1,h2⟩:=ha
  match l,h1 with
  |[x],_=>exact⟨x,rfl,h2 0 _ rfl⟩
 refine(xY cs φ w u hφ hu).mono λe w' hp=>?_
 obtain⟨v,φ',rfl,hv,hin,hb,hfz⟩:=hp
 refine⟨.tup [.fs 1 (dp cs).1.length (iC (dp cs).1),.n .i64 (dp cs).2],⟨.nil,0,2^40,λ_=>none,[]⟩,Sg.data φ',⟨[.fs 1 (dp cs).1.length (iC (dp cs).1),.n .i64 (dp cs).2],rfl,⟨rfl,rfl⟩,⟨rfl,rfl⟩,trivial⟩,?_,HR.emptyAt w' hb.size hin,hb,hfz⟩
 exact(a8.nil.cons (.n _ _)).cons hv |>.tup
end Go.Proofs.YtdpkgnmmikebdaaGreat