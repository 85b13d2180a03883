/- A part of the proof of CostLimits. No condition. -/
import Derived.ChangeAlike
import Derived.Defers
import Derived.Recover
import Derived.RegionTactic
import Derived.Test.YtdpkgnmmikebdaaGreatGi24
import Derived.Test.YtdpkgnmmikebdaaGreatGi22
import Derived.Test.YtdpkgnmmikebdaaGreatGip
set_option linter.unusedSimpArgs false
set_option linter.unusedVariables false
set_option linter.constructorNameAsVariable false
set_option maxRecDepth 100000
set_option maxHeartbeats 4000000
namespace Go.Proofs.YtdpkgnmmikebdaaGreat
open Go.RowKit
theorem yf(w:World):(binOp .eql 20 .nilIface .nilIface).run av w= .ok (.bool true) w:=by kernel_rfl
theorem v4(a n:Int)(w:World):(binOp .eql 20 (.iface 211 (.agg #[.int .i64 a,.int .i64 n])) .nilIface).run av w= .ok (.bool false) w:=by kernel_rfl
theorem yz(a n:Int)(w:World):(Instr.typeAssert (.iface 211 (.agg #[.int .i64 a,.int .i64 n])) 20 211 true).run av w= .ok (.tuple #[.agg #[.int .i64 a,.int .i64 n],.bool true]) w:=by kernel_rfl
theorem rI(p q x:Value): #[p,q]++((Array.replicate 24 undef).setIfInBounds 5 x).setIfInBounds 2 x=
  #[p,q,undef,undef,x,undef,undef,x,undef,undef,undef,undef,undef,undef,undef,undef,undef,undef,undef,undef,undef,undef,undef,undef,undef,undef]:=by kernel_rfl
theorem rK(ab eb:Nat)(w:World):
  CallsD av 82 #[.pointer (some ⟨ab,0,none⟩),.pointer (some ⟨eb,0,none⟩)] .returning w λe u' w'=>e= .returned (.tuple #[])/\u'= .returning/\w'=w:=by
 refine callsD_of_wpS Tryz.func82 rfl λc₀ cs hu=>?_;apply wpS_seq;apply wpS_region;simp[wpOpsS,go_sem,recoverD,hu,Tryz.ntmps82,Exit.thenS];refine wpS_of_wp ?_;rw[rI];have hq:=yf
 go_wp2
 cases c₀;simp_all [bodyPostS,results,Tryz.results82]
theorem mV(ab eb:Nat)(x y a n:Int)(older:List PanicEntry)(w:World)(ha:w.heap[ab]? =some (.cells #[.int .i64 x] 3 (0,0)))(he:w.heap[eb]? =some (.cells #[.int .i64 y] 30 (0,0)))(hne:¬ab=eb)(hne2:¬eb=ab):
  CallsD av 82 #[.pointer (some ⟨ab,0,none⟩),.pointer (some ⟨eb,0,none⟩)] (.panicking ({v:= .iface 211 (.agg #[.int .i64 a,.int .i64 n]),recovered:=false}::older)) w λe u' w'=>
   e= .returned (.tuple #[])/\u'= .panicking ({v:= .iface 211 (.agg #[.int .i64 a,.int .i64 n]),recovered:=true}::older)/\w'.heap[ab]? =some (.cells #[.int .i64 a] 3 (0,0))/\w'.heap[eb]? =some (.cells #[.int .i64 n] 30 (0,0))/\(∀k,k<w.heap.size->k≠ab->k≠eb->w'.heap[k]? =w.heap[k]?)/\w'.os=w.os/\w'.tape=w.tape/\w'.output=w.output/\w.heap.size<=w'.heap.size:=by
 have hq:=v4 a n;have hta:=yz a n;refine callsD_of_wpS Tryz.func82 rfl λc₀ cs hu=>?_;apply wpS_seq;apply wpS_region;simp[wpOpsS,go_sem,recoverD,hu,Tryz.ntmps82,Exit.thenS];refine wpS_of_wp ?_;rw[rI]
 go_wp2
 have hal:ab<w.heap.size:=(apo.1 ha).1;have hel:eb<w.heap.size:=(apo.1 he).1;have z0:w.cell? ⟨ab,0,none⟩=some (.int .i64 x):=by simp[World.cell?,ha]
 have z1:w.cell? ⟨eb,0,none⟩=some (.int .i64 y):=by simp[World.cell?,he]
 have f0:w.frozen? ⟨ab,0,none⟩=false:=by simp[World.frozen?,ha]
 have f1:w.frozen? ⟨eb,0,none⟩=false:=by simp[World.frozen?,he]
 have y0:∀v,(w.setCell ⟨eb,0,none⟩ v).cell? ⟨ab,0,none⟩=some (.int .i64 x):=λv=>by rw[World.cell?_of_block (Below.heap_setCell _ _ _ _ hne)];exact z0
 have y1:∀v,(w.setCell ⟨ab,0,none⟩ v).cell? ⟨eb,0,none⟩=some (.int .i64 y):=λv=>by rw[World.cell?_of_block (Below.heap_setCell _ _ _ _ hne2)];exact z1
 have g0:∀v,(w.setCell ⟨eb,0,none⟩ v).frozen? ⟨ab,0,none⟩=false:=λv=>by simp only[World.frozen?];rw[Below.heap_setCell _ _ _ _ (show ab≠(⟨eb,0,none⟩:Addr).block from hne),ha];rfl
 have g1:∀v,(w.setCell ⟨ab,0,none⟩ v).frozen? ⟨eb,0,none⟩=false:=λv=>by simp only[World.frozen?];rw[Below.heap_setCell _ _ _ _ (show eb≠(⟨ab,0,none⟩:Addr).block from hne2),he];rfl
 go_region
 go_wp2
 cases c₀;simp only at hu;subst hu;simp only[bodyPostS];refine⟨trivial,_,rfl,?_⟩;refine⟨_,results_none rfl _ _ _,?_⟩;refine⟨rfl,rfl,?_⟩;have hs:((w.setCell ⟨ab,0,none⟩ (.int .i64 a)).setCell ⟨eb,0,none⟩ (.int .i64 n)).heap.size=w.heap.size:=by simp[World.setCell]
 have hd:∀k,k<w.heap.size->((((w.setCell ⟨ab,0,none⟩ (.int .i64 a)).setCell ⟨eb,0,none⟩ (.int .i64 n)).alloc (Obj.cells #[.int .i64 a,.int .i64 n] 211)).drew).heap[k]? =((w.setCell ⟨ab,0,none⟩ (.int .i64 a)).setCell ⟨eb,0,none⟩ (.int .i64 n)).heap[k]? :=λk hk=>Below.heap_alloc _ _ _ (by rw[hs];exact hk)
 refine⟨?_,?_,λk hk h1 h2=>?_,rfl,rfl,rfl,?_⟩
 ·exact arV
 ·exact arW
 ·exact arX
 ·have:((((w.setCell ⟨ab,0,none⟩ (.int .i64 a)).setCell ⟨eb,0,none⟩ (.int .i64 n)).alloc (Obj.cells #[.int .i64 a,.int .i64 n] 211)).drew).heap.size=w.heap.size+1:=by rw[<-hs];exact Array.size_push ..
  omega
structure ou(p:Prop):Prop where
 out:p
def fJ(cs:am):Fo×Int×Int:=if 1024<cs.length then(.nil,0,6) else match jH cs with
 |.ok (o,_)=>(o,0,0)
 |.error x=>(.nil,x,15)
def pn(cs:am)(φ:Fz)(w:World)(e:Ending)(w':World):Prop:=∃(v:Value) (φ':Fz),e= .returned (.tuple #[v,.int .i64 (fJ cs).2.1,.int .i64 (fJ cs).2.2])/\
 VR (Sg.data φ') (.fs 5 (fJ cs).1.len (fJ cs).1.cell) v/\wv φ' w'/\Below w.heap.size w w'/\∀c,c<w.heap.size->φ' c=φ c
theorem pg{φ:Fz}{w w':World}(h:wv φ w)(hb:∀k,k<w.heap.size->w'.heap[k]? =w.heap[k]?):wv φ w':=λc fs hf=>by
 obtain⟨cs,t,fr,e1,e2⟩:=h c fs hf;exact⟨cs,t,fr,by rw[hb c (apo.1 e1).1];exact e1,e2⟩
def yK(w:World):World:=(w.alloc (Obj.cells #[.int .i64 0] 3)).alloc (Obj.cells #[.int .i64 0] 30)
theorem wG(w:World):(yK w).heap.size=w.heap.size+2:=by simp[yK]
theorem sA(w:World)(o:Obj):(w.alloc o).heap[w.heap.size]? =some o:=by
 show(w.heap.push o)[w.heap.size]? =some o;simp
theorem Dx(w:World):(yK w).heap[w.heap.size]? =some (.cells #[.int .i64 0] 3 (0,0)):=by
 rw[yK,Below.heap_alloc _ _ _ ae];exact sA w _
theorem Dw(w:World):(yK w).heap[w.heap.size+1]? =some (.cells #[.int .i64 0] 30 (0,0)):=by
 have:=sA (w.alloc (Obj.cells #[.int .i64 0] 3)) (Obj.cells #[.int .i64 0] 30);simpa [yK] using this
theorem vg(w:World):Below w.heap.size w (yK w):=((Below.refl _ _).alloc ae _).alloc ae _
theorem qq{cs:am}{φ:Fz}{w w2:World}{a n:Int}(hφ:wv φ w)(hb:Below (yK w).heap.size (yK w) w2)(hp:fJ cs=(.nil,a,n))(tm:Array Value)(h2:tm[2]? =some (.slice none 0 0))(h3:tm[3]? =some (.pointer (some ⟨w.heap.size,0,none⟩)))(h4:tm[4]? =some (.pointer (some ⟨w.heap.size+1,0,none⟩))):
  Leaves av Tryz.f50 tm (pn cs φ w) [{target:= .fn (.func 82) #[],args:= #[.pointer (some ⟨w.heap.size,0,none⟩),.pointer (some ⟨w.heap.size+1,0,none⟩)]}] (.panicking (mN a n)) w2:=by
 have hz:=wG w;have q1:w2.heap[w.heap.size]? =some (.cells #[.int .i64 0] 3 (0,0)):=by rw[hb.block _ aa];exact Dx w
 have q2:w2.heap[w.heap.size+1]? =some (.cells #[.int .i64 0] 30 (0,0)):=by rw[hb.block _ aa];exact Dw w
 refine leaves_cons (f:=82) (args:= #[.pointer (some ⟨w.heap.size,0,none⟩),.pointer (some ⟨w.heap.size+1,0,none⟩)]) ae (by simp[go_sem]) ?_
 refine(mV w.heap.size (w.heap.size+1) 0 0 a n [] w2 q1 q2 aa aa).mono ?_;rintro e u' w3 ⟨rfl,rfl,b1,b2,b3,ho3,ht3,hp3,hs3⟩;have hsz:=hb.size;have hB:=vg w;have y1:w3.cell? ⟨w.heap.size,0,none⟩=some (.int .i64 a):=by simp[World.cell?,b1]
 have y2:w3.cell? ⟨w.heap.size+1,0,none⟩=some (.int .i64 n):=by simp[World.cell?,b2]
 have hbl:∀k,k<w.heap.size->w3.heap[k]? =w.heap[k]? :=λk hk=>by rw[b3 k aa aa aa,hb.block k aa,hB.block k hk]
 have hfin:pn cs φ w (.returned (.tuple #[.slice none 0 0,.int .i64 a,.int .i64 n])) w3:=by
  refine⟨.slice none 0 0,φ,by rw[hp],by rw[hp];exact .fs0 _ _ _ _,pg hφ hbl,⟨ho3.trans (hb.os.trans hB.os),ht3.trans (hb.tape.trans hB.tape),hp3.trans (hb.output.trans hB.output),aa,hbl⟩,λ_ _=>rfl⟩
 have H:=ou.mk hfin;clear hfin;simp[Leaves,settle,results,Tryz.results50,go_sem,y1,y2,h2,h3,h4];exact H.out
theorem B2(cs:am)(φ:Fz)(w:World)(u:Value)(hφ:wv φ w)(hu:VR (Sg.data φ) (.fs 2 cs.length (pI cs)) u):Calls av 50 #[u] w (pn cs φ w):=by
 have HU:=ou.mk hu;have HF:=ou.mk hφ;clear hu hφ
 go_enter_defers Tryz.func50,Tryz.ntmps50
 go_wp2_with fail
 show Calls _ _ _ (yK w) _;have hz:=wG w;have hB:=vg w;refine((yw cs).2 (yK w).heap.size (Sg.data φ) (yK w) #[u] (HR.empty (yK w) (pg HF.out λk hk=>hB.block k hk)) ⟨rfl,λi v hv=>?_⟩).mono ?_
 ·cases i with
  |zero=>cases hv;exact HU.out
  |succ i=>simp at hv
 rintro e w2 hp;cases e with
 |outgrown=>exact hp.elim
 |panicked c=>
  obtain⟨H',σ',⟨hlong,rfl⟩,hHR,hA⟩:=hp;exact qq HF.out hA.bel (by rw[fJ,if_pos hlong]) _ rfl rfl rfl
 |returned v=>
  obtain⟨v',H1,σ1,⟨hle,rfl,rfl⟩,hv,hHR1,hA1⟩:=hp;cases hv with
  |p hs=>
  have H1:=ou.mk hHR1;have H2:=ou.mk hA1;have H3:=ou.mk hs;have H4:=ou.mk hB;clear hHR1 hA1 hs hB
  go_wp2_with fail
  refine((wD cs hle _ rfl).2 (yK w).heap.size σ1 w2 _ H1.out ⟨rfl,λi v hv=>?_⟩).mono ?_
  ·cases i with
   |zero=>cases hv;exact .p H3.out
   |succ i=>simp at hv
  rintro e w3 hp;have hb2:=H2.out.bel;cases e with
  |outgrown=>exact hp.elim
  |panicked c=>
   obtain⟨H',σ',⟨x,hx,rfl⟩,hHR,hA⟩:=hp;exact qq HF.out (hb2.trans hA.bel) (by rw[fJ,if_neg aa,hx]) _ rfl rfl rfl
  |returned v2=>
   obtain⟨v',H',σ2,⟨o,pt,hrd,rfl,rfl⟩,hv2,hHR2,hA2⟩:=hp;have hb3:=hb2.trans hA2.bel;have q1:w3.heap[w.heap.size]? =some (.cells #[.int .i64 0] 3 (0,0)):=by rw[hb3.block _ aa];exact Dx w
   have q2:w3.heap[w.heap.size+1]? =some (.cells #[.int .i64 0] 30 (0,0)):=by rw[hb3.block _ aa];exact Dw w
   have z0:w3.cell? ⟨w.heap.size,0,none⟩=some (.int .i64 0):=by simp[World.cell?,q1]
   have z1:w3.cell? ⟨w.heap.size+1,0,none⟩=some (.int .i64 0):=by simp[World.cell?,q2]
   have f0:w3.frozen? ⟨w.heap.size,0,none⟩=false:=by simp[World.frozen?,q1]
   have f1:w3.frozen? ⟨w.heap.size+1,0,none⟩=false:=by simp[World.frozen?,q2]
   have G1:=ou.mk hHR2;have G2:=ou.mk hA2;have G3:=ou.mk hv2;have G4:=ou.mk hb3;have G5:=ou.mk q1;have G6:=ou.mk q2;clear hHR2 hA2 hv2 hb3 hb2 q1 q2
   go_wp2
   have hn1:w.heap.size≠w.heap.size+1:=aa;have hd:∀k,k≠w.heap.size->k≠w.heap.size+1->((w3.setCell ⟨w.heap.size,0,none⟩ (.int .i64 0)).setCell ⟨w.heap.size+1,0,none⟩ (.int .i64 0)).heap[k]? =w3.heap[k]? :=λk h1 h2=>by
    rw[Below.heap_setCell _ _ _ _ (show k≠(⟨w.heap.size+1,0,none⟩:Addr).block from h2),Below.heap_setCell _ _ _ _ (show k≠(⟨w.heap.size,0,none⟩:Addr).block from h1)]
   have y1:((w3.setCell ⟨w.heap.size,0,none⟩ (.int .i64 0)).setCell ⟨w.heap.size+1,0,none⟩ (.int .i64 0)).cell? ⟨w.heap.size,0,none⟩=some (.int .i64 0):=by
    rw[World.cell?_of_block (Below.heap_setCell _ _ _ _ (show w.heap.size≠(⟨w.heap.size+1,0,none⟩:Addr).block from hn1))];simp[World.cell?,World.setCell,apN,G5.out]
   have y2:((w3.setCell ⟨w.heap.size,0,none⟩ (.int .i64 0)).setCell ⟨w.heap.size+1,0,none⟩ (.int .i64 0)).cell? ⟨w.heap.size+1,0,none⟩=some (.int .i64 0):=by
    simp[World.cell?,World.setCell,apN,G6.out]
   have hpf:fJ cs=(o,0,0):=by rw[fJ,if_neg aa,hrd]
   have hfz:∀c,c<(yK w).heap.size->σ2.fz c=φ c:=λc hc=>(G2.out.fzb.eq c hc).trans (H2.out.fzb.eq c hc);have hnb:∀c fs,σ2.fz c=some fs->c≠w.heap.size/\c≠w.heap.size+1:=λc fs hf=>by
    by_cases hc:c<(yK w).heap.size
    ·rw[hfz c hc] at hf;obtain⟨cs',t,fr,e1,_⟩:=HF.out c fs hf;have:=(apo.1 e1).1;omega
    ·omega
   have hfin:pn cs φ w (.returned (.tuple #[v2,.int .i64 0,.int .i64 0])) ((w3.setCell ⟨w.heap.size,0,none⟩ (.int .i64 0)).setCell ⟨w.heap.size+1,0,none⟩ (.int .i64 0)):=by
    refine⟨v2,σ2.fz,by rw[hpf],by rw[hpf];exact G3.out.pure 3 rfl,λc fs hf=>?_,((H4.out.trans (G4.out.mono aa)).setCell (bL _) _).setCell (Nat.le_succ _) _,λc hc=>hfz c aa⟩
    obtain⟨cs',t,fr,e1,e2,_⟩:=G1.out.frz c fs hf;obtain⟨h1,h2⟩:=hnb c fs hf;exact⟨cs',t,fr,by rw[hd c h1 h2];exact e1,e2⟩
   refine leaves_cons (f:=82) (args:= #[.pointer (some ⟨w.heap.size,0,none⟩),.pointer (some ⟨w.heap.size+1,0,none⟩)]) ae (by simp[go_sem]) ?_
   refine(rK w.heap.size (w.heap.size+1) _).mono ?_;rintro e u' w'' ⟨rfl,rfl,rfl⟩;have HH:=ou.mk hfin;clear hfin hd hfz hnb;refine⟨.tuple #[v2,.int .i64 0,.int .i64 0],?_,HH.out⟩;simp[results,Tryz.results50,go_sem,y1,y2]
theorem re(cs:am):gw av 50 [.fs 2 cs.length (pI cs)] [.v (.fs 5 (fJ cs).1.len (fJ cs).1.cell),.v (aq (fJ cs).2.1),.v (aq (fJ cs).2.2)]:=by
 refine⟨⟨_,Tryz.func50,by kernel_rfl,rfl⟩,λφ w args' hφ ha=>?_⟩
 obtain⟨u,rfl,hu⟩:∃u,args'= #[u]/\VR (Sg.data φ) (.fs 2 cs.length (pI cs)) u:=by
  obtain⟨l⟩:=args';obtain⟨h1,h2⟩:=ha
  match l,h1 with
  |[x],_=>exact⟨x,rfl,h2 0 _ rfl⟩
 refine(B2 cs φ w u hφ hu).mono λe w' hp=>?_;obtain⟨v,φ',rfl,hv,hin,hb,hfz⟩:=hp;refine⟨.tup [.fs 5 (fJ cs).1.len (fJ cs).1.cell,aq (fJ cs).2.1,aq (fJ cs).2.2],⟨.nil,0,2^40,λ_=>none,[]⟩,Sg.data φ',⟨[.fs 5 (fJ cs).1.len (fJ cs).1.cell,aq (fJ cs).2.1,aq (fJ cs).2.2],rfl,⟨rfl,rfl⟩,⟨rfl,rfl⟩,⟨rfl,rfl⟩,trivial⟩,?_,HR.emptyAt w' hb.size hin,hb,hfz⟩;exact((gn.nil.cons (.n _ _)).cons (.n _ _)).cons hv |>.tup
def g9(cs:am):Nat->List Int
 |0=>[]
 |k+1=>if fm cs k=29 then g9 cs k++[(k:Int)] else g9 cs k
def jV(cs:am):List Int:=if(fJ cs).2.2=0 then g9 cs cs.length else[]
theorem oJ(cs:am):∀k,(g9 cs k).length<=k
 |0=>bL _
 |k+1=>by
  have:=oJ cs k;rw[g9];split
  ·rw[ape];simp;omega
  ·omega
theorem Co(cs:am)(hcs:cs.length<=100000):gw av 65 [.fs 2 cs.length (pI cs)] [.o 3 1 (jV cs).length 0 (iC (jV cs)),.v (aq (fJ cs).2.2)]:=by
 refine fe fx afn ⟨ae,ag⟩ ?_;simp only[fy];refine dp ?_;refine gf (re cs) ?_;by_cases he:(fJ cs).2.2=0
 ·have hF:jV cs=g9 cs cs.length:=if_pos he;rw[hF,he];refine dx he ?_;refine GA.wk (Wk.nil 7 1 3 ah ag ah) ?_;simp only[jP];refine GA.loop (I:=λm e H=>∃(k:Nat),m=cs.length-k/\k<=cs.length/\e=fu [(7,.os 0 (g9 cs k).length),(19,.fs 2 cs.length (pI cs)),(20,aq cs.length),(21,aq k)]/\H=fi [fg 3 1 (g9 cs k).length 0 (iC (g9 cs k))]) (Wk.mk [0] [] ?_ ?_ ?_) ⟨0,rfl,aa,rfl,rfl⟩ ?_
  ·exact fK
  ·exact arY
  ·simp
  rintro m e H ⟨k,rfl,hk,rfl,rfl⟩;have h0:(0:Int)<=(k:Int):=aa;have hll:=oJ cs k;obtain⟨l,hl⟩:∃l,l=g9 cs k:=⟨_,rfl⟩;rw[<-hl] at hll ⊢;by_cases h:(k:Int)<cs.length;rotate_left
  ·refine dq h ?_;have:k=cs.length:=aa;subst this;exact⟨[_,_],rfl,.inr ⟨0,by rw[hl],ae,_,aj,rfl,rfl,ag,rfl,by rw[hl];exact bL _,bL _,λi j _ hj=>by rw[hl];exact fI i j hj,λ_ _ _ _=>rfl⟩,rfl,⟨rfl,rfl⟩,trivial⟩
  have hk':k<cs.length:=aa;have wk:=au k;have hlap:(l.length+1<1099511627776/\(l.length+1)*8<=140737488355328)/\l.length<=9223372036854775806:=⟨⟨aa,aa⟩,aa⟩;by_cases e1:(cs.getD k (0,0)).1=29
  ·have hs:g9 cs (k+1)=l++[(k:Int)]:=by rw[g9,if_pos (show fm cs k=29 from e1),hl]
   refine dq (aU h (aU h0 (aU @ip (aU @td (aU e1 (aU wk hlap)))))) ?_;refine⟨_,_,_,?_,Wk.mk [3] [] ?_ ?_ ?_,k+1,rfl,aa,rfl,rfl⟩
   ·omega
   ·rw[hs,ape];simp only[iT,ig,go_sem,simprocAttr]
    repeat' refine fE ?_ ?_
    all_goals first|exact jQ|skip
   ·rw[hs,ape];exact .cr (.snoc (row:=iC l) (n:=l.length) (o:=l.length) (l:=[aq (k:Int)]) ah aa rfl rfl ag aa (λi j hi _=>by simp only[iC];rw[jy hi]) (λj hj=>by cases apE.1 hj;simp only[iC];rw[jz];rfl) (λ_ _ _ _=>rfl)) .nil
   ·simp
  ·have hs:g9 cs (k+1)=l:=by rw[g9,if_neg (show ¬fm cs k=29 from e1),hl]
   refine dq (aU h (aU h0 (aU @ip (aU @td (aU e1 wk))))) ?_;refine⟨_,_,_,?_,Wk.mk [0] [] ?_ ?_ ?_,k+1,rfl,aa,rfl,rfl⟩
   ·omega
   ·rw[hs];simp only[iT,ig,go_sem,simprocAttr]
    repeat' refine fE ?_ ?_
    all_goals first|exact jQ|skip
   ·rw[hs];exact bb
   ·simp
 ·have hF:jV cs=[]:=if_neg he;rw[hF];refine dx he ?_;exact⟨[_,_],rfl,.inl ⟨rfl,rfl⟩,rfl,⟨rfl,rfl⟩,trivial⟩
def gY(l:List Nat):List Int:=(l.map λb:Nat=>(b:Int)).reverse
theorem iE(l:List Nat):(gY l).length=l.length:=by simp[gY]
theorem m8(b:Nat)(l:List Nat):gY (b::l)=gY l++[(b:Int)]:=by simp[gY]
theorem sr(b:Nat)(l:List Nat):(gY (b::l)).getD l.length 0=b:=by
 rw[m8];have:=jz (l:=gY l) (x:=(b:Int)) (d:=0);rw[iE] at this;exact this
theorem ss(b:Nat)(l:List Nat){i:Nat}(h:i<l.length):(gY (b::l)).getD i 0=(gY l).getD i 0:=by
 rw[m8,jy (by rw[iE];exact h)]
def kq(cs:am):List Nat->Int
 |[]=> -1
 |b::l=>if fm cs b=29 then b else kq cs l
theorem nR(cs:am):∀l,kq cs l<0↔nk cs l=false
 |[]=>by simp[kq,nk]
 |b::l=>by
  have:=nR cs l;unfold kq;by_cases h:fm cs b=29
  ·rw[if_pos h];simp[nk,h]
  ·rw[if_neg h,this];simp[nk,h]
theorem qB(cs:am)(l:List Nat)(hl:l.length<=8)(hlt:∀b ∈ l,b<cs.length):
  PC av fV 154 [.fs 2 cs.length (pI cs),.os 0 (gY l).length] (fi [fg 3 1 (gY l).length 0 (iC (gY l))])
   (λv H'=>v= aq (kq cs l)/\H'=fi [fg 3 1 (gY l).length 0 (iC (gY l))]) (λ_ _=>False):=by
 have hlen:=iE l;refine PC.vw (gX ab3 ⟨ae,ag⟩ ?_);simp only[fy];have w1:IntKind.i64.wrap (((gY l).length:Int)-1)=((gY l).length:Int)-1:=ff aa;refine a9 w1 ?_;refine GE.loop (I:=λm e H=>∃rest:List Nat,m=rest.length/\rest.length<=l.length/\kq cs l=kq cs rest/\(∀b ∈ rest,b<cs.length)/\(∀i,i<rest.length->(gY l).getD i 0=(gY rest).getD i 0)/\e=fu [(0,.fs 2 cs.length (pI cs)),(1,.os 0 (gY l).length),(5,aq ((rest.length:Int)-1))]/\H=fi [fg 3 1 (gY l).length 0 (iC (gY l))]) (gA.mk [0] [] ?_ ?_ ae (fh rfl)) ⟨l,rfl,bL _,rfl,hlt,λ_ _=>rfl,rfl,rfl⟩ ?_
 ·exact fK
 ·exact bb
 rintro m e H ⟨rest,rfl,hr1,hr2,hr3,hr4,rfl,rfl⟩;cases rest with
 |nil=>
  have hm:¬(0:Int)<=((([]:List Nat).length:Nat):Int)-1:=ae;refine bh hm ?_;refine mR [0] [] (aq (kq cs l)) [fg 3 1 (gY l).length 0 (iC (gY l))] bb (Wv.n (by rw[hr2];rfl)) ae (fh rfl) ⟨rfl,rfl⟩
 |cons b rest=>
  obtain⟨q,hq⟩:∃q:Nat,q=rest.length:=⟨_,rfl⟩;have hm:(((b::rest).length:Nat):Int)-1=(q:Int):=by simp;omega
  rw[hm];have h0:(0:Int)<=(q:Int):=aa;have hbl:b<cs.length:=hr3 b (aps ..);have hbi:(b:Int)<cs.length:=aa;have h0b:(0:Int)<=(b:Int):=aa;have hql:q<(gY l).length:=by simp only[List.length_cons] at hr1;omega
  have hqi:(q:Int)<(gY l).length:=aa;have hg:(fg 3 1 (gY l).length 0 (iC (gY l))).get q= aq (b:Int):=by
   rw[kL];simp only[iC];rw[hr4 q (by simp;omega),hq,sr]
  have wq:IntKind.i64.wrap ((q:Int)-1)=(q:Int)-1:=ff aa;by_cases e29:(cs.getD b (0,0)).1=29
  ·refine bh (aU h0 (aU hqi (aU hql (aU hg (aU hbi (aU h0b (aU @ip e29))))))) ?_;refine mR [0] [] (aq (kq cs l)) [fg 3 1 (gY l).length 0 (iC (gY l))] bb (Wv.n (by rw[hr2,kq,if_pos (show fm cs b=29 from e29)])) ae (fh rfl) ⟨rfl,rfl⟩
  ·refine bh (aU h0 (aU hqi (aU hql (aU hg (aU hbi (aU h0b (aU @ip (aU e29 wq)))))))) ?_;refine⟨rest.length,_,_,ae,gA.mk [0] [] ?_ ?_ ae (fh rfl),rest,rfl,by simp only[List.length_cons] at hr1;omega,by rw[hr2,kq,if_neg (show ¬fm cs b=29 from e29)],λc hc=>hr3 c (apx _ hc),λi hi=>(hr4 i (by simp;omega)).trans (ss b rest hi),rfl,rfl⟩
   ·exact fK
   ·exact bb
structure Dc(cs:am)(s:RS)(i:Nat):Prop where
 len:s.out.length=cs.length
 op:∀b ∈ s.op,b<i/\(fm cs b=27\/fm cs b=29)
 ot:∀c ∈ s.ot,c<0\/(c<i/\fm cs c.toNat=28)
 eq:s.op.length=s.ot.length
theorem DW(cs:am):Dc cs (yL cs) 0:=⟨by simp[yL],λb hb=>by simp[yL] at hb,λc hc=>by simp[yL] at hc,rfl⟩
theorem ky{cs:am}{i:Nat}{s s1:RS}(h:gC cs i s=some s1)(hi:i<cs.length)(H:Dc cs s i):
  Dc cs s1 (i+1)/\(∀j,j<i->fm cs j=31->s1.out.getD j 0=s.out.getD j 0)/\
   ((fm cs i=31/\∃b,s.op=b::s1.op/\s1.out.getD i 0=b)\/(fm cs i=29/\s1.op=i::s.op)\/(fm cs i=27/\s1.op=i::s.op)\/(fm cs i=30/\s1.op=s.op/\nk cs s.op=true)\/(fm cs i≠31/\fm cs i≠29/\fm cs i≠27/\fm cs i≠30/\s1.op=s.op)):=by
 have low:∀j,j<i->(s.out.set i (-1)).getD j 0=s.out.getD j 0:=λj hj=>gS aa;have opm:∀b ∈ s.op,b<i+1/\(fm cs b=27\/fm cs b=29):=λb hb=>⟨by have:=(H.op b hb).1;omega,(H.op b hb).2⟩
 have otm:∀c ∈ s.ot,c<0\/(c<(i+1:Nat)/\fm cs c.toNat=28):=λc hc=>(H.ot c hc).imp id λh=>⟨aa,h.2⟩;rw[gC] at h;by_cases c1:fm cs i=27\/fm cs i=29
 ·rw[if_pos c1] at h;split at h
  ·cases h
  ·cases h;refine⟨⟨by simp[H.len],λb hb=>?_,λc hc=>?_,by simp[H.eq]⟩,λj hj _=>low j hj,?_⟩
   ·rcases apv.1 hb with rfl|hb
    ·exact⟨aa,c1⟩
    ·exact opm b hb
   ·rcases apv.1 hc with rfl|hc
    ·exact .inl ag
    ·exact otm c hc
   ·rcases c1 with c1|c1
    ·exact .inr (.inr (.inl ⟨c1,rfl⟩))
    ·exact .inr (.inl ⟨c1,rfl⟩)
 rw[if_neg c1] at h;by_cases c2:fm cs i=28
 ·rw[if_pos c2] at h;split at h
  ·rename_i b op c ot h1 h2;split at h
   ·cases h
   ·cases h;have hb:=H.op b (by rw[h1];exact aps ..)
    refine⟨⟨by simp[H.len],λx hx=>opm x (by rw[h1];exact hx),λx hx=>?_,?_⟩,λj hj h31=>?_,.inr (.inr (.inr (.inr ⟨by rw[c2];decide,by rw[c2];decide,by rw[c2];decide,by rw[c2];decide,h1.symm⟩)))⟩
    ·rcases apv.1 hx with rfl|hx
     ·exact .inr ⟨aa,by rw[apw];exact c2⟩
     ·exact otm x (by rw[h2];exact apx _ hx)
    ·have:=H.eq;rw[h1,h2] at this;simpa using this
    ·refine(gS ?_).trans (low j hj);rintro rfl;rcases hb.2 with h|h<;>rw[h31] at h<;>exact absurd h ag
  ·cases h
 rw[if_neg c2] at h;by_cases c3:fm cs i=30
 ·rw[if_pos c3] at h;split at h
  ·rename_i hin;cases h;exact⟨⟨by simp[H.len],opm,otm,H.eq⟩,λj hj _=>low j hj,.inr (.inr (.inr (.inl ⟨c3,rfl,hin⟩)))⟩
  ·cases h
 rw[if_neg c3] at h;by_cases c4:fm cs i=31
 ·rw[if_pos c4] at h;split at h
  ·rename_i b op c ot h1 h2;cases h;have hb:=H.op b (by rw[h1];exact aps ..)
   have hc:=H.ot c (by rw[h2];exact aps ..)
   have hne:∀j,fm cs j=31->j≠b:=λj hj=>by
    rintro rfl;rcases hb.2 with h|h<;>rw[hj] at h<;>exact absurd h ag
   have hnc:0<=c->∀j,fm cs j=31->j≠c.toNat:=λh0 j hj=>by
    rintro rfl;rcases hc with h|h
    ·omega
    ·rw[hj] at h;exact absurd h.2 ag
   have hil:i<(s.out.set i (-1)).length:=by rw[aph,H.len];exact hi
   refine⟨⟨by split<;>simp[H.len],λx hx=>opm x (by rw[h1];exact apx _ hx),λx hx=>otm x (by rw[h2];exact apx _ hx),?_⟩,λj hj h31=>?_,.inl ⟨c4,b,h1,?_⟩⟩
   ·have:=H.eq;rw[h1,h2] at this;simpa using this
   ·dsimp only;split
    ·rename_i h0;exact(gS (hnc h0 j h31)).trans ((gS aa).trans (low j hj))
    ·exact(gS (hne j h31)).trans ((gS aa).trans (low j hj))
   ·dsimp only;split
    ·rename_i h0;exact(gS (hnc h0 i c4)).trans (nK hil)
    ·exact(gS (hne i c4)).trans (nK hil)
  ·cases h
 rw[if_neg c4] at h;cases h;exact⟨⟨by simp[H.len],opm,otm,H.eq⟩,λj hj _=>low j hj,.inr (.inr (.inr (.inr ⟨c4,λh=>c1 (.inr h),λh=>c1 (.inl h),c3,rfl⟩)))⟩
theorem uA{cs:am}:∀(n i:Nat) (s s2:RS),gW cs n i s= .ok s2->i+n<=cs.length->Dc cs s i->∀j,j<i->fm cs j=31->s2.out.getD j 0=s.out.getD j 0
 |0,i,s,s2,h,_,_,j,_,_=>by cases h;rfl
 |n+1,i,s,s2,h,hn,H,j,hj,h31=>by
  rw[gW] at h;cases hs:gC cs i s with
  |none=>rw[hs] at h;cases h
  |some s1=>
   rw[hs] at h;obtain⟨H1,k1,_⟩:=ky hs aa H;exact(uA n (i+1) s1 s2 h aa H1 j aa h31).trans (k1 j hj h31)
def AW(cs:am):Nat->Nat->List Int->List Nat->Option (List Int)
 |0,_,out,_=>some out
 |n+1,i,out,lp=>
  if fm cs i=29 then AW cs n (i+1) out (i::lp)
  else if fm cs i=31 then
   if 0<=out.getD i 0/\out.getD i 0<cs.length then
    if fm cs (out.getD i 0).toNat=29 then match lp with
     |_::l=>AW cs n (i+1) out l
     |[]=>none
    else AW cs n (i+1) out lp
   else none
  else if fm cs i=30 then match lp with
   |b::l=>AW cs n (i+1) (out.set i (out.getD b 0)) (b::l)
   |[]=>none
  else AW cs n (i+1) out lp
def iX(cs:am)(l:List Nat):List Nat:=l.filter λb=>decide (fm cs b=29)
theorem tj{cs:am}:∀(n i:Nat) (s s2:RS) (out:List Int),gW cs n i s= .ok s2->i+n=cs.length->Dc cs s i->(∀j,i<=j->fm cs j=31->out.getD j 0=s2.out.getD j 0)->out.length=cs.length->
  ∃out',AW cs n i out (iX cs s.op)=some out'/\out'.length=cs.length/\∀j,fm cs j≠30->out'.getD j 0=out.getD j 0
 |0,i,s,s2,out,h,hn,H,ho,hl=>⟨out,rfl,hl,λ_ _=>rfl⟩
 |n+1,i,s,s2,out,h,hn,H,ho,hl=>by
  rw[gW] at h;cases hs:gC cs i s with
  |none=>rw[hs] at h;cases h
  |some s1=>
   rw[hs] at h;obtain⟨H1,k1,k2⟩:=ky hs aa H;have ih:=λout' (q1:∀j,i+1<=j->fm cs j=31->out'.getD j 0=s2.out.getD j 0) (q2:out'.length=cs.length)=>tj n (i+1) s1 s2 out' h aa H1 q1 q2;have ih0:=ih out (λj hj h31=>ho j aa h31) hl;rw[AW.eq_def];dsimp only;rcases k2 with⟨c,b,e1,e2⟩|⟨c,e1⟩|⟨c,e1⟩|⟨c,e1,e2⟩|⟨c1,c2,c3,c4,e1⟩
   ·have hb:=H.op b (by rw[e1];exact aps ..)
    have hv:out.getD i 0=b:=by
     rw[ho i (bL _) c,uA n (i+1) s1 s2 h aa H1 i aa c,e2]
    rw[if_neg (by rw[c];decide),if_pos c,hv,if_pos ⟨aa,aa⟩,apw]
    by_cases h29:fm cs b=29
    ·have:iX cs s.op=b::iX cs s1.op:=by rw[e1];simp[iX,h29]
     rw[if_pos h29,this];exact ih0
    ·have:iX cs s.op=iX cs s1.op:=by rw[e1];simp[iX,h29]
     rw[if_neg h29,this];exact ih0
   ·rw[if_pos c];have:iX cs s1.op=i::iX cs s.op:=by rw[e1];simp[iX,c]
    rw[<-this];exact ih0
   ·rw[if_neg (by rw[c];decide),if_neg (by rw[c];decide),if_neg (by rw[c];decide)]
    have:iX cs s1.op=iX cs s.op:=by rw[e1];simp[iX,c]
    rw[<-this];exact ih0
   ·rw[if_neg (by rw[c];decide),if_neg (by rw[c];decide),if_pos c]
    have hne:∃b l,iX cs s.op=b::l:=by
     obtain⟨b,hb,hb2⟩:=List.any_eq_true.1 e2;cases hlp:iX cs s.op with
     |nil=>
      have:b ∈ iX cs s.op:=List.mem_filter.2 ⟨hb,hb2⟩;rw[hlp] at this;cases this
     |cons b l=>exact⟨b,l,rfl⟩
    obtain⟨b,l,hbl⟩:=hne;rw[hbl];obtain⟨out',p1,p2,p3⟩:=ih (out.set i (out.getD b 0)) (λj hj h31=>(gS aa).trans (ho j aa h31)) (by rw[aph];exact hl)
    rw[e1,hbl] at p1;exact⟨out',p1,p2,λj hj=>(p3 j hj).trans (gS (by rintro rfl;exact hj c))⟩
   ·rw[if_neg c2,if_neg c1,if_neg c4,<-e1];exact ih0
theorem zE{n:Nat}(l:List Int)(k:Nat):(fg 3 1 n 0 (iC l)).get k= aq (l.getD k 0):=by rw[kL];rfl
theorem Cs(cs:am)(hcs:cs.length<=1024)(out out':List Int)(hol:out.length=cs.length)(h:AW cs cs.length 0 out []=some out'):
  PC av (λ_=>false) 155 [.fs 2 cs.length (pI cs),.os 0 out.length] (fi [fg 3 1 out.length 0 (iC out)])
   (λv H'=>v= .os 0 out'.length/\H'=fi [fg 3 1 out'.length 0 (iC out')]) (λ_ _=>False):=by
 refine PC.vw (gX abV ⟨ae,ag⟩ ?_);simp only[fy];refine a7 ?_;refine GE.wk (gA.nil 5 1 3 ah ag ah) ?_;simp only[jP];refine GE.loop (I:=λm e H=>∃(k:Nat) (o:List Int) (lp:List Nat),m=cs.length-k/\k<=cs.length/\o.length=cs.length/\AW cs (cs.length-k) k o lp=some out'/\lp.length<=k/\(∀b ∈ lp,b<cs.length)/\e=fu [(0,.fs 2 cs.length (pI cs)),(1,.os 0 o.length),(5,.os 1 (gY lp).length),(6,aq k)]/\H=fi [fg 3 1 (gY lp).length 0 (iC (gY lp)),fg 3 1 o.length 0 (iC o)]) (gA.mk [1,0] [] ?_ ?_ ae lR) ⟨0,out,[],rfl,apf _,hol,h,bL _,λb hb=>(by cases hb),rfl,rfl⟩ ?_
 ·exact fK
 ·exact .cr (.rows (x:=_) aj af af af (by simp[gY]) ag ag (λi j h=>absurd h (apg _)) (λi j h=>absurd h (apg _))) bb
 rintro m e H ⟨k,o,lp,rfl,hk,ho,hlv,hlp,hlt,rfl,rfl⟩;have h0:(0:Int)<=(k:Int):=aa;by_cases hkl:k<cs.length;rotate_left
 ·have hk':¬(k:Int)<cs.length:=aa;have he:k=cs.length:=aa;subst he;rw[apt] at hlv;cases hlv;refine a8 hk' ?_;refine mR [0] [] (.os 0 out'.length) [fg 3 1 out'.length 0 (iC out')] bb (Wv.os rfl) ae lR ⟨rfl,rfl⟩
 have hk':(k:Int)<cs.length:=aa;have wk:=au k;rw[show cs.length-k=(cs.length-(k+1))+1 by omega,AW.eq_def] at hlv
 dsimp only at hlv;have hll:=iE lp;have hki:(k:Int)<o.length:=aa;have hkn:k<o.length:=aa;have hgk:=zE (n:=o.length) o k;by_cases e29:(cs.getD k (0,0)).1=29
 ·rw[if_pos (show fm cs k=29 from e29)] at hlv;have hlap:((gY lp).length+1<1099511627776/\((gY lp).length+1)*8<=140737488355328)/\(gY lp).length<=9223372036854775806:=⟨⟨aa,aa⟩,aa⟩;have hs:gY (k::lp)=gY lp++[(k:Int)]:=m8 k lp;refine a8 (aU hk' (aU h0 (aU @ip (aU e29 (aU wk hlap))))) ?_;refine⟨cs.length-(k+1),_,_,aa,gA.mk [3,0] [] ?_ ?_ ae lR,k+1,o,k::lp,rfl,aa,ho,hlv,by simp;omega,λb hb=>(apv.1 hb).elim (λe=>e ▸ hkl) (hlt b),rfl,rfl⟩
  ·rw[hs,ape];simp only[iT,ig,go_sem,simprocAttr]
   repeat' refine fE ?_ ?_
   all_goals first|exact jQ|skip
  ·rw[hs,ape];exact .cr (.snoc (row:=iC (gY lp)) (n:=(gY lp).length) (o:=(gY lp).length) (l:=[aq (k:Int)]) ah aa rfl rfl ag aa (λi j hi _=>by simp only[iC];rw[jy hi]) (λj hj=>by cases apE.1 hj;simp only[iC];rw[jz];rfl) (λ_ _ _ _=>rfl)) bb
 rw[if_neg (show ¬fm cs k=29 from e29)] at hlv;by_cases e31:(cs.getD k (0,0)).1=31
 ·rw[if_pos (show fm cs k=31 from e31)] at hlv;by_cases hv:0<=o.getD k 0/\o.getD k 0<cs.length;rotate_left
  ·rw[if_neg hv] at hlv;cases hlv
  rw[if_pos hv] at hlv;obtain⟨z,hz⟩:∃z:Nat,o.getD k 0=(z:Int):=⟨(o.getD k 0).toNat,aa⟩;rw[hz] at hgk hv hlv;rw[apw] at hlv;have hz0:=hv.1;have hz1:=hv.2;by_cases z29:(cs.getD z (0,0)).1=29
  ·rw[if_pos (show fm cs z=29 from z29)] at hlv;cases lp with
   |nil=>cases hlv
   |cons b lp=>
   dsimp only at hlv;have hlp':lp.length+1<=k:=hlp;have w1:IntKind.i64.wrap (((gY (b::lp)).length:Int)-1)=((gY lp).length:Int):=by rw[iE,iE,List.length_cons];exact(ff aa).trans aa
   have hp0:(0:Int)<=((gY lp).length:Int):=aa;have hp1:((gY lp).length:Int)<=(gY (b::lp)).length:=by rw[iE,iE,List.length_cons];omega
   refine a8 (aU hk' (aU h0 (aU @ip (aU e29 (aU e31 (aU hki (aU hkn (aU hgk (aU hz0 (aU hz1 (aU z29 (aU w1 (aU hp0 (aU hp1 wk)))))))))))))) ?_;refine⟨cs.length-(k+1),_,_,aa,gA.mk [1,0] [] ?_ ?_ ae lR,k+1,o,lp,rfl,aa,ho,hlv,by simp only[List.length_cons] at hlp;omega,λc hc=>hlt c (apx _ hc),rfl,rfl⟩
   ·exact fK
   ·exact .cr (.pop (row:=iC (gY (b::lp))) (n:=(gY (b::lp)).length) ah rfl ag (by rw[iE,iE];simp) (λi j hi _=>by simp only[iC];rw[ss b lp (by rw[iE] at hi;exact hi)]) (λ_ _ _ _=>rfl)) bb
  ·rw[if_neg (show ¬fm cs z=29 from z29)] at hlv;refine a8 (aU hk' (aU h0 (aU @ip (aU e29 (aU e31 (aU hki (aU hkn (aU hgk (aU hz0 (aU hz1 (aU z29 wk))))))))))) ?_;refine⟨cs.length-(k+1),_,_,aa,gA.mk [1,0] [] ?_ ?_ ae lR,k+1,o,lp,rfl,aa,ho,hlv,aa,hlt,rfl,rfl⟩
   ·exact fK
   ·exact bb
 rw[if_neg (show ¬fm cs k=31 from e31)] at hlv;by_cases e30:(cs.getD k (0,0)).1=30
 ·rw[if_pos (show fm cs k=30 from e30)] at hlv;cases lp with
  |nil=>cases hlv
  |cons b lp=>
  dsimp only at hlv;have hbl:b<cs.length:=hlt b (aps ..);obtain⟨q,hq⟩:∃q:Nat,q=lp.length:=⟨_,rfl⟩;have hlen:(gY (b::lp)).length=q+1:=by rw[iE,hq];rfl
  have w1:IntKind.i64.wrap (((gY (b::lp)).length:Int)-1)=(q:Int):=by rw[hlen];exact(ff (by simp at hlp;omega)).trans aa
  have hp0:(0:Int)<=(q:Int):=aa;have hp1:(q:Int)<(gY (b::lp)).length:=aa;have hp2:q<(gY (b::lp)).length:=aa;have hgq:(fg 3 1 (gY (b::lp)).length 0 (iC (gY (b::lp)))).get q= aq (b:Int):=by rw[zE,hq,sr]
  have hb0:(0:Int)<=(b:Int):=aa;have hb1:(b:Int)<o.length:=aa;have hb2:b<o.length:=aa;have hgb:=zE (n:=o.length) o b;have hk1:k+1<=o.length:=hkn;refine a8 (aU hk' (aU h0 (aU @ip (aU e29 (aU e31 (aU e30 (aU hki (aU hkn (aU w1 (aU hp0 (aU hp1 (aU hp2 (aU hgq (aU hb0 (aU hb1 (aU hb2 (aU hgb (aU hk1 wk)))))))))))))))))) ?_;refine⟨cs.length-(k+1),_,_,aa,gA.mk [1,0] [] ?_ ?_ ae lR,k+1,o.set k (o.getD b 0),b::lp,rfl,aa,by rw[aph];exact ho,hlv,aa,hlt,rfl,rfl⟩
  ·rw[aph];simp only[iT,ig,go_sem,simprocAttr]
   repeat' refine fE ?_ ?_
   all_goals first|exact jQ|skip
  ·rw[aph];exact .cr .k1 (.cr (.put1 (row:=iC o) (row2:=iC (o.set k (o.getD b 0))) (o:=k) (q:=k) (t:=0) (v:= aq (o.getD b 0)) ah aa ag aa rfl aa (λi j hi hj=>by simp only[iC];rw[i5 hkn];by_cases hh:i=k<;>simp[hh];omega) (λ_ _ _ _=>rfl)) .nil)
 rw[if_neg (show ¬fm cs k=30 from e30)] at hlv;refine a8 (aU hk' (aU h0 (aU @ip (aU e29 (aU e31 (aU e30 wk)))))) ?_;refine⟨cs.length-(k+1),_,_,aa,gA.mk [1,0] [] ?_ ?_ ae lR,k+1,o,lp,rfl,aa,ho,hlv,aa,hlt,rfl,rfl⟩
 ·exact fK
 ·exact bb
def lx(l:List Int):List Int:=l.reverse
theorem o9(l:List Int):(lx l).length=l.length:=by simp[lx]
theorem oE(c:Int)(l:List Int):lx (c::l)=lx l++[c]:=by simp[lx]
theorem vH(c:Int)(l:List Int):(lx (c::l)).getD l.length 0=c:=by
 rw[oE];have:=jz (l:=lx l) (x:=c) (d:=0);rw[o9] at this;exact this
theorem sq(c:Int)(l:List Int){i:Nat}(h:i<l.length):(lx (c::l)).getD i 0=(lx l).getD i 0:=by
 rw[oE,jy (by rw[o9];exact h)]
theorem Ak{pt:List Int}{a c d:Nat}(ha:a<pt.length)(hc:c<pt.length)(hd:d<pt.length)(u v w:Int)(i:Nat):(if i=d then AV.n .i64 w else if i=c then AV.n .i64 v else if i=a then AV.n .i64 u else iC pt i 0)=iC (((pt.set a u).set c v).set d w) i 0:=by
 rw[mr ha hc u v i];simp only[iC];rw[i5 (l:=(pt.set a u).set c v) (by simp;exact hd)]
 by_cases h:i=d
 ·rw[if_pos h,if_pos h]
 ·rw[if_neg h,if_neg h]
def jf(cs:am):List Int×Int×Int:=if 1024<cs.length then([],0,6) else match lh cs with
 |.error x=>([],x,15)
 |.ok out=>((AW cs cs.length 0 out []).getD [],0,0)
def lI(s:RS):List AB:=[fg 3 1 (lx s.ot).length 0 (iC (lx s.ot)),fg 3 1 (gY s.op).length 0 (iC (gY s.op)),fg 3 1 s.out.length 0 (iC s.out)]
def MX(cs:am)(v:AV)(H:AH):Prop:=∃l,v=gD l/\qP [.o 3 1 (jf cs).1.length 0 (iC (jf cs).1),.v (aq (jf cs).2.1),.v (aq (jf cs).2.2)] l H
theorem km{cs:am}{x e:Int}(h:jf cs=([],x,e))(H:AH):MX cs (.tup [.sl0,aq x,aq e]) H:=by
 refine⟨[_,_,_],rfl,?_⟩;rw[h];exact⟨.inl ⟨rfl,rfl⟩,rfl,⟨rfl,rfl⟩,⟨rfl,rfl⟩,trivial⟩
theorem PC.no{P:Program}{kk:Nat->Bool}{g:FuncId}{args:List AV}{H:AH}{Q:AV->AH->Prop}{E:List PanicEntry->AH->Prop}(h:PC P kk g args H Q E):PC P (λ_=>false) g args H Q E:=
 ⟨h.1,λB σ w args' hH ha=>(h.2 B σ w args' hH ha).mono λen w' hp=>by
  cases en with
  |returned u=>obtain⟨v,H',σ',q,q1,q2,q3⟩:=hp;exact⟨v,H',σ',q,q1,q2,q3.no⟩
  |panicked c=>exact hp
  |outgrown=>exact hp.elim⟩
theorem js.put3{r:Nat->Option Nat}{M:List Nat}{H:AH}{b ty n z a c d:Nat}{row row2:Nat->Nat->AV}{u v w:AV}(hx:H.at b=some ((((fg ty 1 n z row).putN a [u]).putN c [v]).putN d [w]))(hn:n<999999)(ha:a<n)(hc:c<n)(hd:d<n)(hM:M.contains b=false)
  (h2:∀i,i<n->(if i=d then w else if i=c then v else if i=a then u else row i 0)=row2 i 0) (hp:∀i j,i<n->j<1->(row2 i j).pu 3=true):js r M H b (fg ty 1 n z row2):=by
 refine js.rows hx rfl rfl rfl (bL _) aq1 ag (λi j hi hj=>?_) hp
 obtain rfl:j=0:=aa;have key:∀(x:AB) (q:Nat) (y:AV),q<n->(x.putN q [y]).get (i*1+0)=if i=q then y else x.get (i*1+0):=λx q y hq=>by
  rw[jL arl]
  simp only[List.length_cons,List.length_nil,apu,Nat.add_zero,apz];by_cases e:i=q
  ·subst e;rw[if_pos aa,if_pos rfl,apt];rfl
  ·rw[if_neg aa,if_neg e]
 rw[<-h2 i hi,key _ d w hd,key _ c v hc,key _ a u ha];have:(fg ty 1 n z row).get (i*1+0)=row i 0:=by rw[apu];exact kL i
 rw[this]
theorem xv(cs:am)(hcs:cs.length<=100000):PC av (λ_=>false) 106 [.fs 2 cs.length (pI cs)] (fi []) (MX cs) (λ_ _=>False):=by
 refine gX acz ⟨ae,ag⟩ ?_;simp only[fy];by_cases h1024:1024<cs.length
 ·have hb:(1024:Int)<cs.length:=aa;refine bi hb ?_;exact km (by rw[jf,if_pos h1024]) _
 have hb:¬(1024:Int)<cs.length:=aa;have hms:0<=(cs.length:Int)/\(cs.length:Int)<=cs.length/\(cs.length:Int)<=16777216/\8*cs.length<=140737488355328/\cs.length<1099511627776:=⟨aa,aa,aa,aa,aa⟩;refine bi (aU hb hms) ?_;refine GE.wk (gA.nil 6 1 3 ah ag arM) ?_
 simp only[jP];refine GE.wk (gA.nil 7 1 3 ah ag arM) ?_
 simp only[jP];refine GE.loop (I:=λm e H=>∃(k:Nat) (s:RS),m=cs.length-k/\k<=cs.length/\Dc cs s k/\s.op.length<=8/\gW cs (cs.length-k) k s=gW cs cs.length 0 (yL cs)/\
  e=fu [(0,.fs 2 cs.length (pI cs)),(5,.os 0 s.out.length),(6,.os 1 (gY s.op).length),(7,.os 2 (lx s.ot).length),(8,aq k)]/\H=fi (lI s)) (gA.mk [2,1,0] [] ?_ ?_ (by simp[lI]) lR) ⟨0,yL cs,rfl,apf _,DW cs,by simp[yL],rfl,rfl,rfl⟩ ?_
 ·show iT _ _ _ _ [(0,.fs 2 cs.length (pI cs)),(5,.os 0 (List.replicate cs.length (0:Int)).length),(6,.os 1 0),(7,.os 2 0),(8,aq (0:Nat))];rw[apK];simp only[iT,ig,go_sem,simprocAttr]
  repeat' refine fE ?_ ?_
  all_goals first|exact jQ|skip
 ·show ig _ _ _ _ [fg 3 1 0 0 (iC []),fg 3 1 0 0 (iC []),fg 3 1 (List.replicate cs.length (0:Int)).length 0 (iC (List.replicate cs.length 0))];rw[apK];exact .cr (.rows (x:=_) aj af af af (apf _) ag ag (λi j h=>absurd h (apg _)) (λi j h=>absurd h (apg _))) (.cr (.rows (x:=_) aj af af af (apf _) ag ag (λi j h=>absurd h (apg _)) (λi j h=>absurd h (apg _))) (.cr (.same (row:=λ_ j=>[AV.n .i64 0][j]?.getD .u) ah rfl ag (λi j hi hj=>by cases apE.1 hj;simp only[iC,apd,aql,if_pos hi];rfl) (λ_ _ _ _=>rfl)) .nil))
 rintro m e H ⟨k,⟨out,op,ot⟩,rfl,hk,HI,h8,hrs,rfl,rfl⟩;have hol:out.length=cs.length:=HI.len;have hE:op.length=ot.length:=HI.eq;have h8':op.length<=8:=h8;have hpl:=iE op;have htl:=o9 ot;have h0:(0:Int)<=(k:Int):=aa;dsimp only[lI];by_cases hkl:k<cs.length;rotate_left
 ·have hk':¬(k:Int)<cs.length:=aa;obtain rfl:k=cs.length:=aa;rw[apt] at hrs;have hrs':gW cs cs.length 0 (yL cs)= .ok ⟨out,op,ot⟩:=hrs.symm;cases op with
  |nil=>
   have hsc:lh cs= .ok out:=by rw[lh,hrs'];rfl
   obtain⟨out',p1',p2,p3⟩:=tj cs.length 0 (yL cs) ⟨out,[],ot⟩ out hrs' aa (DW cs) (λ_ _ _=>rfl) hol;have p1:AW cs cs.length 0 out []=some out':=p1';have hz:¬(0:Int)<((gY []).length:Int):=by simp[gY]
   refine bi (aU hk' hz) ?_;refine qI (λ_=>false) [] [fg 3 1 (lx ot).length 0 (iC (lx ot)),fg 3 1 (gY []).length 0 (iC (gY []))] [fg 3 1 out.length 0 (iC out)] (Cs cs aa out out' hol p1) rfl trivial ?_ ?_ ?_ (λb hb=>by cases hb) ?_ ?_ ?_ ?_ ?_ ?_ ?_
   ·simp
   ·rfl
   ·exact arZ
   ·exact λb x hb _=>by cases hb
   ·simp[AV.nm]
   ·rfl
   ·exact ar0
   ·exact ar1
   ·rintro v H' ⟨rfl,rfl⟩;refine⟨_,rfl,rfl,?_⟩;simp only[List.cons_append,List.nil_append];refine a7 ?_;refine⟨[_,_,_],rfl,?_⟩;rw[show jf cs=(out',0,0) from by rw[jf,if_neg h1024,hsc];dsimp only;rw[p1];rfl]
    exact⟨.inr ⟨0,rfl,ae,_,ai,rfl,rfl,ag,rfl,bL _,bL _,λi j _ hj=>fI i j hj,λ_ _ _ _=>rfl⟩,rfl,⟨rfl,rfl⟩,⟨rfl,rfl⟩,trivial⟩
   ·exact ar2
  |cons b op=>
   have hz:(0:Int)<((gY (b::op)).length:Int):=by rw[iE,List.length_cons];omega
   refine bi (aU hk' hz) ?_;exact km (by rw[jf,if_neg h1024,lh,hrs'];rfl) _
 have hk':(k:Int)<cs.length:=aa;have hkn:k<out.length:=aa;have hki:(k:Int)<out.length:=aa;have hk1:k+1<=out.length:=hkn;have wk:=au k;rw[show cs.length-k=(cs.length-(k+1))+1 by omega,gW] at hrs
 have herr:gC cs k ⟨out,op,ot⟩=none->jf cs=([],(k:Int),15):=λh=>by
  rw[h] at hrs;have hrs':gW cs cs.length 0 (yL cs)= .error k:=hrs.symm;rw[jf,if_neg h1024,lh,hrs']
 by_cases c1:fm cs k=27\/fm cs k=29
 ·have hmain:∀v:Int,(v=27\/v=29)->(cs.getD k (0,0)).1=v->True:=λ_ _ _=>trivial;by_cases hL:op.length=8
  ·have hL':((gY op).length:Int)=8:=aa;rcases c1 with e|e
   all_goals
    have e':(cs.getD k (0,0)).1=_:=e;refine a8 (aU h0 (aU hk' (aU hki (aU hk1 (aU @ip (aU e' hL')))))) ?_;exact km (herr (by rw[gC,if_pos (by first|exact .inl e|exact .inr e)];exact if_pos hL)) _
  ·have hL':¬((gY op).length:Int)=8:=aa;have hst:gC cs k ⟨out,op,ot⟩=some ⟨out.set k (-1),k::op,-1::ot⟩:=by rw[gC,if_pos c1];exact if_neg hL
   have hinv:=(ky hst hkl HI).1;rw[hst] at hrs;have hla:((gY op).length+1<1099511627776/\((gY op).length+1)*8<=140737488355328)/\(gY op).length<=9223372036854775806:=⟨⟨aa,aa⟩,aa⟩;have hlb:((lx ot).length+1<1099511627776/\((lx ot).length+1)*8<=140737488355328)/\(lx ot).length<=9223372036854775806:=⟨⟨aa,aa⟩,aa⟩;have hs1:(gY (k::op)).length=(gY op).length+1:=by rw[m8,ape];rfl
   have hs2:(lx (-1::ot)).length=(lx ot).length+1:=by rw[oE,ape];rfl
   rcases c1 with e|e
   all_goals
    have e':(cs.getD k (0,0)).1=_:=e;refine a8 (aU h0 (aU hk' (aU hki (aU hk1 (aU @ip (aU e' (aU hL' (aU hla (aU hlb wk))))))))) ?_;refine⟨cs.length-(k+1),_,_,aa,gA.mk [6,4,0] [] ?_ ?_ (by simp[lI]) lR,k+1,⟨out.set k (-1),k::op,-1::ot⟩,rfl,aa,hinv,by simp only[List.length_cons];omega,hrs,rfl,rfl⟩
    ·dsimp only;rw[aph,hs1,hs2];simp only[iT,ig,go_sem,simprocAttr]
     repeat' refine fE ?_ ?_
     all_goals first|exact jQ|skip
    ·dsimp only[lI];rw[aph,hs1,hs2];exact .cr (.snoc (row:=iC (lx ot)) (n:=(lx ot).length) (o:=(lx ot).length) (l:=[aq (-1)]) ah aa rfl rfl ag aa (λi j hi _=>by simp only[iC];rw[oE,jy hi]) (λj hj=>by cases apE.1 hj;simp only[iC];rw[oE,jz];rfl) (λ_ _ _ _=>rfl)) (.cr (.snoc (row:=iC (gY op)) (n:=(gY op).length) (o:=(gY op).length) (l:=[aq (k:Int)]) ah aa rfl rfl ag aa (λi j hi _=>by simp only[iC];rw[m8,jy hi]) (λj hj=>by cases apE.1 hj;simp only[iC];rw[m8,jz];rfl) (λ_ _ _ _=>rfl)) (.cr (.put1 (row:=iC out) (row2:=iC (out.set k (-1))) (o:=k) (q:=k) (t:=0) (v:= aq (-1)) ah aa ag aa rfl aa (λi j hi hj=>by cases apE.1 hj;simp only[iC];rw[i5 hkn];by_cases hh:i=k<;>simp[hh]) (λ_ _ _ _=>rfl)) .nil))
 have c27:¬(cs.getD k (0,0)).1=27:=λh=>c1 (.inl h);have c29:¬(cs.getD k (0,0)).1=29:=λh=>c1 (.inr h);by_cases c28:fm cs k=28
 ·have e':(cs.getD k (0,0)).1=28:=c28;cases op with
  |nil=>
   have hz:((gY []).length:Int)=0:=by simp[gY]
   refine a8 (aU h0 (aU hk' (aU hki (aU hk1 (aU @ip (aU e' hz)))))) ?_;exact km (herr (by rw[gC,if_neg c1,if_pos c28])) _
  |cons b op=>
  cases ot with
  |nil=>cases hE
  |cons c ot=>
  have hE':op.length=ot.length:=by simpa using hE
  obtain⟨q,hq⟩:∃q:Nat,q=op.length:=⟨_,rfl⟩;rw[List.length_cons] at hpl htl h8';have hz:¬((gY (b::op)).length:Int)=0:=aa;have w1:IntKind.i64.wrap (((gY (b::op)).length:Int)-1)=(q:Int):=(ff aa).trans aa;have q0:(0:Int)<=(q:Int):=aa;have q1:(q:Int)<(gY (b::op)).length:=aa;have q2:q<(gY (b::op)).length:=aa;have q3:(q:Int)<(lx (c::ot)).length:=aa;have q4:q<(lx (c::ot)).length:=aa;have q5:q+1<=(lx (c::ot)).length:=q4;have hgq:(fg 3 1 (gY (b::op)).length 0 (iC (gY (b::op)))).get q= aq (b:Int):=by rw[zE,hq,sr]
  have hgc:(fg 3 1 (lx (c::ot)).length 0 (iC (lx (c::ot)))).get q= aq c:=by rw[zE,hq,hE',vH]
  have hb:=HI.op b (aps ..);have hbk:b<k:=hb.1;have b0:(0:Int)<=(b:Int):=aa;have b1:(b:Int)<cs.length:=aa;have b2:(b:Int)<out.length:=aa;have b3:b+1<=out.length:=aa;by_cases hb27:(cs.getD b (0,0)).1=27
  ·by_cases hc0:0<=c
   ·refine bj (aU h0 (aU hk' (aU hki (aU hk1 (aU @ip (aU e' (aU hz (aU w1 (aU q0 (aU q1 (aU q2 (aU q3 (aU q4 (aU hgq (aU hgc (aU b0 (aU b1 (aU hb27 hc0)))))))))))))))))) ?_;exact km (herr (by rw[gC,if_neg c1,if_pos c28];exact if_pos (.inr hc0))) _
   ·have hst:gC cs k ⟨out,b::op,c::ot⟩=some ⟨(out.set k (-1)).set b k,b::op,(k:Int)::ot⟩:=by
     rw[gC,if_neg c1,if_pos c28];exact if_neg (λh=>h.elim (λh=>h hb27) hc0)
    have hinv:=(ky hst hkl HI).1;rw[hst] at hrs;refine bj (aU h0 (aU hk' (aU hki (aU hk1 (aU @ip (aU e' (aU hz (aU w1 (aU q0 (aU q1 (aU q2 (aU q3 (aU q4 (aU q5 (aU hgq (aU hgc (aU b0 (aU b1 (aU b2 (aU b3 (aU hb27 (aU hc0 wk)))))))))))))))))))))) ?_;have hs2:(lx ((k:Int)::ot)).length=(lx (c::ot)).length:=by rw[o9,o9];rfl
    refine⟨cs.length-(k+1),_,_,aa,gA.mk [2,1,0] [] ?_ ?_ (by simp[lI]) lR,k+1,⟨(out.set k (-1)).set b k,b::op,(k:Int)::ot⟩,rfl,aa,hinv,h8,hrs,rfl,rfl⟩
    ·dsimp only;rw[aph,aph,hs2];simp only[iT,ig,go_sem,simprocAttr]
     repeat' refine fE ?_ ?_
     all_goals first|exact jQ|skip
    ·dsimp only[lI];rw[aph,aph,hs2];exact .cr (.put1 (row:=iC (lx (c::ot))) (row2:=iC (lx ((k:Int)::ot))) (o:=q) (q:=q) (t:=0) (v:= aq (k:Int)) ah aa ag aa rfl aa (λi j hi hj=>by
      cases apE.1 hj;simp only[iC,and_true];by_cases hh:i=q
      ·rw[if_pos hh,hh,hq,hE',vH]
      ·rw[if_neg hh,sq c ot aa,sq (k:Int) ot aa]) (λ_ _ _ _=>rfl)) (.cr .k1 (.cr (.put2 (row:=iC out) (row2:=iC ((out.set k (-1)).set b k)) (a:=k) (c:=b) (v:= aq (-1)) (w:= aq (k:Int)) ah aa aa rfl aa (λi hi=>mr aa aa _ _ i) (λ_ _ _ _=>rfl)) .nil))
  ·refine bj (aU h0 (aU hk' (aU hki (aU hk1 (aU @ip (aU e' (aU hz (aU w1 (aU q0 (aU q1 (aU q2 (aU q3 (aU q4 (aU hgq (aU hgc (aU b0 (aU b1 hb27))))))))))))))))) ?_;exact km (herr (by rw[gC,if_neg c1,if_pos c28];exact if_pos (.inl hb27))) _
 have d28:¬(cs.getD k (0,0)).1=28:=c28;by_cases c30:fm cs k=30
 ·have e':(cs.getD k (0,0)).1=30:=c30;obtain⟨outK,hK⟩:∃l,l=out.set k (-1):=⟨_,rfl⟩;have hKl:outK.length=out.length:=by rw[hK,aph]
  refine a8 (aU h0 (aU hk' (aU hki (aU hk1 (aU @ip e'))))) ?_;cases op with
  |nil=>
   refine jN (ob:=λ_=>none) (λ_=>false) [2,0,1] [] [(8,aq k)] [.fs 2 cs.length (pI cs),.os 0 (gY []).length] [fg 3 1 (lx ot).length 0 (iC (lx ot)),fg 3 1 (outK).length 0 (iC (outK))] [fg 3 1 (gY []).length 0 (iC (gY []))] (qB cs [] ae (λb hb=>by cases hb)).no.o ?_ ?_ ?_ ?_ ?_ ?_ ?_ ?_ ?_ ?_ ?_ ?_ ?_ ?_
   ·(try rw[hKl])
    simp only[iT,ig,go_sem,simprocAttr]
    repeat' refine fE ?_ ?_
    all_goals first|exact jQ|skip
   ·exact ew
   ·exact⟨Wv.same rfl,Wv.os rfl,trivial⟩
   ·exact arA
   ·simp
   ·rfl
   ·exact arZ
   ·exact λb x hb _=>by cases hb
   ·simp[AV.nm]
   ·rfl
   ·exact ar0
   ·exact ar1
   ·rintro v H' ⟨rfl,rfl⟩;refine⟨λ_=>none,λ_=>none,[fg 3 1 (gY []).length 0 (iC (gY []))],[],[],[],_,[(8,aq k)],(fv _).symm,rfl,?_,?_,Wv.same rfl,ae,(λr x hx=>by cases hx),(λb hb=>by cases hb),?_⟩
    ·exact fK
    ·simp only[List.cons_append,List.nil_append,fv];exact trivial
    rw[fv];have hneg:kq cs []<0:=(nR cs []).2 rfl;refine a8 hneg ?_;exact km (herr (by rw[gC,if_neg c1,if_neg c28,if_pos c30];exact if_neg (by simp[nk]))) _
   ·exact ar2
  |cons b op=>
   have hlt:∀x ∈ b::op,x<cs.length:=λx hx=>by have:=(HI.op x hx).1;omega
   refine jN (ob:=λ_=>none) fV [2,0,1] [] [(0,.fs 2 cs.length (pI cs)),(5,.os 1 outK.length),(6,.os 0 (gY (b::op)).length),(7,.os 2 (lx ot).length),(8,aq k)] [.fs 2 cs.length (pI cs),.os 0 (gY (b::op)).length] [fg 3 1 (lx ot).length 0 (iC (lx ot)),fg 3 1 (outK).length 0 (iC (outK))] [fg 3 1 (gY (b::op)).length 0 (iC (gY (b::op)))] (qB cs (b::op) h8' hlt).o ?_ ?_ ?_ ?_ ?_ ?_ ?_ ?_ ?_ ?_ ?_ ?_ ?_ ?_
   ·(try rw[hKl])
    simp only[iT,ig,go_sem,simprocAttr]
    repeat' refine fE ?_ ?_
    all_goals first|exact jQ|skip
   ·exact ew
   ·exact⟨Wv.same rfl,Wv.os rfl,trivial⟩
   ·exact arA
   ·simp
   ·rfl
   ·exact dY
   ·rw[fv];exact kP ae (by show some (decide (0<(gY (b::op)).length*1))=some true;rw[decide_eq_true (by rw[iE,List.length_cons];omega)])
   ·simp[AV.nm]
   ·simp[AV.nm,fV]
   ·exact ar0
   ·exact ar1
   ·rintro v H' ⟨rfl,rfl⟩;refine⟨λ_=>none,λ_=>none,[fg 3 1 (gY (b::op)).length 0 (iC (gY (b::op)))],[fg 3 1 (lx ot).length 0 (iC (lx ot)),fg 3 1 (gY (b::op)).length 0 (iC (gY (b::op))),fg 3 1 (outK).length 0 (iC (outK))],[2,0,1],[],_,[(0,.fs 2 cs.length (pI cs)),(5,.os 0 outK.length),(6,.os 1 (gY (b::op)).length),(7,.os 2 (lx ot).length),(8,aq k)],(fv _).symm,rfl,?_,?_,Wv.same rfl,ae,(λr x hx=>by cases hx),(λb hb=>by cases hb),?_⟩
    ·exact fK
    ·exact d9
    rw[fv];by_cases hin:nk cs (b::op)=true
    ·have hneg:¬kq cs (b::op)<0:=λh=>by rw[(nR cs _).1 h] at hin;cases hin
     have hst:gC cs k ⟨out,b::op,ot⟩=some ⟨outK,b::op,ot⟩:=by rw[gC,if_neg c1,if_neg c28,if_pos c30,hK];exact if_pos hin
     have hinv:=(ky hst hkl HI).1;rw[hst] at hrs;refine a8 (aU hneg wk) ?_;refine⟨cs.length-(k+1),_,_,aa,gA.mk [2,1,0] [] ?_ ?_ (by simp[lI]) lR,k+1,⟨outK,b::op,ot⟩,rfl,aa,hinv,h8,hrs,rfl,rfl⟩
     ·dsimp only;simp only[iT,ig,go_sem,simprocAttr]
      repeat' refine fE ?_ ?_
      all_goals first|exact jQ|skip
     ·dsimp only[lI];exact bb
    ·have hneg:kq cs (b::op)<0:=(nR cs _).2 (by simpa using hin)
     refine a8 hneg ?_;exact km (herr (by rw[gC,if_neg c1,if_neg c28,if_pos c30];exact if_neg hin)) _
   ·exact ar2
 have d30:¬(cs.getD k (0,0)).1=30:=c30;by_cases c31:fm cs k=31
 ·have e':(cs.getD k (0,0)).1=31:=c31;cases op with
  |nil=>
   have hz:((gY []).length:Int)=0:=by simp[gY]
   refine a8 (aU h0 (aU hk' (aU hki (aU hk1 (aU @ip (aU e' hz)))))) ?_;exact km (herr (by rw[gC,if_neg c1,if_neg c28,if_neg c30,if_pos c31])) _
  |cons b op=>
  cases ot with
  |nil=>cases hE
  |cons c ot=>
  have hE':op.length=ot.length:=by simpa using hE
  have hpl2:=iE op;have htl2:=o9 ot;rw[List.length_cons] at hpl htl h8';have hz:¬((gY (b::op)).length:Int)=0:=aa;have w1:IntKind.i64.wrap (((gY (b::op)).length:Int)-1)=((gY op).length:Int):=(ff aa).trans aa;have hql:(lx ot).length=(gY op).length:=aa;have q0:(0:Int)<=((gY op).length:Int):=aa;have q1:((gY op).length:Int)<(gY (b::op)).length:=aa;have q2:(gY op).length<(gY (b::op)).length:=aa;have q3:((gY op).length:Int)<(lx (c::ot)).length:=aa;have q4:(gY op).length<(lx (c::ot)).length:=aa;have q6:((gY op).length:Int)<=(gY (b::op)).length:=aa;have q7:((gY op).length:Int)<=(lx (c::ot)).length:=aa;have hgq:(fg 3 1 (gY (b::op)).length 0 (iC (gY (b::op)))).get (gY op).length= aq (b:Int):=by rw[zE,iE op,sr]
  have hgc:(fg 3 1 (lx (c::ot)).length 0 (iC (lx (c::ot)))).get (gY op).length= aq c:=by rw[zE,iE op,hE',vH]
  have hb:=HI.op b (aps ..);have hbk:b<k:=hb.1;have b0:(0:Int)<=(b:Int):=aa;have b2:(b:Int)<out.length:=aa;have b3:b+1<=out.length:=aa;have hci:=HI.ot c (aps ..);have hst:gC cs k ⟨out,b::op,c::ot⟩=some ⟨if 0<=c then((out.set k (-1)).set k b).set c.toNat k else((out.set k (-1)).set k b).set b k,op,ot⟩:=by
   rw[gC,if_neg c1,if_neg c28,if_neg c30,if_pos c31]
  have hinv:=(ky hst hkl HI).1;rw[hst] at hrs;by_cases hc0:0<=c
  ·obtain⟨z,rfl⟩:∃z:Nat,c=(z:Int):=⟨c.toNat,aa⟩;have hzk:z<k:=by rcases hci with h|h<;>omega
   have z0:(z:Int)<out.length:=aa;have z1:z+1<=out.length:=aa;rw[if_pos hc0,apw] at hrs hinv;refine bh (aU h0 (aU hk' (aU hki (aU hk1 (aU @ip (aU e' (aU hz (aU w1 (aU q0 (aU q1 (aU q2 (aU q3 (aU q4 (aU q6 (aU q7 (aU hgq (aU hgc (aU b0 (aU b2 (aU b3 (aU hc0 (aU z0 (aU z1 wk))))))))))))))))))))))) ?_;refine⟨cs.length-(k+1),_,_,aa,gA.mk [2,1,0] [] ?_ ?_ (by simp[lI]) lR,k+1,⟨((out.set k (-1)).set k b).set z k,op,ot⟩,rfl,aa,hinv,by dsimp only;omega,hrs,rfl,rfl⟩
   ·dsimp only;rw[aph,aph,aph,hql];simp only[iT,ig,go_sem,simprocAttr]
    repeat' refine fE ?_ ?_
    all_goals first|exact jQ|skip
   ·dsimp only[lI];rw[aph,aph,aph];exact .cr (.pop (row:=iC (lx ((z:Int)::ot))) (n:=(lx ((z:Int)::ot)).length) ah rfl ag aa (λi j hi _=>by simp only[iC];rw[sq (z:Int) ot aa]) (λ_ _ _ _=>rfl)) (.cr (.pop (row:=iC (gY (b::op))) (n:=(gY (b::op)).length) ah rfl ag aa (λi j hi _=>by simp only[iC];rw[ss b op aa]) (λ_ _ _ _=>rfl)) (.cr (.put3 (row:=iC out) (row2:=iC (((out.set k (-1)).set k b).set z k)) (a:=k) (c:=k) (d:=z) (u:= aq (-1)) (v:= aq (b:Int)) (w:= aq (k:Int)) ah aa aa aa aa rfl (λi hi=>Ak aa aa aa _ _ _ i) (λ_ _ _ _=>rfl)) .nil))
  ·rw[if_neg hc0] at hrs hinv;refine bh (aU h0 (aU hk' (aU hki (aU hk1 (aU @ip (aU e' (aU hz (aU w1 (aU q0 (aU q1 (aU q2 (aU q3 (aU q4 (aU q6 (aU q7 (aU hgq (aU hgc (aU b0 (aU b2 (aU b3 (aU hc0 wk))))))))))))))))))))) ?_;refine⟨cs.length-(k+1),_,_,aa,gA.mk [2,1,0] [] ?_ ?_ (by simp[lI]) lR,k+1,⟨((out.set k (-1)).set k b).set b k,op,ot⟩,rfl,aa,hinv,by dsimp only;omega,hrs,rfl,rfl⟩
   ·dsimp only;rw[aph,aph,aph,hql];simp only[iT,ig,go_sem,simprocAttr]
    repeat' refine fE ?_ ?_
    all_goals first|exact jQ|skip
   ·dsimp only[lI];rw[aph,aph,aph];exact .cr (.pop (row:=iC (lx (c::ot))) (n:=(lx (c::ot)).length) ah rfl ag aa (λi j hi _=>by simp only[iC];rw[sq c ot aa]) (λ_ _ _ _=>rfl)) (.cr (.pop (row:=iC (gY (b::op))) (n:=(gY (b::op)).length) ah rfl ag aa (λi j hi _=>by simp only[iC];rw[ss b op aa]) (λ_ _ _ _=>rfl)) (.cr (.put3 (row:=iC out) (row2:=iC (((out.set k (-1)).set k b).set b k)) (a:=k) (c:=k) (d:=b) (u:= aq (-1)) (v:= aq (b:Int)) (w:= aq (k:Int)) ah aa aa aa aa rfl (λi hi=>Ak aa aa aa _ _ _ i) (λ_ _ _ _=>rfl)) .nil))
 have d31:¬(cs.getD k (0,0)).1=31:=c31;have hst:gC cs k ⟨out,op,ot⟩=some ⟨out.set k (-1),op,ot⟩:=by rw[gC,if_neg c1,if_neg c28,if_neg c30,if_neg c31]
 have hinv:=(ky hst hkl HI).1;rw[hst] at hrs;refine a8 (aU h0 (aU hk' (aU hki (aU hk1 (aU @ip (aU c27 (aU c29 (aU d28 (aU d30 (aU d31 wk)))))))))) ?_;refine⟨cs.length-(k+1),_,_,aa,gA.mk [2,1,0] [] ?_ ?_ (by simp[lI]) lR,k+1,⟨out.set k (-1),op,ot⟩,rfl,aa,hinv,h8,hrs,rfl,rfl⟩
 ·dsimp only;rw[aph];simp only[iT,ig,go_sem,simprocAttr]
  repeat' refine fE ?_ ?_
  all_goals first|exact jQ|skip
 ·dsimp only[lI];rw[aph];exact .cr .k1 (.cr .k1 (.cr (.put1 (row:=iC out) (row2:=iC (out.set k (-1))) (o:=k) (q:=k) (t:=0) (v:= aq (-1)) ah aa ag aa rfl aa (λi j hi hj=>by cases apE.1 hj;simp only[iC];rw[i5 hkn];by_cases hh:i=k<;>simp[hh]) (λ_ _ _ _=>rfl)) .nil))
theorem qp(cs:am)(hcs:cs.length<=100000):gw av 106 [.fs 2 cs.length (pI cs)] [.o 3 1 (jf cs).1.length 0 (iC (jf cs).1),.v (aq (jf cs).2.1),.v (aq (jf cs).2.2)]:=lA (xv cs hcs)
def Fo.size:Fo->Nat
 |.nil=>0
 |.pl _ _ r=>r.size+1
 |.br _ _ _ u v r=>u.size+v.size+r.size+1
theorem Fo.app_assoc:∀(f g h:Fo),(f.app g).app h=f.app (g.app h)
 |.nil,_,_=>rfl
 |.pl a b r,g,h=>by simp only[Fo.app,Fo.app_assoc r]
 |.br op a b u v r,g,h=>by simp only[Fo.app,Fo.app_assoc r]
theorem Fo.size_app:∀(f g:Fo),(f.app g).size=f.size+g.size
 |.nil,g=>by simp[Fo.app,Fo.size]
 |.pl a b r,g=>by simp only[Fo.app,Fo.size,Fo.size_app r];omega
 |.br op a b u v r,g=>by simp only[Fo.app,Fo.size,Fo.size_app r];omega
theorem Fo.app_nil:∀f:Fo,f.app .nil=f
 |.nil=>rfl
 |.pl a b r=>by simp only[Fo.app,Fo.app_nil r]
 |.br op a b u v r=>by simp only[Fo.app,Fo.app_nil r]
def Gl(cs:am)(out:List Int)(o:Fo):Prop:=∀a b,fM cs out o a b->b<=cs.length->gw av 107 [.fs 2 cs.length (pI cs),.fs 1 out.length (iC out),aq a,aq b] [.o 140 5 o.len 0 o.cell]
theorem BD(cs:am)(hcs:cs.length<=1024)(out:List Int)(hol:out.length=cs.length)(o:Fo)(ih:∀u:Fo,u.size<o.size->Gl cs out u)(hsz:o.len<=1024):Gl cs out o:=by
 intro a b hg hb;have hab:=hg.le;refine fe fx acm ⟨ae,ag⟩ ?_;simp only[fy];refine dp ?_;refine GA.wk (Wk.nil 9 5 140 ah ag ah) ?_;simp only[jP];refine GA.loop (I:=λm e H=>∃(dn rest:Fo) (i:Nat),m=rest.size/\o=dn.app rest/\fM cs out rest i b/\e=fu [(0,.fs 2 cs.length (pI cs)),(1,.fs 1 out.length (iC out)),(3,aq b),(9,.os 0 dn.len),(10,aq i)]/\H=fi [fg 140 5 dn.len 0 dn.cell]) (Wk.mk [0] [] ?_ ?_ ?_) ⟨.nil,o,a,rfl,rfl,hg,rfl,rfl⟩ ?_
 ·exact fK
 ·exact arY
 ·simp
 rintro m e H ⟨dn,rest,i,rfl,ho,hgr,rfl,rfl⟩;have hib:=hgr.le;have h0:(0:Int)<=(i:Int):=aa;have hdl:dn.len+rest.len=o.len:=by rw[ho,Fo.len_app]
 have hap:((dn.len+1)*5<1099511627776/\(dn.len+1)*72<=140737488355328)/\dn.len<=9223372036854775806:=⟨⟨aa,aa⟩,aa⟩;cases rest with
 |nil=>
  obtain rfl:i=b:=hgr;have hlt:¬(i:Int)<i:=aa;rw[Fo.app_nil] at ho;subst ho;refine dq hlt ?_;exact⟨[_],rfl,.inr ⟨0,rfl,ae,_,ai,rfl,rfl,ag,rfl,bL _,bL _,λi j _ hj=>fI i j hj,λi j hi _=>Fo.cell_ok _ i j hi⟩,rfl,trivial⟩
 |pl x y r=>
  obtain⟨rfl,hxy,hpn,hpl,hr⟩:=hgr;have hyb:=hr.le;have h1:(x:Int)<b:=aa;have h2:(x:Int)<cs.length:=aa;obtain⟨e27,e29,_,_⟩:=hpn x (bL _) hxy;have e27':¬(cs.getD x (0,0)).1=27:=e27;have e29':¬(cs.getD x (0,0)).1=29:=e29;refine dx (aU h0 (aU h1 (aU h2 (aU @ip (aU e27' e29'))))) ?_;refine GA.loop (I:=λm e H=>∃k:Nat,m=y-k/\x<=k/\k<=y/\e=fu [(0,.fs 2 cs.length (pI cs)),(1,.fs 1 out.length (iC out)),(3,aq b),(9,.os 0 dn.len),(10,aq x),(11,aq k)]/\H=fi [fg 140 5 dn.len 0 dn.cell]) (Wk.mk [0] [] ?_ ?_ ?_) ⟨x,rfl,bL _,aa,rfl,rfl⟩ ?_
  ·exact fK
  ·exact .cr (.k2 (λi j hi _=>dn.cell_pu i j hi)) .nil
  ·simp
  rintro m e H ⟨k,rfl,hxk,hky,rfl,rfl⟩;have k0:(0:Int)<=(k:Int):=aa;by_cases hk:k<y
  ·have k1:(k:Int)<b:=aa;have k2:(k:Int)<cs.length:=aa;obtain⟨f27,f29,_,_⟩:=hpn k hxk hk;have f27':¬(cs.getD k (0,0)).1=27:=f27;have f29':¬(cs.getD k (0,0)).1=29:=f29;have wk:=au k;refine dx (aU k0 (aU k1 (aU k2 (aU @ip (aU f27' (aU f29' wk)))))) ?_;refine⟨_,_,_,?_,Wk.mk [0] [] ?_ ?_ ?_,k+1,rfl,aa,aa,rfl,rfl⟩
   ·omega
   ·exact fK
   ·exact .cr (.k2 (λi j hi _=>dn.cell_pu i j hi)) .nil
   ·simp
  ·obtain rfl:k=y:=aa;have hla:(dn.app (.pl x k .nil)).len=dn.len+1:=Fo.len_app _ _;have hfin:o=(dn.app (.pl x k .nil)).app r:=by rw[ho,Fo.app_assoc];rfl
   cases r with
   |pl x2 y2 r2=>cases hpl
   |nil=>
    obtain rfl:k=b:=hr;have k1:¬(k:Int)<k:=aa;refine dq (aU k0 (aU k1 (aU hap @ip))) ?_;refine⟨_,_,_,?_,Wk.mk [2] [] ?_ ?_ ?_,dn.app (.pl x k .nil),.nil,k,rfl,hfin,rfl,rfl,rfl⟩
    ·simp[Fo.size]
    ·rw[hla];simp only[iT,ig,go_sem,simprocAttr]
     repeat' refine fE ?_ ?_
     all_goals first|exact jQ|skip
    ·exact ar4
    ·simp
   |br op2 x2 y2 u2 v2 r2=>
    obtain⟨hx2,hop2,hv2,hrest⟩:=hr;have hr:fM cs out (.br op2 x2 y2 u2 v2 r2) k b:=⟨hx2,hop2,hv2,hrest⟩;obtain⟨⟨m2,_,hm2,hm3,_⟩,_⟩:=hrest;have k1:(k:Int)<b:=aa;have k2:(k:Int)<cs.length:=aa;rcases hv2 with hv2|hv2
    all_goals
     have e':(cs.getD k (0,0)).1=_:=hop2.trans hv2;refine dx (aU k0 (aU k1 (aU k2 (aU hap (aU @ip e'))))) ?_;refine⟨_,_,_,?_,Wk.mk [2] [] ?_ ?_ ?_,dn.app (.pl x k .nil),.br op2 x2 y2 u2 v2 r2,k,rfl,hfin,hr,rfl,rfl⟩
     ·exact ar5
     ·rw[hla];simp only[iT,ig,go_sem,simprocAttr]
      repeat' refine fE ?_ ?_
      all_goals first|exact jQ|skip
     ·exact ar4
     ·simp
 |br op x y u v r=>
  obtain⟨rfl,hop,hopv,⟨m,g1,g2,g3,g4,g5⟩,hr⟩:=hgr;have hsu:u.size<o.size:=by rw[ho,Fo.size_app];simp only[Fo.size];omega
  have hsv:v.size<o.size:=by rw[ho,Fo.size_app];simp only[Fo.size];omega
  have h1:(x:Int)<b:=aa;have h2:(x:Int)<cs.length:=aa;have h3:(x:Int)<out.length:=aa;have m0:(0:Int)<=(m:Int):=aa;have m1:(m:Int)<cs.length:=aa;have m2:(m:Int)<out.length:=aa;have w0:=au x;have wm:=au m;rcases hopv with rfl|rfl
  ·have e':(cs.getD x (0,0)).1=27:=hop;refine dx (aU h0 (aU h1 (aU h2 (aU h3 (aU @ip (aU @zG (aU g1 (aU e' w0)))))))) ?_;refine gf (F:=[.fs 2 cs.length (pI cs),.fs 1 out.length (iC out),aq ((x+1:Nat):Int),aq m]) (ih u hsu (x+1) m g4 aa) ?_;rcases g5 with⟨q0,ee,q1,q2,q3,q4,rfl⟩|⟨q0,rfl,rfl⟩
   ·have m28:(cs.getD m (0,0)).1=28:=q0;have we:=au ee;refine dq (aU m0 (aU m1 (aU m2 (aU @ip (aU @zG (aU q1 (aU m28 wm))))))) ?_;refine gf (F:=[.fs 2 cs.length (pI cs),.fs 1 out.length (iC out),aq ((m+1:Nat):Int),aq ee]) (ih v hsv (m+1) ee q4 aa) ?_;refine du (aU m0 (aU m1 (aU m2 (aU @ip (aU @zG (aU q1 (aU we hap))))))) ?_;have hla:(dn.app (.br 27 x (ee+1) u v .nil)).len=dn.len+1:=Fo.len_app _ _;have hfin:o=(dn.app (.br 27 x (ee+1) u v .nil)).app r:=by rw[ho,Fo.app_assoc];rfl
    refine⟨_,_,_,?_,Wk.mk [5] [2,3] ?_ ?_ ?_,dn.app (.br 27 x (ee+1) u v .nil),r,(ee+1),rfl,hfin,hr,rfl,rfl⟩
    ·exact ar5
    ·rw[hla];simp only[iT,ig,go_sem,simprocAttr]
     repeat' refine fE ?_ ?_
     all_goals first|exact jQ|skip
    ·rw[hla];exact .cr (.snocw (row:=dn.cell) (n:=dn.len) (l:=[aq 27,aq x,aq (((ee+1):Nat):Int),.os 2 u.len,.os 3 v.len]) ah rfl rfl rfl ag aa (λi j hi _=>by rw[Fo.cell_app,if_pos hi]) (λi j hi _=>dn.cell_pu i j hi) (λj hj=>by
      rw[Fo.cell_app,if_neg (apJ _),apt];rcases(show j=0\/j=1\/j=2\/j=3\/j=4 by omega) with rfl|rfl|rfl|rfl|rfl
      ·exact ar6
      ·exact ar6
      ·exact ar6
      ·exact ar7
      ·exact .cv (.ownb (ty:=140) (z:=0) ah (λi j hi _=>v.cell_ok i j hi) ae))) .nil
    ·simp
   ·have m28:¬(cs.getD m (0,0)).1=28:=q0;refine dq (aU m0 (aU m1 (aU m2 (aU @ip (aU @zG (aU m28 (aU wm hap))))))) ?_;have hla:(dn.app (.br 27 x (m+1) u .nil .nil)).len=dn.len+1:=Fo.len_app _ _;have hfin:o=(dn.app (.br 27 x (m+1) u .nil .nil)).app r:=by rw[ho,Fo.app_assoc];rfl
    refine⟨_,_,_,?_,Wk.mk [4] [2] ?_ ?_ ?_,dn.app (.br 27 x (m+1) u .nil .nil),r,(m+1),rfl,hfin,hr,rfl,rfl⟩
    ·exact ar5
    ·rw[hla];simp only[iT,ig,go_sem,simprocAttr]
     repeat' refine fE ?_ ?_
     all_goals first|exact jQ|skip
    ·rw[hla];exact .cr (.snocw (row:=dn.cell) (n:=dn.len) (l:=[aq 27,aq x,aq (((m+1):Nat):Int),.os 2 u.len,.sl0]) ah rfl rfl rfl ag aa (λi j hi _=>by rw[Fo.cell_app,if_pos hi]) (λi j hi _=>dn.cell_pu i j hi) (λj hj=>by
      rw[Fo.cell_app,if_neg (apJ _),apt];rcases(show j=0\/j=1\/j=2\/j=3\/j=4 by omega) with rfl|rfl|rfl|rfl|rfl
      ·exact ar6
      ·exact ar6
      ·exact ar6
      ·exact ar7
      ·exact .cv (.sl0 _ _))) .nil
    ·simp
  ·have e':(cs.getD x (0,0)).1=29:=hop;refine dx (aU h0 (aU h1 (aU h2 (aU h3 (aU @ip (aU @zG (aU g1 (aU e' w0)))))))) ?_;refine gf (F:=[.fs 2 cs.length (pI cs),.fs 1 out.length (iC out),aq ((x+1:Nat):Int),aq m]) (ih u hsu (x+1) m g4 aa) ?_;rcases g5 with⟨q0,ee,q1,q2,q3,q4,rfl⟩|⟨q0,rfl,rfl⟩
   ·have m28:(cs.getD m (0,0)).1=28:=q0;have we:=au ee;refine dq (aU m0 (aU m1 (aU m2 (aU @ip (aU @zG (aU q1 (aU m28 wm))))))) ?_;refine gf (F:=[.fs 2 cs.length (pI cs),.fs 1 out.length (iC out),aq ((m+1:Nat):Int),aq ee]) (ih v hsv (m+1) ee q4 aa) ?_;refine du (aU m0 (aU m1 (aU m2 (aU @ip (aU @zG (aU q1 (aU we hap))))))) ?_;have hla:(dn.app (.br 29 x (ee+1) u v .nil)).len=dn.len+1:=Fo.len_app _ _;have hfin:o=(dn.app (.br 29 x (ee+1) u v .nil)).app r:=by rw[ho,Fo.app_assoc];rfl
    refine⟨_,_,_,?_,Wk.mk [5] [2,3] ?_ ?_ ?_,dn.app (.br 29 x (ee+1) u v .nil),r,(ee+1),rfl,hfin,hr,rfl,rfl⟩
    ·exact ar5
    ·rw[hla];simp only[iT,ig,go_sem,simprocAttr]
     repeat' refine fE ?_ ?_
     all_goals first|exact jQ|skip
    ·rw[hla];exact .cr (.snocw (row:=dn.cell) (n:=dn.len) (l:=[aq 29,aq x,aq (((ee+1):Nat):Int),.os 2 u.len,.os 3 v.len]) ah rfl rfl rfl ag aa (λi j hi _=>by rw[Fo.cell_app,if_pos hi]) (λi j hi _=>dn.cell_pu i j hi) (λj hj=>by
      rw[Fo.cell_app,if_neg (apJ _),apt];rcases(show j=0\/j=1\/j=2\/j=3\/j=4 by omega) with rfl|rfl|rfl|rfl|rfl
      ·exact ar6
      ·exact ar6
      ·exact ar6
      ·exact ar7
      ·exact .cv (.ownb (ty:=140) (z:=0) ah (λi j hi _=>v.cell_ok i j hi) ae))) .nil
    ·simp
   ·have m28:¬(cs.getD m (0,0)).1=28:=q0;refine dq (aU m0 (aU m1 (aU m2 (aU @ip (aU @zG (aU m28 (aU wm hap))))))) ?_;have hla:(dn.app (.br 29 x (m+1) u .nil .nil)).len=dn.len+1:=Fo.len_app _ _;have hfin:o=(dn.app (.br 29 x (m+1) u .nil .nil)).app r:=by rw[ho,Fo.app_assoc];rfl
    refine⟨_,_,_,?_,Wk.mk [4] [2] ?_ ?_ ?_,dn.app (.br 29 x (m+1) u .nil .nil),r,(m+1),rfl,hfin,hr,rfl,rfl⟩
    ·exact ar5
    ·rw[hla];simp only[iT,ig,go_sem,simprocAttr]
     repeat' refine fE ?_ ?_
     all_goals first|exact jQ|skip
    ·rw[hla];exact .cr (.snocw (row:=dn.cell) (n:=dn.len) (l:=[aq 29,aq x,aq (((m+1):Nat):Int),.os 2 u.len,.sl0]) ah rfl rfl rfl ag aa (λi j hi _=>by rw[Fo.cell_app,if_pos hi]) (λi j hi _=>dn.cell_pu i j hi) (λj hj=>by
      rw[Fo.cell_app,if_neg (apJ _),apt];rcases(show j=0\/j=1\/j=2\/j=3\/j=4 by omega) with rfl|rfl|rfl|rfl|rfl
      ·exact ar6
      ·exact ar6
      ·exact ar6
      ·exact ar7
      ·exact .cv (.sl0 _ _))) .nil
    ·simp
theorem fM.len{cs:am}{out:List Int}:∀{o:Fo} {a b:Nat},fM cs out o a b->a+o.len<=b
 |.nil,a,b,h=>by cases h;simp[Fo.len]
 |.pl x y r,a,b,h=>by
  obtain⟨_,h1,_,_,h2⟩:=h;have:=h2.len;simp only[Fo.len];omega
 |.br op x y u v r,a,b,h=>by
  obtain⟨_,_,_,⟨m,_,h1,_,_,h2⟩,h3⟩:=h;have:=h3.len;simp only[Fo.len];rcases h2 with⟨_,e,_,h4,_,_,h5⟩|⟨_,_,h5⟩<;>omega
theorem wP(cs:am)(hcs:cs.length<=1024)(out:List Int)(hol:out.length=cs.length):∀(n:Nat) (o:Fo),o.size<n->Gl cs out o
 |0,o,h=>absurd h (apg _)
 |n+1,o,h=>λa b hg hb=>BD cs hcs out hol o (λu hu=>wP cs hcs out hol n u aa) (by have:=hg.len;omega) a b hg hb
theorem pO(cs:am):(∃a e:Int,e≠0/\jf cs=([],a,e)/\fJ cs=(.nil,a,e))\/
  (∃out o,jf cs=(out,0,0)/\fJ cs=(o,0,0)/\cs.length<=1024/\out.length=cs.length/\fM cs out o 0 cs.length):=by
 by_cases h:1024<cs.length
 ·exact .inl ⟨0,6,ag,by rw[jf,if_pos h],by rw[fJ,if_pos h]⟩
 have k:=rd cs;cases hr:jH cs with
 |error x=>
  rw[hr] at k;exact .inl ⟨x,15,ag,by rw[jf,if_neg h,show lh cs= .error x from k],by rw[fJ,if_neg h,hr]⟩
 |ok q=>
  obtain⟨o,pt⟩:=q;rw[hr] at k;obtain⟨out,k1,k2,k3⟩:=k;have k1':=k1;rw[lh] at k1';cases hs:gW cs cs.length 0 (yL cs) with
  |error x=>rw[hs] at k1';cases k1'
  |ok s=>
   rw[hs] at k1';dsimp only at k1';by_cases hop:s.op=[]
   ·rw[if_pos hop] at k1';have hout:s.out=out:=by injection k1'
    obtain⟨out',p1,p2,p3⟩:=tj cs.length 0 (yL cs) s out hs aa (DW cs) (λ_ _ _=>by rw[hout]) k2
    have p1':AW cs cs.length 0 out []=some out':=p1;exact .inr ⟨out',o,by rw[jf,if_neg h,k1];show((AW cs cs.length 0 out []).getD [],(0:Int),(0:Int))=_;rw[p1'];rfl,by rw[fJ,if_neg h,hr],aa,p2,k3.congr30 p3⟩
   ·rw[if_neg hop] at k1';cases k1'
theorem zd(cs:am)(hcs:cs.length<=100000):gw av 75 [.fs 2 cs.length (pI cs)] [.o 140 5 (fJ cs).1.len 0 (fJ cs).1.cell,.v (aq (fJ cs).2.1),.v (aq (fJ cs).2.2)]:=by
 refine fe fx acQ ⟨ae,ag⟩ ?_;simp only[fy];refine dp ?_;refine gf (qp cs hcs) ?_;rcases pO cs with⟨a,e,he,h1,h2⟩|⟨out,o,h1,h2,h3,h4,h5⟩
 ·rw[h1,h2];refine dx he ?_;exact⟨[_,_,_],rfl,.inl ⟨rfl,rfl⟩,rfl,⟨rfl,rfl⟩,⟨rfl,rfl⟩,trivial⟩
 ·rw[h1,h2];refine dz ?_;refine gm [0] (fargs:=[.fs 2 cs.length (pI cs),.fs 1 out.length (iC out),aq (0:Nat),aq cs.length]) ?_ (wP cs h3 out h4 (o.size+1) o (apG _) 0 cs.length h5 (bL _)) ?_ ?_
  ·exact .cons (.rfl rfl) (.cons (.ownb (ty:=3) (z:=0) ah (λ_ _ _ _=>rfl) ae) (.cons (.rfl rfl) (.cons (.rfl rfl) .nil)))
  ·exact arT
  refine dp ?_;exact⟨[_,_,_],rfl,.inr ⟨1,rfl,ae,_,ai,rfl,rfl,ag,rfl,bL _,bL _,λi j _ hj=>fI i j hj,λi j hi _=>o.cell_ok i j hi⟩,rfl,⟨rfl,rfl⟩,⟨rfl,rfl⟩,trivial⟩
def oW(la:ao)(loc:Int)(x:Int×Int):Prop:=((x.1=1\/x.1=2)/\loc<=x.2)\/((x.1=3\/x.1=4)/\(la.length:Int)<=x.2)
instance (la:ao) (loc:Int) (x:Int×Int):Decidable (oW la loc x):=by unfold oW;exact inferInstance
def mC(la:ao)(loc:Int):List (Int×Int)->Nat->Int×Int
 |[],_=>(0,0)
 |x::l,k=>if oW la loc x then((k:Int),2) else mC la loc l (k+1)
def iH(la:ao)(loc:Int)(cs:am):Int×Int:=if fY la loc cs=0 then(if(fJ cs).2.2=0 then mC la loc cs 0 else((fJ cs).2.1,(fJ cs).2.2)) else(0,fY la loc cs)
theorem pJ(la:ao)(loc:Int)(cs:am)(hl:la.length<=9223372036854775807)(hc:cs.length<=9223372036854775807)(ha:il cs):gw av 28 [fX la loc cs] [.v (aq (iH la loc cs).1),.v (aq (iH la loc cs).2)]:=by
 refine fe fx auc ⟨ae,ag⟩ ?_;simp only[fy,fX];refine dp ?_;by_cases hf:fY la loc cs=0;rotate_left
 ·have hF:iH la loc cs=(0,fY la loc cs):=if_neg hf;rw[hF];refine gf (tK la loc cs hl hc ha hf) ?_;refine dx hf ?_;exact⟨[_,_],rfl,⟨rfl,rfl⟩,⟨rfl,rfl⟩,trivial⟩
 refine gf (rS la loc cs ha hf) ?_;refine dz ?_;refine gf (re cs) ?_;by_cases hp:(fJ cs).2.2=0;rotate_left
 ·have hF:iH la loc cs=((fJ cs).2.1,(fJ cs).2.2):=by rw[iH,if_pos hf,if_neg hp]
  rw[hF];refine dx hp ?_;exact aq7
 have hF:iH la loc cs=mC la loc cs 0:=by rw[iH,if_pos hf,if_pos hp]
 rw[hF];refine dx hp ?_;refine GA.loop (I:=λm e H=>∃k:Nat,m=cs.length-k/\k<=cs.length/\mC la loc cs 0=mC la loc (cs.drop k) k/\e=fu [(1,.p 0 0),(31,.fs 2 cs.length (pI cs)),(32,aq cs.length),(33,aq k)]/\H=fi [eZ 0 25 [.fs 2 la.length (pA la),aq loc,.fs 2 cs.length (pI cs)]]) (Wk.mk [0] [] ?_ ?_ ?_) ⟨0,rfl,apf _,rfl,rfl,rfl⟩ ?_
 ·exact fK
 ·exact bb
 ·simp
 rintro m e H ⟨k,rfl,hk,hs,rfl,rfl⟩;have h0:(0:Int)<=(k:Int):=aa;by_cases h:k<cs.length;rotate_left
 ·exact eC
 have h':(k:Int)<cs.length:=aa;have wk:=au k;have hx:=ha _ (ka (d:=(0,0)) h);have wx:IntKind.i64.wrap (cs.getD k (0,0)).2=(cs.getD k (0,0)).2:=ff aa;rw[ir (d:=(0,0)) h,mC] at hs;have nx:∀(v:Int),(cs.getD k (0,0)).1=v->¬(v=1\/v=2)->¬(v=3\/v=4)->¬oW la loc (cs.getD k (0,0)):=λv e h1 h2 hb=>by
  subst e;rcases hb with hb|hb
  ·exact h1 hb.1
  ·exact h2 hb.1
 by_cases hop:(cs.getD k (0,0)).1=1\/(cs.getD k (0,0)).1=2
 ·have h34:¬((cs.getD k (0,0)).1=3\/(cs.getD k (0,0)).1=4):=aa;by_cases hb:loc<=(cs.getD k (0,0)).2
  ·rw[if_pos (.inl ⟨hop,hb⟩)] at hs;rw[hs];rcases hop with e|e
   all_goals
    refine dt (aU h0 (aU h' (aU @ip (aU @td (aU e (aU wx hb)))))) ?_;exact aq7
  ·rw[if_neg (λh=>h.elim (λh=>hb h.2) (λh=>h34 h.1))] at hs;rcases hop with e|e
   all_goals
    refine dt (aU h0 (aU h' (aU @ip (aU @td (aU e (aU wx (aU hb wk))))))) ?_;refine⟨_,_,_,?_,Wk.mk [0] [] ?_ ?_ ?_,k+1,rfl,aa,hs,rfl,rfl⟩
    ·omega
    ·exact fK
    ·exact asa
    ·simp
 have n1:¬(cs.getD k (0,0)).1=1:=λh=>hop (.inl h);have n2:¬(cs.getD k (0,0)).1=2:=λh=>hop (.inr h);by_cases hop2:(cs.getD k (0,0)).1=3\/(cs.getD k (0,0)).1=4
 ·by_cases hb:(la.length:Int)<=(cs.getD k (0,0)).2
  ·rw[if_pos (.inr ⟨hop2,hb⟩)] at hs;rw[hs];rcases hop2 with e|e
   all_goals
    refine dt (aU h0 (aU h' (aU @ip (aU @td (aU e (aU wx hb)))))) ?_;exact aq7
  ·rw[if_neg (λh=>h.elim (λh=>hop h.1) (λh=>hb h.2))] at hs;rcases hop2 with e|e
   all_goals
    refine dt (aU h0 (aU h' (aU @ip (aU @td (aU e (aU wx (aU hb wk))))))) ?_;refine⟨_,_,_,?_,Wk.mk [0] [] ?_ ?_ ?_,k+1,rfl,aa,hs,rfl,rfl⟩
    ·omega
    ·exact fK
    ·exact asa
    ·simp
 have n3:¬(cs.getD k (0,0)).1=3:=λh=>hop2 (.inl h);have n4:¬(cs.getD k (0,0)).1=4:=λh=>hop2 (.inr h);rw[if_neg (λh=>h.elim (λh=>hop h.1) (λh=>hop2 h.1))] at hs;refine dq (aU h0 (aU h' (aU @ip (aU @td (aU n1 (aU n2 (aU n3 (aU n4 wk)))))))) ?_;refine⟨_,_,_,?_,Wk.mk [0] [] ?_ ?_ ?_,k+1,rfl,aa,hs,rfl,rfl⟩
 ·omega
 ·exact fK
 ·exact asa
 ·simp
theorem qm(la:ao)(loc:Int)(cs:am)(hl:la.length<=9223372036854775807)(hc:cs.length<=9223372036854775807)(ha:il cs):gw av 45 [fX la loc cs] [.v (aq (iH la loc cs).1),.v (aq (iH la loc cs).2)]:=by
 refine fe fx ac2 ⟨ae,ag⟩ ?_;simp only[fy,fX];refine dp ?_;refine gf (uB la loc cs hl hc ha) ?_;by_cases hf:fY la loc cs=0;rotate_left
 ·have hF:iH la loc cs=(0,fY la loc cs):=if_neg hf;rw[hF];refine dx hf ?_;exact⟨[_,_],rfl,⟨rfl,rfl⟩,⟨rfl,rfl⟩,trivial⟩
 refine dx hf ?_;obtain⟨f1,f2,f3,f4,f5,f6,f7⟩:=ph hf;refine gf (F:=[.fs 2 cs.length (pI cs)]) (zd cs aa) ?_;by_cases hp:(fJ cs).2.2=0;rotate_left
 ·have hF:iH la loc cs=((fJ cs).2.1,(fJ cs).2.2):=by rw[iH,if_pos hf,if_neg hp]
  rw[hF];refine dx hp ?_;exact aq7
 have hF:iH la loc cs=mC la loc cs 0:=by rw[iH,if_pos hf,if_pos hp]
 rw[hF];refine dx hp ?_;refine GA.loop (I:=λm e H=>∃k:Nat,m=cs.length-k/\k<=cs.length/\mC la loc cs 0=mC la loc (cs.drop k) k/\e=fu [(1,.p 0 0),(8,aq k)]/\H=fi [eZ 0 25 [.fs 2 la.length (pA la),aq loc,.fs 2 cs.length (pI cs)]]) (Wk.mk [0] [] ?_ ?_ ?_) ⟨0,rfl,apf _,rfl,rfl,rfl⟩ ?_
 ·exact fK
 ·exact bb
 ·simp
 rintro m e H ⟨k,rfl,hk,hs,rfl,rfl⟩;have h0:(0:Int)<=(k:Int):=aa;by_cases h:k<cs.length;rotate_left
 ·exact eC
 have h':(k:Int)<cs.length:=aa;have wk:=au k;have hx:=ha _ (ka (d:=(0,0)) h);have wx:IntKind.i64.wrap (cs.getD k (0,0)).2=(cs.getD k (0,0)).2:=ff aa;rw[ir (d:=(0,0)) h,mC] at hs;have nx:∀(v:Int),(cs.getD k (0,0)).1=v->¬(v=1\/v=2)->¬(v=3\/v=4)->¬oW la loc (cs.getD k (0,0)):=λv e h1 h2 hb=>by
  subst e;rcases hb with hb|hb
  ·exact h1 hb.1
  ·exact h2 hb.1
 by_cases hop:(cs.getD k (0,0)).1=1\/(cs.getD k (0,0)).1=2
 ·have h34:¬((cs.getD k (0,0)).1=3\/(cs.getD k (0,0)).1=4):=aa;by_cases hb:loc<=(cs.getD k (0,0)).2
  ·rw[if_pos (.inl ⟨hop,hb⟩)] at hs;rw[hs];rcases hop with e|e
   all_goals
    refine dt (aU h0 (aU h' (aU @ip (aU @td (aU e (aU wx hb)))))) ?_;exact aq7
  ·rw[if_neg (λh=>h.elim (λh=>hb h.2) (λh=>h34 h.1))] at hs;rcases hop with e|e
   all_goals
    refine dt (aU h0 (aU h' (aU @ip (aU @td (aU e (aU wx (aU hb wk))))))) ?_;refine⟨_,_,_,?_,Wk.mk [0] [] ?_ ?_ ?_,k+1,rfl,aa,hs,rfl,rfl⟩
    ·omega
    ·exact fK
    ·exact asa
    ·simp
 have n1:¬(cs.getD k (0,0)).1=1:=λh=>hop (.inl h);have n2:¬(cs.getD k (0,0)).1=2:=λh=>hop (.inr h);by_cases hop2:(cs.getD k (0,0)).1=3\/(cs.getD k (0,0)).1=4
 ·by_cases hb:(la.length:Int)<=(cs.getD k (0,0)).2
  ·rw[if_pos (.inr ⟨hop2,hb⟩)] at hs;rw[hs];rcases hop2 with e|e
   all_goals
    refine dt (aU h0 (aU h' (aU @ip (aU @td (aU e (aU wx hb)))))) ?_;exact aq7
  ·rw[if_neg (λh=>h.elim (λh=>hop h.1) (λh=>hb h.2))] at hs;rcases hop2 with e|e
   all_goals
    refine dt (aU h0 (aU h' (aU @ip (aU @td (aU e (aU wx (aU hb wk))))))) ?_;refine⟨_,_,_,?_,Wk.mk [0] [] ?_ ?_ ?_,k+1,rfl,aa,hs,rfl,rfl⟩
    ·omega
    ·exact fK
    ·exact asa
    ·simp
 have n3:¬(cs.getD k (0,0)).1=3:=λh=>hop2 (.inl h);have n4:¬(cs.getD k (0,0)).1=4:=λh=>hop2 (.inr h);rw[if_neg (λh=>h.elim (λh=>hop h.1) (λh=>hop2 h.1))] at hs;refine dq (aU h0 (aU h' (aU @ip (aU @td (aU n1 (aU n2 (aU n3 (aU n4 wk)))))))) ?_;refine⟨_,_,_,?_,Wk.mk [0] [] ?_ ?_ ?_,k+1,rfl,aa,hs,rfl,rfl⟩
 ·omega
 ·exact fK
 ·exact asa
 ·simp
theorem gp(k:IntKind)(x:Int):kt (pure (Value.int k x))=some (.n k x):=rfl
def gi(n:Int):Int:=if 281474976710657<n then 281474976710657 else n
def fN(a n:Int):Int:=if 0<n/\281474976710657 / n<a then 281474976710657 else gi (a*n)
def ul(n:Int):Int×Int:=if 281474976710657<=n then(0,18) else(n,0)
theorem fH{n:Int}(h:0<=n):0<=gi n/\gi n<=281474976710657:=by unfold gi;split<;>omega
theorem hJ{a n:Int}(h:0<=a)(hn:0<=n):0<=fN a n/\fN a n<=281474976710657:=by
 unfold fN;split
 ·omega
 ·exact fH (apY h hn)
theorem mY(a b:Int)(ha:0<=a/\a<=1125899906842624)(hb:0<=b/\b<=1125899906842624):gw av 66 [aq a,aq b] [.v (aq (gi (a+b)))]:=by
 refine fe fx aeY ⟨ae,ag⟩ ?_;simp only[fy];have w:IntKind.i64.wrap (a+b)=a+b:=ff aa
 repeat first|with_reducible refine fj ?_|simp only[w,fL,gV,iW,go_sem,simprocAttr]
 exact dU
theorem xo(n:Int):gw av 49 [aq n] [.v (aq (gi n))]:=by
 refine fe fx acK ⟨ae,ag⟩ ?_;simp only[fy]
 repeat first|with_reducible refine fj ?_|simp only[fL,gV,iW,go_sem,simprocAttr]
 exact dU
theorem oS(n:Int):gw av 23 [aq n] [.v (aq (ul n).1),.v (aq (ul n).2)]:=by
 refine fe fx aeH ⟨ae,ag⟩ ?_;simp only[fy];by_cases h:281474976710657<=n
 ·rw[show ul n=(0,18) from if_pos h];refine dt h ?_;exact⟨[_,_],rfl,⟨rfl,rfl⟩,⟨rfl,rfl⟩,trivial⟩
 ·rw[show ul n=(n,0) from if_neg h];refine dt h ?_;exact⟨[_,_],rfl,⟨rfl,rfl⟩,⟨rfl,rfl⟩,trivial⟩
theorem uv(a n:Int)(ha:0<=a/\a<=281474976710657)(hn:0<=n/\n<=65536):gw av 24 [aq a,aq n] [.v (aq (fN a n))]:=by
 refine fe fx MC ⟨ae,ag⟩ ?_;simp only[fy];by_cases h:0<n
 ·have hq:¬n=0:=aa;have wq:IntKind.i64.wrap (Int.tdiv 281474976710657 n)=281474976710657 / n:=by
   rw[apO ag];have h1:281474976710657 / n<=281474976710657:=apZ _ ag;have h2:0<=281474976710657 / n:=apW ag aa;exact ff aa
  by_cases hc:281474976710657 / n<a
  ·rw[show fN a n=281474976710657 from if_pos ⟨h,hc⟩]
   repeat first|with_reducible refine fj ?_|simp only[h,lJ hq,hq,if_false,gp,wq,hc,gt_iff_lt,aQ,go_sem,simprocAttr]
   exact dU
  ·rw[show fN a n=gi (a*n) from if_neg (λk=>hc k.2)];have hp:a*n<=281474976710657:=by
    have:=Int.mul_le_of_le_ediv h (Int.not_lt.1 hc);exact this
   have hp0:0<=a*n:=apY ha.1 hn.1;have w:IntKind.i64.wrap (a*n)=a*n:=ff aa
   repeat first|with_reducible refine fj ?_|simp only[h,lJ hq,hq,if_false,gp,wq,hc,w,gt_iff_lt,fL,gV,iW,aQ,go_sem,simprocAttr]
   exact dU
 ·obtain rfl:n=0:=aa;rw[show fN a 0=gi (a*0) from if_neg (λk=>h k.1)];have w:IntKind.i64.wrap (a*0)=a*0:=ff aa
  repeat first|with_reducible refine fj ?_|simp only[h,w,gt_iff_lt,fL,gV,iW,aQ,go_sem,simprocAttr]
  exact dU
abbrev Iv:=Int×Int
abbrev Vl:=Bool×Iv
abbrev iJ(x:Iv):Prop:=0<=x.1/\x.1<=x.2/\x.2<=4294967295
def jT(i j:Int):Int:=if j<i then j else i
def fA(i j:Int):Int:=if i<j then j else i
def yr(x:Iv):Int:=if x.1<0\/4294967295<x.1\/x.2<0\/4294967295<x.2 then 2 else if x.2<x.1 then 29 else 0
theorem nY{x:Iv}:yr x=0↔iJ x:=by
 unfold yr;split
 ·rename_i h;constructor
  ·intro h';cases h'
  ·intro h';omega
 ·split
  ·rename_i h1 h2;constructor
   ·intro h';cases h'
   ·intro h';omega
  ·rename_i h1 h2;constructor
   ·intro _;refine⟨?_,?_,?_⟩<;>omega
   ·intro _;rfl
def kQ(x y:Iv):Iv:=if iJ x/\iJ y then(jT x.1 y.1,fA x.2 y.2) else(0,0)
def Fa(n:Int):Int:=if n<=255 then 255 else if n<=65535 then 65535 else 4294967295
def kX(x y:Iv):Iv:=if iJ x/\iJ y then(if y.1<x.1 then 0 else x.1,if x.2<y.2 then Fa y.2 else x.2) else(0,0)
def jp(x y:Iv):Bool:=decide (iJ x/\iJ y)&&decide (y.1<=x.1)&&decide (x.2<=y.2)
theorem xC{x y:Iv}:iJ (kQ x y):=by
 unfold kQ jT fA;split
 ·exact asf
 ·exact⟨ag,ag,ag⟩
theorem B7{x y:Iv}:iJ (kX x y):=by
 unfold kX Fa;split
 ·exact asf
 ·exact⟨ag,ag,ag⟩
theorem uN{x:Iv}(h:iJ x):kQ x x=x:=by
 unfold kQ jT fA;rw[if_pos ⟨h,h⟩,if_neg (Int.lt_irrefl _),if_neg (Int.lt_irrefl _)]
theorem yW{x:Iv}(h:iJ x):kX x x=x:=by
 unfold kX;rw[if_pos ⟨h,h⟩,if_neg (Int.lt_irrefl _),if_neg (Int.lt_irrefl _)]
theorem wB{x:Iv}(h:iJ x):jp x x=true:=by simp[jp,h]
theorem wC{x:Iv}(h:iJ x):jp x (0,4294967295)=true:=by
 have:iJ (0,4294967295):=⟨ag,ag,ag⟩;simp[jp,h]
/-! ### the arithmetic of intervals-/
def iU(n:Int):Int:=if n=0 then 0 else(2:Int)^(Nat.log2 n.toNat+1)-1
def iP(l h:Int):Iv:=if 0<=l/\h<=4294967295 then(l,h) else if 4294967295<l then(l-4294967296,h-4294967296) else if h<0 then(l+4294967296,h+4294967296) else(0,4294967295)
def an2(a b:Int):Int:=IntKind.u32.wrap ((BitVec.ofInt 32 a&&& BitVec.ofInt 32 b).toNat:Int)
def orU(a b:Int):Int:=IntKind.u32.wrap ((BitVec.ofInt 32 a|||BitVec.ofInt 32 b).toNat:Int)
def yV(a b:Int):Int:=IntKind.u32.wrap ((BitVec.ofInt 32 a ^^^ BitVec.ofInt 32 b).toNat:Int)
def Ba(a b:Int):Int:=yV (IntKind.u32.wrap (yV a (IntKind.u32.wrap (b*2654435761))*2246822519)) (IntKind.u32.wrap (yV a (IntKind.u32.wrap (b*2654435761))*2246822519) / 65536)
def ic(op a b:Int):Int:=
 if op=8 then IntKind.u32.wrap (a+b) else if op=9 then IntKind.u32.wrap (a-b) else if op=10 then IntKind.u32.wrap (a*b) else if op=11 then a / b else if op=12 then a%b
 else if op=13 then an2 a b else if op=14 then orU a b else if op=15 then yV a b else if op=16 then IntKind.u32.wrap (a*2^(b%32).toNat) else if op=17 then a / 2^(b%32).toNat
 else if op=18 then jT a b else if op=19 then fA a b else Ba a b
def gg(op:Int)(x y:Iv):Iv:=
 if op=8 then iP (x.1+y.1) (x.2+y.2) else if op=9 then iP (x.1-y.2) (x.2-y.1)
 else if op=10 then(if 0<y.2/\4294967295 / y.2<x.2 then(0,4294967295) else(x.1*y.1,x.2*y.2))
 else if op=11 then(x.1 / y.2,x.2 / y.1)
 else if op=12 then(if x.2<y.1 then x else(0,jT x.2 (y.2-1)))
 else if op=13 then(0,jT x.2 y.2) else if op=14 then(fA x.1 y.1,iU (fA x.2 y.2)) else if op=15 then(0,iU (fA x.2 y.2))
 else if op=16 then(if y.1≠y.2\/4294967295 / 2^(y.1%32).toNat<x.2 then(0,4294967295) else(x.1*2^(y.1%32).toNat,x.2*2^(y.1%32).toNat))
 else if op=17 then(if y.2<=31 then(x.1 / 2^y.2.toNat,x.2 / 2^y.1.toNat) else if y.1=y.2 then(x.1 / 2^(y.1%32).toNat,x.2 / 2^(y.1%32).toNat) else(0,x.2))
 else if op=18 then(jT x.1 y.1,jT x.2 y.2) else if op=19 then(fA x.1 y.1,fA x.2 y.2) else(0,4294967295)
def fZ(op:Int)(x y:Iv):Iv×Int:=
 if y.1=0/\(op=11\/op=12) then((0,0),17) else if x.1=x.2/\y.1=y.2 then((ic op x.1 y.1,ic op x.1 y.1),0) else(gg op x y,0)
/-! ### the state-/
structure WS where
 loc:List Iv
 st:List Vl
 ht:Int
 lv:List (List Iv)
 lp:List (Int×Int)
abbrev Er:=Int×Int
abbrev Bd:=Int×Int
def gh(b c:Bd):Bd:=(gi (b.1+c.1),gi (b.2+c.2))
def jt(b:Bd)(n:Int):Bd:=(fN (gi (b.1+1)) n,fN b.2 n)
def MT(c:UInt8)(v:Vl):Bool:=if c=110 then !v.1 else if c=116 then v.1 else true
def l7:List Vl->List UInt8->Bool
 |v::l,c::m=>MT c v&&l7 l m
 |_,_=>true
def jS(p:Int)(base:Nat)(ty:List UInt8)(S:WS):Except Er (List Vl×WS):=
 if S.st.length<base+ty.length then .error (p,14)
 else if l7 (S.st.drop (S.st.length-ty.length)) ty=true then .ok (S.st.drop (S.st.length-ty.length),{S with st:=S.st.take (S.st.length-ty.length)})
 else .error (p,13)
def gH(p:Int)(l:List Vl)(S:WS):Except Er WS:=if(S.st++l).length<=32 then .ok {S with st:=S.st++l,ht:=fA S.ht ((S.st++l).length:Nat)} else .error (p,14)
def jA(la:ao)(arg:Int)(p:Int)(v:Vl):Except Er Iv:=
 if v.2.2<(la.getD arg.toNat (false,0)).2 then .ok (if(la.getD arg.toNat (false,0)).1=true then(0,4294967295) else(0,255)) else .error (p,16)
def v0:Vl:=(false,0,0)
def hD(b:Bd):Except Er WS->Except Er (WS×Bd)
 |.error e=> .error e
 |.ok S=> .ok (S,b)
def gU(la:ao)(op arg:Int)(p:Int)(l:List Vl)(S:WS):Except Er (WS×Bd):=
 if op=0 then hD (1,0) (gH p [(false,arg,arg)] S)
 else if op=1 then hD (1,0) (gH p [(false,S.loc.getD arg.toNat (0,0))] S)
 else if op=2 then .ok ({S with loc:=S.loc.set arg.toNat (l.getD 0 v0).2},(1,0))
 else if op=3 then match jA la arg p (l.getD 0 v0) with
  |.error e=> .error e
  |.ok x=>hD (1,0) (gH p [(false,x)] S)
 else if op=4 then match jA la arg p (l.getD 0 v0) with
  |.error e=> .error e
  |.ok x=> .ok (S,(1,0))
 else if op=5 then hD (1,0) (gH p [l.getD 0 v0,l.getD 0 v0] S)
 else if op=7 then hD (1,0) (gH p [l.getD 1 v0,l.getD 0 v0] S)
 else if op=6\/op=35 then .ok (S,(1,0))
 else if op=34 then .ok (S,(1,1))
 else if op=32 then hD (1,0) (gH p [(false,0,4294967295)] S)
 else if op=26 then hD (1,0) (gH p [(false,0,1)] S)
 else if(kc op).2=[116] then hD (1,0) (gH p [(true,0,0)] S)
 else if(fZ op (l.getD 0 v0).2 (l.getD 1 v0).2).2=0 then hD (1,0) (gH p [(false,(fZ op (l.getD 0 v0).2 (l.getD 1 v0).2).1)] S)
 else .error (p,(fZ op (l.getD 0 v0).2 (l.getD 1 v0).2).2)
def jm(la:ao)(op arg:Int)(p:Int)(base:Nat)(S:WS):Except Er (WS×Bd):=match jS p base (kc op).1 S with
 |.error e=> .error e
 |.ok (l,S1)=>gU la op arg p l S1
def kh(cs:am)(la:ao)(base loop:Nat)(p:Nat)(S:WS):Except Er (WS×Bd):=
 if fm cs p=30 then match jS p base [116] S with
  |.error e=> .error e
  |.ok (_,S1)=>if S1.st.length=loop then .ok ({S1 with lv:=S1.lv++[S1.loc]},(1,0)) else .error (p,14)
 else jm la (fm cs p) (cs.getD p (0,0)).2 p base S
def oC(cs:am)(la:ao)(base loop:Nat):Nat->Nat->WS->Bd->Except Er (WS×Bd)
 |0,_,S,b=> .ok (S,b)
 |n+1,p,S,b=>match kh cs la base loop p S with
  |.error e=> .error e
  |.ok (S',x)=>oC cs la base loop n (p+1) S' (gh b x)
def gj:List Iv->List Iv->List Iv
 |[],_=>[]
 |x::l,m=>kQ x (m.headD (0,0))::gj l m.tail
def ib:List Iv->List Iv->Bool
 |[],[]=>true
 |x::l,y::m=>jp x y&&ib l m
 |_,_=>false
def stoF(cs:am):Nat->Nat->Nat->Bool
 |_,0,_=>false
 |p,n+1,i=>decide (cs.getD p (0,0)=(2,(i:Int)))||stoF cs (p+1) n i
def iL(sto:Nat->Bool)(pass:Int):Nat->List Iv->List Iv->List Iv
 |_,[],_=>[]
 |i,x::l,m=>(if pass<3 then kX x (kQ x (m.headD (0,0))) else if sto i=true then(0,4294967295) else x)::iL sto pass (i+1) l m.tail
def l6(body:WS->Option (Except Er (WS×Bd)))(to h:Nat)(sto:Nat->Bool):Nat->Int->List Iv->WS->Option (Except Er (List Iv×WS×Bd))
 |0,_,_,_=>none
 |f+1,pass,head,S=>match body {S with loc:=head,lv:=[]} with
  |none=>none
  |some (.error e)=>some (.error e)
  |some (.ok (S',b))=>if S'.st.length=h then(if ib S'.loc head=true then some (.ok (head,S',b)) else l6 body to h sto f (pass+1) (iL sto pass 0 head S'.loc) S') else some (.error (to,14))
def iI:List (Int×Int)->Int->Int->List (Int×Int)
 |[],p,n=>[(p,n)]
 |x::l,p,n=>if x.1=p then(p,n)::l else x::iI l p n
def fO(cs:am)(la:ao):Fo->Nat->Nat->WS->Bd->Option (Except Er (WS×Bd))
 |.nil,_,_,S,b=>some (.ok (S,b))
 |.pl x y r,base,loop,S,b=>match oC cs la base loop (y-x) x S b with
  |.error e=>some (.error e)
  |.ok (S',b')=>fO cs la r base loop S' b'
 |.br op x y u v r,base,loop,S,b=>
  if op=27 then match jS x base [116] S with
   |.error e=>some (.error e)
   |.ok (_,S1)=>match fO cs la u S1.st.length loop S1 (0,0) with
    |none=>none
    |some (.error e)=>some (.error e)
    |some (.ok (S2,bx))=>
     if S2.st.length=S1.st.length then
      if fm cs (u.lastB (x+1))=28 then match fO cs la v S1.st.length loop {S2 with loc:=S1.loc} (0,0) with
       |none=>none
       |some (.error e)=>some (.error e)
       |some (.ok (S4,by_))=>
        if S4.st.length=S1.st.length then fO cs la r base loop {S4 with loc:=gj S2.loc S4.loc} (gh b (gh (fA bx.1 by_.1,fA bx.2 by_.2) (1,0)))
        else some (.error ((v.lastB (u.lastB (x+1)+1):Nat),14))
      else fO cs la r base loop {S2 with loc:=gj S2.loc S1.loc} (gh b (gh (fA bx.1 0,fA bx.2 0) (1,0)))
     else some (.error ((u.lastB (x+1):Nat),14))
  else match jS x base [110] S with
   |.error e=>some (.error e)
   |.ok (l,S1)=>
    if(l.getD 0 v0).2.2<=65536 then match l6 (λS'=>fO cs la u S1.st.length S1.st.length S' (0,0)) (u.lastB (x+1)) S1.st.length (stoF cs x (u.lastB (x+1)-x)) 6 1 S1.loc S1 with
     |none=>none
     |some (.error e)=>some (.error e)
     |some (.ok (head,S2,bx))=>fO cs la r base loop {S2 with loc:=S2.lv.foldl gj head,lv:=S1.lv,lp:=iI S2.lp x (l.getD 0 v0).2.2} (gh b (gh (jt bx (l.getD 0 v0).2.2) (1,0)))
    else some (.error (x,18))
section
variable {a b op p:Int}{x:Iv}{l:List Vl}{n:Nat}{S S1:WS}
def wl(n:Nat)(l:List Iv):Prop:=l.length=n/\∀x ∈ l,iJ x
structure WF(n:Nat)(S:WS):Prop where
 loc:wl n S.loc
 st:∀v ∈ S.st,iJ v.2
 lv:∀l ∈ S.lv,wl n l
def px(b:Bd):Prop:=(0<=b.1/\b.1<=281474976710657)/\0<=b.2/\b.2<=281474976710657
theorem gx{b c:Bd}(hb:0<=b.1/\0<=b.2)(hc:0<=c.1/\0<=c.2):px (gh b c):=⟨fH aa,fH aa⟩
theorem oZ{b:Bd}(hb:px b){n:Int}(hn:0<=n):px (jt b n):=⟨hJ (fH (by have:=hb.1;omega)).1 hn,hJ hb.2.1 hn⟩
theorem i7:∀(l m:List Iv),(gj l m).length=l.length
 |[],_=>rfl
 |x::l,m=>by simp[gj,i7 l m.tail]
theorem xT:∀(l m:List Iv),∀x ∈ gj l m,iJ x
 |[],_,x,h=>by cases h
 |y::l,m,x,h=>by
  rcases apv.1 h with rfl|h
  ·exact xC
  ·exact xT l m.tail x h
theorem kF{l:List Iv}(h:l.length=n)(m:List Iv):wl n (gj l m):=⟨(i7 l m).trans h,xT l m⟩
theorem kr{l:List Iv}(h:∀x ∈ l,iJ x)(i:Nat):iJ (l.getD i (0,0)):=by
 rw[apd];cases hi:l[i]? with
 |none=>exact⟨ag,ag,ag⟩
 |some x=>exact h x (apB hi)
theorem jh(h:∀v ∈ l,iJ v.2)(i:Nat):iJ (l.getD i v0).2:=by
 rw[apd];cases hi:l[i]? with
 |none=>exact⟨ag,ag,ag⟩
 |some x=>exact h x (apB hi)
theorem ni:∀(l m:List Iv) (i:Nat),i<l.length->(gj l m).getD i (0,0)=kQ (l.getD i (0,0)) (m.getD i (0,0))
 |[],_,i,h=>absurd h (apg _)
 |x::l,m,0,h=>by cases m<;>rfl
 |x::l,m,i+1,h=>by
  have:=ni l m.tail i (by simpa using h)
  cases m with
  |nil=>simpa [gj] using this
  |cons y m=>simpa [gj] using this
theorem ns{n:Nat}:∀(ls:List (List Iv)) (h:List Iv),wl n h->wl n (ls.foldl gj h)
 |[],h,hh=>hh
 |l::ls,h,hh=>ns ls _ (kF hh.1 l)
theorem nZ(sto:Nat->Bool)(p:Int):∀(i:Nat) (l m:List Iv),(iL sto p i l m).length=l.length
 |_,[],_=>rfl
 |i,x::l,m=>by simp[iL,nZ sto p (i+1) l m.tail]
theorem lP:iJ (0,4294967295):=⟨ag,ag,ag⟩
theorem u4(sto:Nat->Bool)(p:Int):∀(i:Nat) (l m:List Iv),(∀x ∈ l,iJ x)->∀x ∈ iL sto p i l m,iJ x
 |_,[],_,_,x,h=>by cases h
 |i,y::l,m,hl,x,h=>by
  rcases apv.1 h with rfl|h
  ·split
   ·exact B7
   ·split
    ·exact lP
    ·exact hl y (aps ..)
  ·exact u4 sto p (i+1) l m.tail (λx hx=>hl x (apx _ hx)) x h
theorem lY{l:List Iv}(h:wl n l)(sto:Nat->Bool)(p:Int)(i:Nat)(m:List Iv):wl n (iL sto p i l m):=⟨(nZ sto p i l m).trans h.1,u4 sto p i l m h.2⟩
theorem lX(sto:Nat->Bool)(p:Int):∀(k:Nat) (l m:List Iv) (i:Nat),i<l.length->(iL sto p k l m).getD i (0,0)=if p<3 then kX (l.getD i (0,0)) (kQ (l.getD i (0,0)) (m.getD i (0,0))) else if sto (k+i)=true then(0,4294967295) else l.getD i (0,0)
 |_,[],_,i,h=>absurd h (apg _)
 |k,x::l,m,0,h=>by cases m<;>rfl
 |k,x::l,m,i+1,h=>by
  have:=lX sto p (k+1) l m.tail i (by simpa using h)
  rw[show k+1+i=k+(i+1) by omega] at this
  cases m with
  |nil=>simpa [iL] using this
  |cons y m=>simpa [iL] using this
theorem sH{n:Nat}:∀{l m:List Iv},l.length=m.length->(∀i,i<l.length->jp (l.getD i (0,0)) (m.getD i (0,0))=true)->ib l m=true
 |[],[],_,_=>rfl
 |[],_::_,h,_=>by simp at h
 |_::_,[],h,_=>by simp at h
 |x::l,y::m,h,hw=>by
  have h0:jp x y=true:=hw 0 ae;rw[ib,h0,Bool.true_and];exact sH (n:=n) (by simpa using h) λi hi=>hw (i+1) (by simpa using hi)
theorem qi(cs:am)(i:Nat):∀(p n:Nat),stoF cs p n i=true↔∃k,p<=k/\k<p+n/\cs.getD k (0,0)=(2,(i:Int))
 |p,0=>by
  constructor
  ·intro h;cases h
  ·rintro ⟨k,h1,h2,_⟩;omega
 |p,n+1=>by
  rw[stoF,ap5,decide_eq_true_eq,qi cs i (p+1) n];constructor
  ·rintro (h|⟨k,h1,h2,h3⟩)
   ·exact⟨p,bL _,aa,h⟩
   ·exact⟨k,aa,aa,h3⟩
  ·rintro ⟨k,h1,h2,h3⟩;by_cases e:k=p
   ·subst e;exact .inl h3
   ·exact .inr ⟨k,aa,aa,h3⟩
theorem je{cs:am}{i a a' n':Nat}(h:stoF cs a n i=false)(h1:a<=a')(h2:a'+n'<=a+n):stoF cs a' n' i=false:=by
 rw[<-Bool.not_eq_true] at h ⊢;intro hh;obtain⟨k,k1,k2,k3⟩:=(qi cs i a' n').1 hh;exact h ((qi cs i a n).2 ⟨k,aa,aa,k3⟩)
/-! ### pops and pushes-/
theorem Lk{base:Nat}{ty:List UInt8}(h:jS p base ty S= .ok (l,S1)):base+ty.length<=S.st.length/\l=S.st.drop (S.st.length-ty.length)/\S1={S with st:=S.st.take (S.st.length-ty.length)}/\l7 l ty=true:=by
 unfold jS at h;split at h
 ·cases h
 ·rename_i h1;split at h
  ·rename_i h2;cases h;exact⟨aa,rfl,rfl,h2⟩
  ·cases h
theorem iq{base:Nat}{ty:List UInt8}(h:jS p base ty S= .ok (l,S1))(hS:WF n S):WF n S1/\(∀v ∈ l,iJ v.2)/\S1.loc=S.loc/\S1.lv=S.lv/\S1.lp=S.lp:=by
 obtain⟨h1,rfl,rfl,_⟩:=Lk h;exact⟨⟨hS.loc,λv hv=>hS.st v (List.mem_of_mem_take hv),hS.lv⟩,λv hv=>hS.st v (List.mem_of_mem_drop hv),rfl,rfl,rfl⟩
theorem D2(h:gH p l S= .ok S1):(S.st++l).length<=32/\S1={S with st:=S.st++l,ht:=fA S.ht ((S.st++l).length:Nat)}:=by
 unfold gH at h;split at h
 ·rename_i h1;cases h;exact⟨h1,rfl⟩
 ·cases h
theorem D1(h:gH p l S= .ok S1)(hS:WF n S)(hl:∀v ∈ l,iJ v.2):WF n S1/\S1.loc=S.loc/\S1.lv=S.lv/\S1.lp=S.lp:=by
 obtain⟨_,rfl⟩:=D2 h;exact⟨⟨hS.loc,λv hv=>by rcases apS.1 hv with h|h;exact hS.st v h;exact hl v h,hS.lv⟩,rfl,rfl,rfl⟩
theorem Du{b b':Bd}{r:Except Er WS}(h:hD b r= .ok (S,b')):r= .ok S/\b'=b:=by
 cases r with
 |error e=>cases h
 |ok S'=>cases h;exact⟨rfl,rfl⟩
theorem FO{la:ao}{arg:Int}{v:Vl}(h:jA la arg p v= .ok x):iJ x:=by
 unfold jA at h;split at h
 ·cases h;split
  ·exact lP
  ·exact⟨ag,ag,ag⟩
 ·cases h
theorem nJ(x:Int):0<=IntKind.u32.wrap x/\IntKind.u32.wrap x<=4294967295:=by
 rw[IntKind.wrap_u32];omega
theorem AD{n:Int}(h:0<=n/\n<=4294967295):n<=iU n/\iU n<=4294967295:=by
 unfold iU;split
 ·omega
 ·rename_i h0;obtain⟨k,rfl⟩:=Int.eq_ofNat_of_zero_le h.1;have hk:k≠0:=aa;have h1:k<2^(Nat.log2 k+1):=Nat.lt_log2_self;have h2:2^Nat.log2 k<=k:=Nat.log2_self_le hk;have h3:Nat.log2 k<32:=(Nat.log2_lt hk).2 aa;have h4:2^(Nat.log2 k+1)<=2^32:=aqi ag aa;have e:((2:Int)^(Nat.log2 (Int.toNat (k:Int))+1))=((2^(Nat.log2 k+1):Nat):Int):=ae;rw[e];omega
theorem nW(ha:0<=a)(hb:0<=b):0<=a / b/\a / b<=a:=⟨apW ha hb,apZ _ ha⟩
theorem qg(k:Nat):(0:Int)<2^k:=by
 have:(0:Int)<2:=ag;exact Int.pow_pos this
theorem xA(h:8<=op/\op<=20):op=8\/op=9\/op=10\/op=11\/op=12\/op=13\/op=14\/op=15\/op=16\/op=17\/op=18\/op=19\/op=20:=aa
theorem pk(h:8<=op/\op<=20)(ha:0<=a/\a<=4294967295)(hb:0<=b/\b<=4294967295)(hz:b=0->op≠11/\op≠12):0<=ic op a b/\ic op a b<=4294967295:=by
 have hd:=nW ha.1 hb.1;have hd2:=nW ha.1 (Int.le_of_lt (qg (b%32).toNat));rcases xA h with rfl|rfl|rfl|rfl|rfl|rfl|rfl|rfl|rfl|rfl|rfl|rfl|rfl
 all_goals simp(config:={decide:=true}) only[ic,if_true,if_false]
 ·exact nJ _
 ·exact nJ _
 ·exact nJ _
 ·omega
 ·have h1:=Int.emod_nonneg a (show b≠0 from λh0=>(hz h0).2 rfl);have h2:=aqj a (show 0<b from by have:=λh0=>(hz h0).2 rfl;omega)
  omega
 ·exact nJ _
 ·exact nJ _
 ·exact nJ _
 ·exact nJ _
 ·omega
 ·unfold jT;split<;>omega
 ·unfold fA;split<;>omega
 ·exact nJ _
theorem Ep{c d:Int}(h0:0<=a)(h1:a<=b)(h2:0<=c)(h3:c<=d):0<=a*c/\a*c<=b*d:=⟨apY h0 h2,Int.mul_le_mul h1 h3 h2 aa⟩
theorem wS{l h:Int}(h1: -4294967296<=l)(h2:l<=h)(h3:h<=8589934590):iJ (iP l h):=by
 unfold iP
 repeat' split
 all_goals first|exact lP|(refine⟨?_,?_,?_⟩<;>dsimp only<;>omega)
theorem tM{c d:Int}(h0:0<=a)(h1:a<=b)(hc:0<c)(h2:c<=d):0<=a / d/\a / d<=b / c/\b / c<=b:=by
 refine⟨apW h0 aa,?_,apZ _ aa⟩;have e1:a / d*c<=a / d*d:=Int.mul_le_mul_of_nonneg_left h2 (apW h0 aa);have e2:a / d*d<=a:=Int.ediv_mul_le a aa;exact(Int.le_ediv_iff_mul_le hc).2 aa
theorem B1{a b:Nat}(h:a<=b):(2:Int)^a<=2^b:=by
 have:=aqi (show 0<2 by decide) h
 have e:∀k:Nat,((2:Int)^k)=((2^k:Nat):Int):=λk=>by simp
 rw[e,e];omega
theorem Ld{y:Iv}(h:8<=op/\op<=20)(hx:iJ x)(hy:iJ y)(hz:y.1=0->op≠11/\op≠12):iJ (gg op x y):=by
 obtain⟨a,b⟩:=x;obtain⟨c,d⟩:=y;obtain⟨x1,x2,x3⟩:=hx;obtain⟨y1,y2,y3⟩:=hy;dsimp only at x1 x2 x3 y1 y2 y3 hz;have hone:=AD (n:=fA b d) (by unfold fA;split<;>omega)
 rcases xA h with rfl|rfl|rfl|rfl|rfl|rfl|rfl|rfl|rfl|rfl|rfl|rfl|rfl
 all_goals simp(config:={decide:=true}) only[gg,if_true,if_false]
 ·exact wS aa aa aa
 ·exact wS aa aa aa
 ·split
  ·exact lP
  ·rename_i hq;have h1:=Ep x1 x2 y1 y2;refine⟨h1.1,h1.2,?_⟩;by_cases hd:0<d
   ·exact Int.mul_le_of_le_ediv hd (show b<=4294967295 / d by omega)
   ·obtain rfl:d=0:=aa;show b*0<=_;rw[Int.mul_zero];decide
 ·have h1:=tM x1 x2 (show 0<c from by have:=λh0=>(hz h0).1 rfl;omega) y2
  exact⟨h1.1,h1.2.1,by show b / c<=_;omega⟩
 ·have hc:0<c:=by have:=λh0=>(hz h0).2 rfl;omega
  unfold jT;split
  ·exact⟨x1,x2,x3⟩
  ·refine⟨?_,?_,?_⟩<;>dsimp only<;>(repeat' split)<;>omega
 ·exact eD
 ·unfold fA at*;refine⟨?_,?_,?_⟩<;>dsimp only
  ·split<;>omega
  ·have:=hone.1;split at this<;>split<;>omega
  ·exact hone.2
 ·exact⟨apH _,by have:=hone.1;dsimp only;unfold fA at*;split at this<;>omega,hone.2⟩
 ·split
  ·exact lP
  ·rename_i hq;have hp:=qg (c%32).toNat;have h1:=Ep x1 x2 (Int.le_of_lt hp) (apH (2^(c%32).toNat));exact⟨h1.1,h1.2,Int.mul_le_of_le_ediv hp (show b<=4294967295 / 2^(c%32).toNat by omega)⟩
 ·split
  ·have h1:=tM (c:=2^c.toNat) (d:=2^d.toNat) x1 x2 (qg _) (B1 aa);exact⟨h1.1,h1.2.1,by show b / 2^c.toNat<=_;omega⟩
  ·split
   ·have h1:=tM (c:=2^(c%32).toNat) (d:=2^(c%32).toNat) x1 x2 (qg _) (apH _);exact⟨h1.1,h1.2.1,by show b / 2^(c%32).toNat<=_;omega⟩
   ·exact⟨apH _,by dsimp only;omega,x3⟩
 ·exact eD
 ·unfold fA;refine⟨?_,?_,?_⟩<;>dsimp only<;>(repeat' split)<;>omega
theorem C9{y:Iv}(h:8<=op/\op<=20)(hx:iJ x)(hy:iJ y)(he:(fZ op x y).2=0):iJ (fZ op x y).1:=by
 unfold fZ at he ⊢;split
 ·rename_i h1;rw[if_pos h1] at he;exact absurd he ag
 ·rename_i h1;have hz:y.1=0->op≠11/\op≠12:=λh0=>⟨λe=>h1 ⟨h0,.inl e⟩,λe=>h1 ⟨h0,.inr e⟩⟩;split
  ·have:=pk h (a:=x.1) (b:=y.1) (by have:=hx.2;omega) (by have:=hy.2;omega) hz
   exact⟨this.1,apH _,this.2⟩
  ·exact Ld h hx hy hz
end
abbrev l5:=Int×Int×AV
def tw:l5:=(0,0,.ow)
theorem uW:AV.ow.cells=[.ow]:=rfl
theorem AJ:AV.ow.one=true:=rfl
def abd(a:AV):Prop:=a= .ow\/∃n r,a= .fs 2 n r
def Gr(l:List l5):Prop:=∀x ∈ l,abd x.2.2
def vI(l:List l5)(i j:Nat):AV:=if j=0 then aq (l.getD i tw).1 else if j=1 then aq (l.getD i tw).2.1 else(l.getD i tw).2.2
theorem vI0(l:List l5)(i:Nat):vI l i 0= aq (l.getD i tw).1:=rfl
theorem vI1(l:List l5)(i:Nat):vI l i 1= aq (l.getD i tw).2.1:=rfl
def vu(s e h:Int)(l:List l5):AV:= .agg [aq s,aq e,aq h,.fs 3 l.length (vI l)]
def gQ:List l5->Int->Int
 |[],_=>0
 |x::l,a=>if x.1=a then x.2.1 else gQ l a
def om(cs:am)(r:Nat):AV:= .agg [.fs 2 cs.length (pI cs),.cv (.map (some r))]
theorem zU(cs:am)(r a b:Nat)(hab:a<=b)(hb:b<=100000):gw av 36 [om cs r,aq a,aq b] [.v (aq ((b-a:Nat):Int))]:=by
 refine fe fx afc ⟨ae,ag⟩ ?_;simp only[fy,om];have w:IntKind.i64.wrap ((b:Int)-a)=((b-a:Nat):Int):=(ff aa).trans aa;refine du w ?_;exact dU
def pD(cs:am)(a:Nat):Nat->Nat
 |0=>0
 |n+1=>pD cs a n+if fm cs (a+n)=34 then 1 else 0
theorem yg(cs:am)(a:Nat):∀n,pD cs a n<=n
 |0=>bL _
 |n+1=>by
  have:=yg cs a n;rw[pD];split<;>omega
def Gy:Fo->Prop
 |.nil=>True
 |.pl x y r=>x<=y/\y<=100000/\Gy r
 |.br op x y u v r=>(op=27\/op=29)/\Gy u/\Gy v/\Gy r
theorem fM.okf{cs:am}{out:List Int}:∀{o:Fo} {a b:Nat},fM cs out o a b->b<=100000->Gy o
 |.nil,_,_,_,_=>trivial
 |.pl x y r,a,b,h,hb=>by
  obtain⟨h0,h1,_,_,h4⟩:=h;have:=h4.le;exact⟨aa,aa,h4.okf hb⟩
 |.br op x y u v r,a,b,h,hb=>by
  obtain⟨_,_,h2,⟨m,_,g2,g3,g4,g5⟩,h4⟩:=h;refine⟨h2,g4.okf aa,?_,h4.okf hb⟩;rcases g5 with⟨_,e,_,_,q3,q4,_⟩|⟨_,q1,_⟩
  ·exact q4.okf aa
  ·rw[q1];trivial
def ga(li:List l5):Fo->Int->Int
 |.nil,n=>n
 |.pl x y r,n=>ga li r (gi (n+(y-x)))
 |.br op x y u v r,n=>ga li r (if op=27 then gi (n+1+(if ga li u 0<ga li v 0 then ga li v 0 else ga li u 0)) else gi (n+1+fN (gi (ga li u 0+1)) (gQ li x)))
theorem iM{li:List l5}(hm:∀a,0<=gQ li a):∀(o:Fo) (n:Int),Gy o->0<=n/\n<=281474976710657->0<=ga li o n/\ga li o n<=281474976710657
 |.nil,n,_,h=>h
 |.pl x y r,n,ho,h=>iM hm r _ ho.2.2 (fH (by have:=ho.1;omega))
 |.br op x y u v r,n,ho,h=>by
  have hu:=iM hm u 0 ho.2.1 aa;have hv:=iM hm v 0 ho.2.2.1 aa;refine iM hm r _ ho.2.2.2 ?_;split
  ·refine fH ?_;split<;>omega
  ·refine fH ?_;have:=(hJ (fH (n:=ga li u 0+1) aa).1 (hm x)).1;omega
theorem Fo.len_le_size:∀o:Fo,o.len<=o.size
 |.nil=>bL _
 |.pl x y r=>by have:=Fo.len_le_size r;simp only[Fo.len,Fo.size];omega
 |.br op x y u v r=>by have:=Fo.len_le_size r;simp only[Fo.len,Fo.size];omega
theorem fM.size{cs:am}{out:List Int}:∀{o:Fo} {a b:Nat},fM cs out o a b->a+o.size<=b
 |.nil,a,b,h=>by cases h;exact bL _
 |.pl x y r,a,b,h=>by
  obtain⟨_,h1,_,_,h2⟩:=h;have:=h2.size;simp only[Fo.size];omega
 |.br op x y u v r,a,b,h=>by
  obtain⟨_,_,_,⟨m,_,h1,_,h4,h2⟩,h3⟩:=h;have e1:=h3.size;have e2:=h4.size;simp only[Fo.size];rcases h2 with⟨_,e,_,q2,_,q4,h5⟩|⟨_,q1,h5⟩
  ·have e3:=q4.size;omega
  ·rw[q1];simp only[Fo.size];omega
def iw(li:List l5)(pl:Nat->Nat->Int)(own:Int):Fo->Int->Int
 |.nil,n=>n
 |.pl x y r,n=>iw li pl own r (gi (n+pl x y))
 |.br op x y u v r,n=>iw li pl own r (gi (n+(if op=27 then gi (own+(if iw li pl own u 0<iw li pl own v 0 then iw li pl own v 0 else iw li pl own u 0)) else gi (own+fN (gi (own+iw li pl own u 0)) (gQ li x)))))
theorem jM{a b:Int}(h:0<=a):gi (a+gi b)=gi (a+b):=by
 unfold gi;split<;>split<;>(try split)<;>omega
theorem kw{li:List l5}(hm:∀a,0<=gQ li a):∀(o:Fo) (n:Int),Gy o->0<=n/\n<=281474976710657->iw li (λx y=>(y:Int)-x) 1 o n=ga li o n
 |.nil,n,_,_=>rfl
 |.pl x y r,n,ho,h=>by
  rw[iw,ga];exact kw hm r _ ho.2.2 (fH (by have:=ho.1;omega))
 |.br op x y u v r,n,ho,h=>by
  have hu:=iM hm u 0 ho.2.1 aa;have hv:=iM hm v 0 ho.2.2.1 aa;rw[iw,ga,kw hm u 0 ho.2.1 aa,kw hm v 0 ho.2.2.1 aa];by_cases e:op=27
  ·rw[if_pos e,if_pos e,jM h.1,<-Int.add_assoc];refine kw hm r _ ho.2.2.2 (fH ?_);split<;>omega
  ·rw[if_neg e,if_neg e,jM h.1,<-Int.add_assoc,Int.add_comm 1 (ga li u 0)];refine kw hm r _ ho.2.2.2 (fH ?_);have:=(hJ (fH (n:=ga li u 0+1) aa).1 (hm x)).1;omega
def gZ(cs:am)(li:List l5):Fo->Int->Int
 |.nil,n=>n
 |.pl x y r,n=>gZ cs li r (gi (n+(pD cs x (y-x):Nat)))
 |.br op x y u v r,n=>gZ cs li r (if op=27 then gi (n+(if gZ cs li u 0<gZ cs li v 0 then gZ cs li v 0 else gZ cs li u 0)) else gi (n+fN (gZ cs li u 0) (gQ li x)))
theorem jk{cs:am}{li:List l5}(hm:∀a,0<=gQ li a):∀(o:Fo) (n:Int),0<=n/\n<=281474976710657->0<=gZ cs li o n/\gZ cs li o n<=281474976710657
 |.nil,n,h=>h
 |.pl x y r,n,h=>jk hm r _ (fH aa)
 |.br op x y u v r,n,h=>by
  have hu:=jk (cs:=cs) hm u 0 aa;have hv:=jk (cs:=cs) hm v 0 aa;refine jk hm r _ ?_;split
  ·refine fH ?_;split<;>omega
  ·refine fH ?_;have:=(hJ hu.1 (hm x)).1;omega
theorem Bg{n:Int}(h:n<=281474976710657):gi n=n:=by unfold gi;split<;>omega
theorem tf:∀{li:List l5},(∀x ∈ li,0<=x.2.1/\x.2.1<=65536)->∀a,0<=gQ li a/\gQ li a<=65536
 |[],_,a=>⟨apH _,(by decide:(0:Int)<=65536)⟩
 |x::l,h,a=>by
  unfold gQ;split
  ·exact h x (aps ..)
  ·exact tf (λy hy=>h y (apx _ hy)) a
def vx(ls:List Int)(li:List l5):Int:=if ls.length=li.length/\(li.map λx=>x.1)=ls then(if ∀x ∈ li,0<=x.2.1/\x.2.1<=65536 then 0 else 2) else 23
def yF(cs:am):Fo->Prop
 |.nil=>True
 |.pl x y r=>x<=y/\y<=cs.length/\yF cs r
 |.br op x y u v r=>(op=27\/op=29)/\yF cs u/\yF cs v/\yF cs r
theorem fM.oke{cs:am}{out:List Int}:∀{o:Fo} {a b:Nat},fM cs out o a b->b<=cs.length->yF cs o
 |.nil,_,_,_,_=>trivial
 |.pl x y r,a,b,h,hb=>by
  obtain⟨h0,h1,_,_,h4⟩:=h;have:=h4.le;exact⟨aa,aa,h4.oke hb⟩
 |.br op x y u v r,a,b,h,hb=>by
  obtain⟨_,_,h2,⟨m,_,g2,g3,g4,g5⟩,h4⟩:=h;refine⟨h2,g4.oke aa,?_,h4.oke hb⟩;rcases g5 with⟨_,e,_,_,q3,q4,_⟩|⟨_,q1,_⟩
  ·exact q4.oke aa
  ·rw[q1];trivial
end Go.Proofs.YtdpkgnmmikebdaaGreat