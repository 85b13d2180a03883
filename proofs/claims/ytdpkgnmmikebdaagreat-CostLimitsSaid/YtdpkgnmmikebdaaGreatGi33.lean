/- A part of the proof of CostLimits. No condition. -/
import Derived.Test.YtdpkgnmmikebdaaGreatGi25
import Derived.Test.YtdpkgnmmikebdaaGreatGi32
import Derived.Test.YtdpkgnmmikebdaaGreatGi15
import Derived.Test.YtdpkgnmmikebdaaGreatGip
set_option linter.unusedSimpArgs false
set_option linter.unusedVariables false
set_option linter.constructorNameAsVariable false
set_option maxRecDepth 100000
set_option maxHeartbeats 4000000
namespace Go.Proofs.YtdpkgnmmikebdaaGreat
open Go.RowKit
def kn(cs:am):List Int×Int:=if 1024<cs.length then([],6) else match jH cs with
 |.ok (_,pt)=>(pt,0)
 |.error _=>([],15)
def qR(cs:am)(φ:Fz)(w:World)(e:Ending)(w':World):Prop:=∃(v:Value) (φ':Fz),e= .returned (.tuple #[v,.int .i64 (kn cs).2])/\
 VR (Sg.data φ') (.fs 1 (kn cs).1.length (iC (kn cs).1)) v/\wv φ' w'/\Below w.heap.size w w'/\∀c,c<w.heap.size->φ' c=φ c
def yJ(w:World):World:=(w.alloc (Obj.cells #[.int .i64 0] 30)).alloc (Obj.cells #[.int .i64 0] 3)
theorem wF(w:World):(yJ w).heap.size=w.heap.size+2:=by simp[yJ]
theorem ML(w:World):(yJ w).heap[w.heap.size]? =some (.cells #[.int .i64 0] 30 (0,0)):=by
 rw[yJ,Below.heap_alloc _ _ _ ae];exact sA w _
theorem amY(w:World):(yJ w).heap[w.heap.size+1]? =some (.cells #[.int .i64 0] 3 (0,0)):=by
 have:=sA (w.alloc (Obj.cells #[.int .i64 0] 30)) (Obj.cells #[.int .i64 0] 3);simpa [yJ] using this
theorem Ad(w:World):Below w.heap.size w (yJ w):=((Below.refl _ _).alloc ae _).alloc ae _
theorem rP{cs:am}{φ:Fz}{w w2:World}{a n:Int}(hφ:wv φ w)(hb:Below (yJ w).heap.size (yJ w) w2)(hp:kn cs=([],n))(tm:Array Value)(h2:tm[2]? =some (.slice none 0 0))(h3:tm[3]? =some (.pointer (some ⟨w.heap.size,0,none⟩))):
  Leaves av Tryz.f52 tm (qR cs φ w) [{target:= .fn (.func 82) #[],args:= #[.pointer (some ⟨w.heap.size+1,0,none⟩),.pointer (some ⟨w.heap.size,0,none⟩)]}] (.panicking (mN a n)) w2:=by
 have hz:=wF w;have q1:w2.heap[w.heap.size]? =some (.cells #[.int .i64 0] 30 (0,0)):=by rw[hb.block _ aa];exact ML w
 have q2:w2.heap[w.heap.size+1]? =some (.cells #[.int .i64 0] 3 (0,0)):=by rw[hb.block _ aa];exact amY w
 refine leaves_cons (f:=82) (args:= #[.pointer (some ⟨w.heap.size+1,0,none⟩),.pointer (some ⟨w.heap.size,0,none⟩)]) ae (by simp[go_sem]) ?_
 refine(mV (w.heap.size+1) w.heap.size 0 0 a n [] w2 q2 q1 aa aa).mono ?_;rintro e u' w3 ⟨rfl,rfl,b1,b2,b3,ho3,ht3,hp3,hs3⟩;have hsz:=hb.size;have hB:=Ad w;have y2:w3.cell? ⟨w.heap.size,0,none⟩=some (.int .i64 n):=by simp[World.cell?,b2]
 have hbl:∀k,k<w.heap.size->w3.heap[k]? =w.heap[k]? :=λk hk=>by rw[b3 k aa aa aa,hb.block k aa,hB.block k hk]
 have hfin:qR cs φ w (.returned (.tuple #[.slice none 0 0,.int .i64 n])) w3:=by
  refine⟨.slice none 0 0,φ,by rw[hp],by rw[hp];exact .fs0 _ _ _ _,pg hφ hbl,⟨ho3.trans (hb.os.trans hB.os),ht3.trans (hb.tape.trans hB.tape),hp3.trans (hb.output.trans hB.output),aa,hbl⟩,λ_ _=>rfl⟩
 have H:=ou.mk hfin;clear hfin;simp[Leaves,settle,results,Tryz.results52,go_sem,y2,h2,h3];exact H.out
theorem D6(cs:am)(φ:Fz)(w:World)(u:Value)(hφ:wv φ w)(hu:VR (Sg.data φ) (.fs 2 cs.length (pI cs)) u):Calls av 52 #[u] w (qR cs φ w):=by
 have HU:=ou.mk hu;have HF:=ou.mk hφ;clear hu hφ
 go_enter_defers Tryz.func52,Tryz.ntmps52
 go_wp2_with fail
 show Calls _ _ _ (yJ w) _;have hz:=wF w;have hB:=Ad w;refine((yw cs).2 (yJ w).heap.size (Sg.data φ) (yJ w) #[u] (HR.empty (yJ w) (pg HF.out λk hk=>hB.block k hk)) ⟨rfl,λi v hv=>?_⟩).mono ?_
 ·cases i with
  |zero=>cases hv;exact HU.out
  |succ i=>simp at hv
 rintro e w2 hp;cases e with
 |outgrown=>exact hp.elim
 |panicked c=>
  obtain⟨H',σ',⟨hlong,rfl⟩,hHR,hA⟩:=hp;exact rP HF.out hA.bel (by rw[kn,if_pos hlong]) _ rfl rfl
 |returned v=>
  obtain⟨v',H1,σ1,⟨hle,rfl,rfl⟩,hv,hHR1,hA1⟩:=hp;cases hv with
  |@p _ _ _ c0 oc hs=>
  have H1:=ou.mk hHR1;have H2:=ou.mk hA1;have H3:=ou.mk hs;have H4:=ou.mk hB;clear hHR1 hA1 hs hB
  go_wp2_with fail
  refine((wD cs hle _ rfl).2 (yJ w).heap.size σ1 w2 _ H1.out ⟨rfl,λi v hv=>?_⟩).mono ?_
  ·cases i with
   |zero=>cases hv;exact .p H3.out
   |succ i=>simp at hv
  rintro e w3 hp;have hb2:=H2.out.bel;cases e with
  |outgrown=>exact hp.elim
  |panicked c=>
   obtain⟨H',σ',⟨x,hx,rfl⟩,hHR,hA⟩:=hp;exact rP HF.out (hb2.trans hA.bel) (by rw[kn,if_neg aa,hx]) _ rfl rfl
  |returned v2=>
   obtain⟨v',H',σ2,⟨o,pt,hrd,rfl,rfl⟩,hv2,hHR2,hA2⟩:=hp;have hs2:=hA2.kp 0 _ rfl H3.out;obtain⟨cs0,t1,t2,t3⟩:=hHR2.blk 0 _ _ _ ai hs2;have t4:=t3.cell 2 (by show 2<3;decide)
   have t5:=t3.sz;obtain⟨u3,hu3⟩:∃u3,cs0.getD 2 undef=u3:=⟨_,rfl⟩;rw[hu3] at t4;have hg:(eZ 0 173 [.fs 2 cs.length (pI cs),aq cs.length,.os 1 pt.length]).get 2= .os 1 pt.length:=ah;rw[hg] at t4;obtain⟨σ3,m1,m2,m3,m4,m5,m6,m7⟩:=hHR2.marks [1];have hd:VR σ3.bare (.fs 1 pt.length (iC pt)) u3:=(Cv.ownb (ty:=3) (z:=0) (M:=[1]) ah (λi j _ _=>rfl) ae:Cv [1] (fi [fg 3 1 pt.length 0 (iC pt),eZ 0 173 [.fs 2 cs.length (pI cs),aq cs.length,.os 1 pt.length]]) (.os 1 pt.length) (.fs 1 pt.length (iC pt))).ok hHR2 m1 m2 m7 t4;have z2:w3.cell? ⟨c0,2,none⟩=some u3:=by
    have hlt:2<cs0.size:=by have:3<=cs0.size:=t5;omega
    simp[World.cell?,t2,<-hu3,hlt,Array.getD]
   have hb3:=hb2.trans hA2.bel;have q1:w3.heap[w.heap.size]? =some (.cells #[.int .i64 0] 30 (0,0)):=by rw[hb3.block _ aa];exact ML w
   have z0:w3.cell? ⟨w.heap.size,0,none⟩=some (.int .i64 0):=by simp[World.cell?,q1]
   have f0:w3.frozen? ⟨w.heap.size,0,none⟩=false:=by simp[World.frozen?,q1]
   have hpf:kn cs=(pt,0):=by rw[kn,if_neg aa,hrd]
   have hfz:∀c,c<(yJ w).heap.size->σ3.fz c=φ c:=λc hc=>(m4.eq c hc).trans ((hA2.fzb.eq c hc).trans (H2.out.fzb.eq c hc));have G1:=ou.mk m6;have G2:=ou.mk hfz;have G3:=ou.mk hd;have G4:=ou.mk hb3;have G5:=ou.mk q1;clear hHR2 hA2 hv2 hb3 hb2 q1 t1 t2 t3 t4 t5 m1 m2 m3 m4 m5 m6 m7 hd hfz hs2 hg hu3
   go_wp2
   have y1:(w3.setCell ⟨w.heap.size,0,none⟩ (.int .i64 0)).cell? ⟨w.heap.size,0,none⟩=some (.int .i64 0):=by
    simp[World.cell?,World.setCell,apN,G5.out]
   have hd:∀k,k≠w.heap.size->(w3.setCell ⟨w.heap.size,0,none⟩ (.int .i64 0)).heap[k]? =w3.heap[k]? :=λk h1=>by
    rw[Below.heap_setCell _ _ _ _ (show k≠(⟨w.heap.size,0,none⟩:Addr).block from h1)]
   have hnb:∀c fs,σ3.fz c=some fs->c≠w.heap.size:=λc fs hf=>by
    by_cases hc:c<(yJ w).heap.size
    ·rw[G2.out c hc] at hf;obtain⟨cs',t,fr,e1,_⟩:=HF.out c fs hf;have:=(apo.1 e1).1;omega
    ·omega
   have hfin:qR cs φ w (.returned (.tuple #[u3,.int .i64 0])) (w3.setCell ⟨w.heap.size,0,none⟩ (.int .i64 0)):=by
    refine⟨u3,σ3.fz,by rw[hpf],by rw[hpf];exact G3.out,λc fs hf=>?_,((H4.out.trans (G4.out.mono aa)).setCell (bL _) _),λc hc=>G2.out c aa⟩
    obtain⟨cs',t,fr,e1,e2,_⟩:=G1.out.frz c fs hf;exact⟨cs',t,fr,by rw[hd c (hnb c fs hf)];exact e1,e2⟩
   refine leaves_cons (f:=82) (args:= #[.pointer (some ⟨w.heap.size+1,0,none⟩),.pointer (some ⟨w.heap.size,0,none⟩)]) ae (by simp[go_sem]) ?_
   refine(rK (w.heap.size+1) w.heap.size _).mono ?_;rintro e u' w'' ⟨rfl,rfl,rfl⟩;have HH:=ou.mk hfin;clear hfin hd hnb;refine⟨.tuple #[u3,.int .i64 0],?_,HH.out⟩;simp[results,Tryz.results52,go_sem,y1]
theorem D7(cs:am):gw av 52 [.fs 2 cs.length (pI cs)] [.v (.fs 1 (kn cs).1.length (iC (kn cs).1)),.v (aq (kn cs).2)]:=by
 refine⟨⟨_,Tryz.func52,by kernel_rfl,rfl⟩,λφ w args' hφ ha=>?_⟩
 obtain⟨u,rfl,hu⟩:∃u,args'= #[u]/\VR (Sg.data φ) (.fs 2 cs.length (pI cs)) u:=by
  obtain⟨l⟩:=args';obtain⟨h1,h2⟩:=ha
  match l,h1 with
  |[x],_=>exact⟨x,rfl,h2 0 _ rfl⟩
 refine(D6 cs φ w u hφ hu).mono λe w' hp=>?_;obtain⟨v,φ',rfl,hv,hin,hb,hfz⟩:=hp;refine⟨.tup [.fs 1 (kn cs).1.length (iC (kn cs).1),aq (kn cs).2],⟨.nil,0,2^40,λ_=>none,[]⟩,Sg.data φ',⟨[.fs 1 (kn cs).1.length (iC (kn cs).1),aq (kn cs).2],rfl,⟨rfl,rfl⟩,⟨rfl,rfl⟩,trivial⟩,?_,HR.emptyAt w' hb.size hin,hb,hfz⟩;exact(gn.nil.cons (.n _ _)).cons hv |>.tup
end Go.Proofs.YtdpkgnmmikebdaaGreat