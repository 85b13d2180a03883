/- A part of the proof of AllocateNeeds: LaA LaB. No condition. -/
import Derived.Test.YteopfmnnhlhbmaaHn50
import Derived.Test.YteopfmnnhlhbmaaHn45
set_option linter.unusedSimpArgs false
set_option linter.unusedVariables false
set_option linter.constructorNameAsVariable false
set_option maxRecDepth 100000
set_option maxHeartbeats 4000000
namespace Go.Proofs.Yteopfmnnhlhbmaa
open Go.ChangeShapes Go.WideShapes Go.ChangeAt Go.RowKit Go.Deep Go.Joins
def bS:Value->Int
 |.int _ n=>n
 |_=>0
def lm:Value->Bool
 |.bool b=>b
 |_=>false
theorem Aa{n:Int}(h:(Lit.int .u32 n).wf=true):0<=n/\n<4294967296:=by
 have h2:IntKind.u32.min<=n/\n<=IntKind.u32.max:=by simpa [Lit.wf] using h
 have e1:IntKind.u32.min=0:=by decide
 have e2:IntKind.u32.max=4294967295:=by decide
 omega
theorem nq{H:Type}{enc:TypeId×Value->H}{P:Program}{w:World}{base:Nat}{spare:Nat->Bool}{held:Bool}{t e:TypeId}{fuel:Nat}{cs:List Value}{x:DataW H×List MemPlace}(ht:P.underlying t=some (.slice e))(h:DataW.trod enc P w base spare held fuel t cs=some x)
  {a:Option Addr} {len cap:Nat} (hcs:cs=[.slice a len cap]):len<=cap:=by
 rcases open_slice ht h with⟨rfl,_⟩|⟨a',len',cap',m,n,D,Pl,rfl,hb,hl,_⟩
 ·cases hcs;exact Nat.le_refl _
 ·cases hcs;exact hl
def kc(w:World):Fz:=λc=>match w.heap[c]? with
 |some (.cells cs _ _)=>some cs
 |_=>none
theorem B1(w:World):pE (kc w) w:=λc fs hf=>by
 unfold kc at hf
 split at hf
 ·rename_i cs t fr h
  cases hf
  exact⟨_,_,_,h,fZ.refl _⟩
 ·cases hf
theorem pV{w:World}{a:Option Addr}{n cap esz:Nat}{V:Nat->Nat->Value}{row:Nat->Nat->AV}(h:dG w.heap.size w esz a n V)(h0:0<esz)(hcap:n<=cap)(hc:∀i j,i<n->j<esz->(row i j).cell=true)(hv:∀(σ:Sg) i j,i<n->j<esz->VR σ (row i j) (V i j)):
  VR (Sg.data (kc w)) (.fs esz n row) (.slice a n cap):=by
 cases n with
 |zero=>exact .fs0 _ _ _ _
 |succ n=>
  obtain⟨b,off,rfl,hb,hcell⟩:=h 0 (by omega)
  have hall:∀i j,i<n+1->j<esz->w.cell? ⟨b,off+i*esz+j,none⟩=some (V i j):=λi j hi hj=>by
   obtain⟨b',off',e,_,hcell'⟩:=h i hi
   cases e
   exact hcell' j hj
  cases hh:w.heap[b]? with
  |none=>
   have:=hall 0 0 (by omega) h0
   simp only[World.cell?,hh] at this
   cases this
  |some o=>
   cases o with
   |cells cs t fr=>
    have hget:∀i j,i<n+1->j<esz->cs[off+i*esz+j]? =some (V i j):=λi j hi hj=>by
     have:=hall i j hi hj
     simpa [World.cell?,hh] using this
    have hlast:=hget n (esz-1) (by omega) (by omega)
    have hsz:=(Array.getElem?_eq_some_iff.1 hlast).1
    refine .fs (σ:=Sg.data (kc w)) (c:=b) (off:=off) (cs:=cs) ?_ ?_ hc (λi j hi hj=>?_) _ hcap
    ·show kc w b=some cs
     unfold kc
     rw[hh]
    ·rw[Nat.succ_mul];omega
    ·rw[Array.getD_eq_getD_getElem?,hget i j hi hj]
     exact hv _ i j hi hj
   |_=>
    have:=hall 0 0 (by omega) h0
    simp only[World.cell?,hh] at this
    cases this
theorem gc{α:Type}(d:α)(n i:Nat)(f:Nat->α)(h:i<n):((List.range n).map f).getD i d=f i:=by
 rw[List.getD_eq_getElem?_getD,List.getElem?_map,List.getElem?_range h];rfl
structure x5(n:Nat):Prop where
 le:n<=9223372036854775807
theorem qw{n:Nat}(h:n<=9223372036854775807):x5 n:=⟨h⟩
theorem rT{H:Type}{enc:TypeId×Value->H}{w:World}{base:Nat}{spare:Nat->Bool}{held:Bool}{r:Reach}{b0:Nat}{v:Value}{d:DataW H}{p:List MemPlace}
  (hv:Value.okWide Try.prog w r b0 25 v) (h:DataW.Trod enc Try.prog w base spare held 25 v d p):
  ∃(la:List (Bool×Int)) (regs par:Int) (cs:List In),bw (Sg.data (kc w)) [aP la.length (aC la) regs par cs] [v]/\gV cs/\x5 la.length/\x5 cs.length:=by
 obtain⟨v0,v1,v2,v3,y0,y1,y2,y3,n,rfl,_,_,h0,h1,h2,h3⟩:=open_agg4 (P:=Try.prog) Try.underlying25 (by kernel_rfl) (by kernel_rfl) hv h
 obtain⟨m1,e1,_,w1⟩:=DataW.trod_int (k:= .i64) (by kernel_rfl) h1
 obtain⟨m2,e2,_,w2⟩:=DataW.trod_int (k:= .i64) (by kernel_rfl) h2
 obtain⟨a,len,cap,n0,V,e0,hl,hV,ht⟩:=nH (P:=Try.prog) Try.underlying22 Try.underlying102 (by kernel_rfl) (by kernel_rfl) (by decide) h0
 obtain⟨a',len',cap',n1,V',e3,hl',hV',ht'⟩:=nH (P:=Try.prog) Try.underlying23 Try.underlying60 (by kernel_rfl) (by kernel_rfl) (by decide) h3
 have hc0:=nq Try.underlying22 h0 e0
 have hc3:=nq Try.underlying23 h3 e3
 simp only[List.cons.injEq,and_true] at e0 e1 e2 e3
 subst e0 e1 e2 e3
 replace hV:dG w.heap.size w 2 a len V:=hV
 replace hV':dG w.heap.size w 5 a' len' V':=hV'
 have key0:∀i,i<len->∃b n,V i 0= .bool b/\V i 1= .int .i64 n:=λi hi=>by
  obtain⟨z0,g0⟩:=ht i hi 0 _ rfl
  obtain⟨z1,g1⟩:=ht i hi 1 _ rfl
  obtain⟨b,q0,_⟩:=DataW.trod_bool (by kernel_rfl) g0
  obtain⟨m,q1,_,_⟩:=DataW.trod_int (k:= .i64) (by kernel_rfl) g1
  simp only[List.cons.injEq,and_true] at q0 q1
  exact⟨b,m,q0,q1⟩
 have key3:∀i,i<len'->∃op to x y arg,V' i 0= .int .i64 op/\V' i 1= .int .i64 to/\V' i 2= .int .i64 x/\V' i 3= .int .i64 y/\V' i 4= .int .u32 arg/\0<=arg/\arg<4294967296:=λi hi=>by
  obtain⟨z0,g0⟩:=ht' i hi 0 _ rfl
  obtain⟨z1,g1⟩:=ht' i hi 1 _ rfl
  obtain⟨z2,g2⟩:=ht' i hi 2 _ rfl
  obtain⟨z3,g3⟩:=ht' i hi 3 _ rfl
  obtain⟨z4,g4⟩:=ht' i hi 4 _ rfl
  obtain⟨k0,q0,_,_⟩:=DataW.trod_int (k:= .i64) (by kernel_rfl) g0
  obtain⟨k1,q1,_,_⟩:=DataW.trod_int (k:= .i64) (by kernel_rfl) g1
  obtain⟨k2,q2,_,_⟩:=DataW.trod_int (k:= .i64) (by kernel_rfl) g2
  obtain⟨k3,q3,_,_⟩:=DataW.trod_int (k:= .i64) (by kernel_rfl) g3
  obtain⟨k4,q4,_,w4⟩:=DataW.trod_int (k:= .u32) (by kernel_rfl) g4
  simp only[List.cons.injEq,and_true] at q0 q1 q2 q3 q4
  exact⟨k0,k1,k2,k3,k4,q0,q1,q2,q3,q4,Aa w4⟩
 refine⟨(List.range len).map λi=>(lm (V i 0),bS (V i 1)),m1,m2,(List.range len').map λi=>(bS (V' i 0),bS (V' i 1),bS (V' i 2),bS (V' i 3),bS (V' i 4)),?_,?_,qw (by simpa using hl),qw (by simpa using hl')⟩
 ·refine .cons ?_ .nil
  unfold aP
  have v0:VR (Sg.data (kc w)) (.fs 2 ((List.range len).map λi=>(lm (V i 0),bS (V i 1))).length (aC ((List.range len).map λi=>(lm (V i 0),bS (V i 1))))) (.slice a len cap):=by
   have hlen:((List.range len).map λi=>(lm (V i 0),bS (V i 1))).length=len:=by simp
   have:=pV (row:=aC ((List.range len).map λi=>(lm (V i 0),bS (V i 1)))) hV (by decide) hc0 (λi j hi hj=>Pb i j (by rw[hlen];exact hi) hj) (λσ i j hi hj=>by
    obtain⟨b,n,q0,q1⟩:=key0 i hi
    unfold aC
    rw[gc _ _ _ _ hi]
    have hj2:j=0\/j=1:=by omega
    rcases hj2 with rfl|rfl
    ·rw[q0];exact .b _
    ·rw[q1];exact .n _ _)
   rw[hlen]
   exact this
  have v3:VR (Sg.data (kc w)) (.fs 5 ((List.range len').map λi=>(bS (V' i 0),bS (V' i 1),bS (V' i 2),bS (V' i 3),bS (V' i 4))).length (cC ((List.range len').map λi=>(bS (V' i 0),bS (V' i 1),bS (V' i 2),bS (V' i 3),bS (V' i 4))))) (.slice a' len' cap'):=by
   have hlen:((List.range len').map λi=>(bS (V' i 0),bS (V' i 1),bS (V' i 2),bS (V' i 3),bS (V' i 4))).length=len':=by simp
   have:=pV (row:=cC ((List.range len').map λi=>(bS (V' i 0),bS (V' i 1),bS (V' i 2),bS (V' i 3),bS (V' i 4)))) hV' (by decide) hc3 (λi j hi hj=>cj i hj) (λσ i j hi hj=>by
    obtain⟨op,to,x,y,arg,q0,q1,q2,q3,q4,_⟩:=key3 i hi
    unfold cC
    rw[gc _ _ _ _ hi]
    rcases iL hj with rfl|rfl|rfl|rfl|rfl
    ·rw[q0];exact .n _ _
    ·rw[q1];exact .n _ _
    ·rw[q2];exact .n _ _
    ·rw[q3];exact .n _ _
    ·rw[q4];exact .n _ _)
   rw[hlen]
   exact this
  have hh:=(bw.nil (σ:=Sg.data (kc w))).cons v3 |>.cons (VR.n .i64 m2) |>.cons (VR.n .i64 m1) |>.cons v0
  exact hh.agg
 ·intro x hx
  simp only[List.mem_map,List.mem_range] at hx
  obtain⟨i,hi,rfl⟩:=hx
  obtain⟨op,to,x,y,arg,q0,q1,q2,q3,q4,hr⟩:=key3 i hi
  simp only[q4,bS]
  exact hr
theorem rU{H:Type}{enc:TypeId×Value->H}{w:World}{base:Nat}{spare:Nat->Bool}{held:Bool}{r:Reach}{b0:Nat}{v:Value}{d:DataW H}{p:List MemPlace}
  (hv:Value.okWide Try.prog w r b0 25 v) (h:DataW.Trod enc Try.prog w base spare held 25 v d p):
  ∃(la:List (Bool×Int)) (regs par:Int) (cs:List In),bw (Sg.data (kc w)) [aP la.length (aC la) regs par cs] [v]/\gV cs:=by
 obtain⟨la,regs,par,cs,hh⟩:=rT hv h
 exact⟨la,regs,par,cs,hh.1,hh.2.1⟩
theorem qy{k:FuncId}{w:World}{vs:Array Value}{args:List AV}(h:bR Try.prog k args [.v (.b true)])(hv:bw (Sg.data (kc w)) args vs.toList):Calls Try.prog k vs w λe w'=>e= .returned (.bool true)/\Below w.heap.size w w':=
 (h.2 (kc w) w vs (B1 w) hv).mono λe w' hq=>by
  cases e with
  |panicked c=>exact hq.elim
  |outgrown=>exact hq.elim
  |returned u=>
   obtain⟨x,Hc,σ',⟨l,rfl,hr⟩,hx,_,hbel,_⟩:=hq
   match l,hr with
   |[y],hr=>
    have:y= .b true:=hr.1.1
    subst this
    cases hx
    exact⟨rfl,hbel⟩
theorem wM{n:Int}(h:(Lit.int .u8 n).wf=true):0<=n/\n<256:=by
 have h2:IntKind.u8.min<=n/\n<=IntKind.u8.max:=by simpa [Lit.wf] using h
 have e1:IntKind.u8.min=0:=by decide
 have e2:IntKind.u8.max=255:=by decide
 omega
theorem bw.hd{σ:Sg}{a:AV}{v:Value}{l:List AV}{cs:List Value}(h:bw σ (a::l) (v::cs)):VR σ a v:=h.2 0 a rfl
end Go.Proofs.Yteopfmnnhlhbmaa