/- A part of the proof of CostBounds: CbL. No condition. -/
import Derived.Test.YthehakngpbjgjaaGreatGd33
import Derived.Test.YthehakngpbjgjaaGreatGd29
set_option linter.unusedSimpArgs false
set_option linter.unusedVariables false
set_option linter.constructorNameAsVariable false
set_option maxRecDepth 100000
set_option maxHeartbeats 4000000
namespace Go.Proofs.YthehakngpbjgjaaGreat
open Go.ChangeShapes Go.WideShapes Go.ChangeAt Go.RowKit Go.Deep Go.Joins
theorem jN{w:World}{a:Option Addr}{n cap esz:Nat}{V:Nat->Nat->Value}{row:Nat->Nat->AV}(h:hY w.heap.size w esz a n V)(h0:0<esz)(hcap:n<=cap)(hc:∀i j,i<n->j<esz->(row i j).cell=true)(hv:∀i j,i<n->j<esz->VR (Sg.data (dJ w)) (row i j) (V i j)):
  VR (Sg.data (dJ w)) (.fs esz n row) (.slice a n cap):=by
 cases n with
 |zero=>exact .fs0 _ _ _ _
 |succ n=>
  obtain⟨b,off,rfl,hb,hcell⟩:=h 0 (by omega)
  have hall:∀i j,i<n+1->j<esz->w.cell? ⟨b,off+i*esz+j,none⟩=some (V i j):=λi j hi hj=>by
   obtain⟨b',off',e,_,hcell'⟩:=h i hi
   cases e
   exact hcell' j hj
  cases hh:w.heap[b]? with
  |none=>
   have:=hall 0 0 (by omega) h0
   simp only[World.cell?,hh] at this
   cases this
  |some o=>
   cases o with
   |cells cs t fr=>
    have hget:∀i j,i<n+1->j<esz->cs[off+i*esz+j]? =some (V i j):=λi j hi hj=>by
     have:=hall i j hi hj
     simpa [World.cell?,hh] using this
    have hlast:=hget n (esz-1) (by omega) (by omega)
    have hsz:=(Array.getElem?_eq_some_iff.1 hlast).1
    refine .fs (σ:=Sg.data (dJ w)) (c:=b) (off:=off) (cs:=cs) ?_ ?_ hc (λi j hi hj=>?_) _ hcap
    ·show dJ w b=some cs
     unfold dJ
     rw[hh]
    ·rw[Nat.succ_mul];omega
    ·rw[Array.getD_eq_getD_getElem?,hget i j hi hj]
     exact hv i j hi hj
   |_=>
    have:=hall 0 0 (by omega) h0
    simp only[World.cell?,hh] at this
    cases this
theorem rK{H:Type}{enc:TypeId×Value->H}{w:World}{base:Nat}{spare:Nat->Bool}{held:Bool}{r:Reach}{b0:Nat}{v:Value}{d:DataW H}{p:List MemPlace}
  (hv:Value.okWide Tryz.prog w r b0 44 v) (h:DataW.Trod enc Tryz.prog w base spare held 44 v d p):
  ∃(s e h:Int) (li:List cE),VR (Sg.data (dJ w)) (bL s e h li) v/\li.length<=9223372036854775807:=by
 obtain⟨v0,v1,v2,v3,y0,y1,y2,y3,n,rfl,_,_,h0,h1,h2,h3⟩:=open_agg4 (P:=Tryz.prog) Tryz.underlying44 (by kernel_rfl) (by kernel_rfl) hv h
 obtain⟨m0,e0,_,w0⟩:=DataW.trod_int (k:= .i64) (by kernel_rfl) h0
 obtain⟨m1,e1,_,w1⟩:=DataW.trod_int (k:= .i64) (by kernel_rfl) h1
 obtain⟨m2,e2,_,w2⟩:=DataW.trod_int (k:= .i64) (by kernel_rfl) h2
 obtain⟨a,len,cap,n0,V,e3,hl,hV,ht⟩:=fF (P:=Tryz.prog) Tryz.underlying42 Tryz.underlying56 (by kernel_rfl) (by kernel_rfl) (by decide) h3
 have hc3:=fB Tryz.underlying42 h3 e3
 simp only[List.cons.injEq,and_true] at e0 e1 e2 e3
 subst e0 e1 e2 e3
 replace hV:hY w.heap.size w 3 a len V:=hV
 have key:∀i,i<len->∃x:cE,V i 0= .int .i64 x.1/\V i 1= .int .i64 x.2.1/\VR (Sg.data (dJ w)) (.fs 2 x.2.2.1 x.2.2.2) (V i 2):=λi hi=>by
  obtain⟨z0,g0⟩:=ht i hi 0 _ rfl
  obtain⟨z1,g1⟩:=ht i hi 1 _ rfl
  obtain⟨z2,g2⟩:=ht i hi 2 _ rfl
  obtain⟨k0,q0,_,_⟩:=DataW.trod_int (k:= .i64) (by kernel_rfl) g0
  obtain⟨k1,q1,_,_⟩:=DataW.trod_int (k:= .i64) (by kernel_rfl) g1
  obtain⟨a',len',cap',n1,V',e4,hl',hV',ht'⟩:=fF (P:=Tryz.prog) Tryz.underlying54 Tryz.underlying123 (by kernel_rfl) (by kernel_rfl) (by decide) g2
  have hc4:=fB Tryz.underlying54 g2 e4
  simp only[List.cons.injEq,and_true] at q0 q1 e4
  replace hV':hY w.heap.size w 2 a' len' V':=hV'
  refine⟨(k0,k1,len',λi j=> .n .i64 (cN (V' i j))),q0,q1,?_⟩
  rw[e4]
  refine jN hV' (by decide) hc4 (λ_ _ _ _=>rfl) (λi' j hi' hj=>?_)
  have hj2:j=0\/j=1:=by omega
  have hf:∃m,V' i' j= .int .i64 m:=by
   rcases hj2 with rfl|rfl
   ·obtain⟨z,g⟩:=ht' i' hi' 0 _ rfl
    obtain⟨m,q,_,_⟩:=DataW.trod_int (k:= .i64) (by kernel_rfl) g
    simp only[List.cons.injEq,and_true] at q
    exact⟨m,q⟩
   ·obtain⟨z,g⟩:=ht' i' hi' 1 _ rfl
    obtain⟨m,q,_,_⟩:=DataW.trod_int (k:= .i64) (by kernel_rfl) g
    simp only[List.cons.injEq,and_true] at q
    exact⟨m,q⟩
  obtain⟨m,hm⟩:=hf
  show VR _ (.n .i64 (cN (V' i' j))) (V' i' j)
  rw[hm]
  exact .n _ _
 have hX:∃X:Nat->cE,∀i,i<len->V i 0= .int .i64 (X i).1/\V i 1= .int .i64 (X i).2.1/\VR (Sg.data (dJ w)) (.fs 2 (X i).2.2.1 (X i).2.2.2) (V i 2):=by
  cases hlen:len with
  |zero=>exact⟨λ_=>cn,λi hi=>by omega⟩
  |succ k=>
   rw[hlen] at key
   haveI:Inhabited cE:=⟨cn⟩
   exact choose_lt (α:=cE) key
 obtain⟨X,hX⟩:=hX
 refine⟨m0,m1,m2,(List.range len).map X,?_,by simpa using hl⟩
 have hlen:((List.range len).map X).length=len:=by simp
 have v3:VR (Sg.data (dJ w)) (.fs 3 ((List.range len).map X).length (vI ((List.range len).map X))) (.slice a len cap):=by
  have:=jN (row:=vI ((List.range len).map X)) hV (by decide) hc3 (λi j hi hj=>by
   have hj2:j=0\/j=1\/j=2:=by omega
   rcases hj2 with rfl|rfl|rfl<;>rfl) (λi j hi hj=>by
   obtain⟨q0,q1,q2⟩:=hX i hi
   have hj2:j=0\/j=1\/j=2:=by omega
   rcases hj2 with rfl|rfl|rfl
   ·rw[Jw,bW _ _ _ _ hi,q0];exact .n _ _
   ·rw[zN,bW _ _ _ _ hi,q1];exact .n _ _
   ·rw[WX,bW _ _ _ _ hi];exact q2)
  rw[hlen]
  exact this
 unfold bL
 have hh:=(aM.nil (σ:=Sg.data (dJ w))).cons v3 |>.cons (VR.n .i64 m2) |>.cons (VR.n .i64 m1) |>.cons (VR.n .i64 m0)
 exact hh.agg
end Go.Proofs.YthehakngpbjgjaaGreat