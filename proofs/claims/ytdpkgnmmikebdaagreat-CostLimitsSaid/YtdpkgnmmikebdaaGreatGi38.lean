/- A part of the proof of CostLimits. No condition. -/
import Derived.Test.YtdpkgnmmikebdaaGreatGi37
import Derived.Test.YtdpkgnmmikebdaaGreatGi22
import Derived.Test.YtdpkgnmmikebdaaGreatGip
set_option linter.unusedSimpArgs false
set_option linter.unusedVariables false
set_option linter.constructorNameAsVariable false
set_option maxRecDepth 100000
set_option maxHeartbeats 4000000
namespace Go.Proofs.YtdpkgnmmikebdaaGreat
open Go.ChangeShapes Go.WideShapes Go.ChangeAt Go.RowKit Go.Deep Go.Joins
theorem Lm{l:ao}(i:Nat){j:Nat}(h:j<2):(pA l i j).cell=true:=by unfold pA;split<;>rfl
theorem Ll{l:am}(i:Nat){j:Nat}(h:j<2):(pI l i j).cell=true:=by unfold pI;split<;>rfl
theorem B3{H:Type}{enc:TypeId×Value->H}{w:World}{base:Nat}{spare:Nat->Bool}{held:Bool}{r:Reach}{b0:Nat}{v:Value}{d:DataW H}{p:List MemPlace}
  (hv:Value.okWide av w r b0 25 v) (h:DataW.Trod enc av w base spare held 25 v d p):
  ∃(la:ao) (loc:Int) (cs:am),VR (Sg.data (sf w)) (fX la loc cs) v/\la.length<=9223372036854775807/\cs.length<=9223372036854775807/\il cs:=by
 obtain⟨v0,v1,v2,y0,y1,y2,n,rfl,_,_,h0,h1,h2⟩:=open_agg3 (P:=av) Tryz.underlying25 (by kernel_rfl) (by kernel_rfl) hv h
 obtain⟨m1,e1,_,w1⟩:=DataW.trod_int (k:= .i64) (by kernel_rfl) h1
 obtain⟨a,len,cap,n0,V,e0,hl,hV,ht⟩:=uE (P:=av) Tryz.underlying22 Tryz.underlying68 (by kernel_rfl) (by kernel_rfl) ag h0
 obtain⟨a',len',cap',n1,V',e3,hl',hV',ht'⟩:=uE (P:=av) Tryz.underlying23 Tryz.underlying54 (by kernel_rfl) (by kernel_rfl) ag h2
 have hc0:=uz Tryz.underlying22 h0 e0;have hc3:=uz Tryz.underlying23 h2 e3;simp only[List.cons.injEq,and_true] at e0 e1 e3;subst e0 e1 e3
 replace hV:uq w.heap.size w 2 a len V:=hV
 replace hV':uq w.heap.size w 2 a' len' V':=hV'
 have key0:∀i,i<len->∃b n,V i 0= .bool b/\V i 1= .int .i64 n:=λi hi=>by
  obtain⟨z0,g0⟩:=ht i hi 0 _ rfl;obtain⟨z1,g1⟩:=ht i hi 1 _ rfl;obtain⟨b,q0,_⟩:=DataW.trod_bool (by kernel_rfl) g0
  obtain⟨m,q1,_,_⟩:=DataW.trod_int (k:= .i64) (by kernel_rfl) g1
  simp only[List.cons.injEq,and_true] at q0 q1;exact⟨b,m,q0,q1⟩
 have key3:∀i,i<len'->∃op arg,V' i 0= .int .i64 op/\V' i 1= .int .u32 arg/\0<=arg/\arg<4294967296:=λi hi=>by
  obtain⟨z0,g0⟩:=ht' i hi 0 _ rfl;obtain⟨z1,g1⟩:=ht' i hi 1 _ rfl;obtain⟨k0,q0,_,_⟩:=DataW.trod_int (k:= .i64) (by kernel_rfl) g0
  obtain⟨k1,q1,_,w4⟩:=DataW.trod_int (k:= .u32) (by kernel_rfl) g1
  simp only[List.cons.injEq,and_true] at q0 q1;exact⟨k0,k1,q0,q1,KX w4⟩
 refine⟨(List.range len).map λi=>(sL (V i 0),lg (V i 1)),m1,(List.range len').map λi=>(lg (V' i 0),lg (V' i 1)),?_,by simpa using hl,by simpa using hl',?_⟩
 ·unfold fX;have v0:VR (Sg.data (sf w)) (.fs 2 ((List.range len).map λi=>(sL (V i 0),lg (V i 1))).length (pA ((List.range len).map λi=>(sL (V i 0),lg (V i 1))))) (.slice a len cap):=by
   have hlen:((List.range len).map λi=>(sL (V i 0),lg (V i 1))).length=len:=ae;have:=xi (row:=pA ((List.range len).map λi=>(sL (V i 0),lg (V i 1)))) hV ag hc0 (λi j hi hj=>Lm i hj) (λσ i j hi hj=>by
    obtain⟨b,n,q0,q1⟩:=key0 i hi;unfold pA;rw[oe _ _ _ _ hi];have hj2:j=0\/j=1:=aa;rcases hj2 with rfl|rfl
    ·rw[q0];exact .b _
    ·rw[q1];exact .n _ _)
   rw[hlen];exact this
  have v3:VR (Sg.data (sf w)) (.fs 2 ((List.range len').map λi=>(lg (V' i 0),lg (V' i 1))).length (pI ((List.range len').map λi=>(lg (V' i 0),lg (V' i 1))))) (.slice a' len' cap'):=by
   have hlen:((List.range len').map λi=>(lg (V' i 0),lg (V' i 1))).length=len':=ae;have:=xi (row:=pI ((List.range len').map λi=>(lg (V' i 0),lg (V' i 1)))) hV' ag hc3 (λi j hi hj=>Ll i hj) (λσ i j hi hj=>by
    obtain⟨op,arg,q0,q1,_⟩:=key3 i hi;unfold pI;rw[oe _ _ _ _ hi];have hj2:j=0\/j=1:=aa;rcases hj2 with rfl|rfl
    ·rw[q0];exact .n _ _
    ·rw[q1];exact .n _ _)
   rw[hlen];exact this
  have hh:=(gn.nil (σ:=Sg.data (sf w))).cons v3 |>.cons (VR.n .i64 m1) |>.cons v0;exact hh.agg
 ·intro x hx;simp only[ap8,List.mem_range] at hx;obtain⟨i,hi,rfl⟩:=hx;obtain⟨op,arg,q0,q1,hr⟩:=key3 i hi;simp only[q1,lg];exact hr
end Go.Proofs.YtdpkgnmmikebdaaGreat