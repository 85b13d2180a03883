/-
  PROVED: 'Rows.CostMemorySaid': CostMemory returns true for all programs. No condition.
-/
import Derived.OpenShut
import Derived.ProofKit
import Derived.ShutString
import Derived.WalkKit
import Derived.Test.YthehakngpbjgjaaGreatGc24
import Derived.Test.YthehakngpbjgjaaGreatGc23
import Derived.Test.YthehakngpbjgjaaGreatRows
set_option linter.unusedSimpArgs false
set_option linter.unusedVariables false
set_option linter.constructorNameAsVariable false
set_option maxRecDepth 100000
set_option maxHeartbeats 4000000
namespace Go.Proofs.YthehakngpbjgjaaGreat
open Go.ChangeShapes Go.WideShapes Go.ChangeAt Go.RowKit Go.Deep Go.Joins
theorem pJ{l:List (Bool×Int)}(i:Nat){j:Nat}(h:j<2):(pA l i j).cell=true:=by unfold pA;split<;>rfl
theorem pF{l:List (Int×Int)}(i:Nat){j:Nat}(h:j<2):(pI l i j).cell=true:=by unfold pI;split<;>rfl
theorem jn{H:Type}{enc:TypeId×Value->H}{w:World}{base:Nat}{spare:Nat->Bool}{held:Bool}{r:Reach}{b0:Nat}{v:Value}{d:DataW H}{p:List MemPlace}
  (hv:Value.okWide Tryz.prog w r b0 25 v) (h:DataW.Trod enc Tryz.prog w base spare held 25 v d p):
  ∃(la:List (Bool×Int)) (loc:Int) (cs:List (Int×Int)),VR (Sg.data (dN w)) (aI la loc cs) v/\la.length<=9223372036854775807/\cs.length<=9223372036854775807/\dH cs:=by
 obtain⟨v0,v1,v2,y0,y1,y2,n,rfl,_,_,h0,h1,h2⟩:=open_agg3 (P:=Tryz.prog) Tryz.underlying25 (by kernel_rfl) (by kernel_rfl) hv h
 obtain⟨m1,e1,_,w1⟩:=DataW.trod_int (k:= .i64) (by kernel_rfl) h1
 obtain⟨a,len,cap,n0,V,e0,hl,hV,ht⟩:=eL (P:=Tryz.prog) Tryz.underlying22 Tryz.underlying50 (by kernel_rfl) (by kernel_rfl) (by decide) h0
 obtain⟨a',len',cap',n1,V',e3,hl',hV',ht'⟩:=eL (P:=Tryz.prog) Tryz.underlying23 Tryz.underlying82 (by kernel_rfl) (by kernel_rfl) (by decide) h2
 have hc0:=eJ Tryz.underlying22 h0 e0
 have hc3:=eJ Tryz.underlying23 h2 e3
 simp only[List.cons.injEq,and_true] at e0 e1 e3
 subst e0 e1 e3
 replace hV:eG w.heap.size w 2 a len V:=hV
 replace hV':eG w.heap.size w 2 a' len' V':=hV'
 have key0:∀i,i<len->∃b n,V i 0= .bool b/\V i 1= .int .i64 n:=λi hi=>by
  obtain⟨z0,g0⟩:=ht i hi 0 _ rfl
  obtain⟨z1,g1⟩:=ht i hi 1 _ rfl
  obtain⟨b,q0,_⟩:=DataW.trod_bool (by kernel_rfl) g0
  obtain⟨m,q1,_,_⟩:=DataW.trod_int (k:= .i64) (by kernel_rfl) g1
  simp only[List.cons.injEq,and_true] at q0 q1
  exact⟨b,m,q0,q1⟩
 have key3:∀i,i<len'->∃op arg,V' i 0= .int .i64 op/\V' i 1= .int .u32 arg/\0<=arg/\arg<4294967296:=λi hi=>by
  obtain⟨z0,g0⟩:=ht' i hi 0 _ rfl
  obtain⟨z1,g1⟩:=ht' i hi 1 _ rfl
  obtain⟨k0,q0,_,_⟩:=DataW.trod_int (k:= .i64) (by kernel_rfl) g0
  obtain⟨k1,q1,_,w4⟩:=DataW.trod_int (k:= .u32) (by kernel_rfl) g1
  simp only[List.cons.injEq,and_true] at q0 q1
  exact⟨k0,k1,q0,q1,pt w4⟩
 refine⟨(List.range len).map λi=>(dU (V i 0),bm (V i 1)),m1,(List.range len').map λi=>(bm (V' i 0),bm (V' i 1)),?_,by simpa using hl,by simpa using hl',?_⟩
 ·unfold aI
  have v0:VR (Sg.data (dN w)) (.fs 2 ((List.range len).map λi=>(dU (V i 0),bm (V i 1))).length (pA ((List.range len).map λi=>(dU (V i 0),bm (V i 1))))) (.slice a len cap):=by
   have hlen:((List.range len).map λi=>(dU (V i 0),bm (V i 1))).length=len:=by simp
   have:=fU (row:=pA ((List.range len).map λi=>(dU (V i 0),bm (V i 1)))) hV (by decide) hc0 (λi j hi hj=>pJ i hj) (λσ i j hi hj=>by
    obtain⟨b,n,q0,q1⟩:=key0 i hi
    unfold pA
    rw[cj _ _ _ _ hi]
    have hj2:j=0\/j=1:=by omega
    rcases hj2 with rfl|rfl
    ·rw[q0];exact .b _
    ·rw[q1];exact .n _ _)
   rw[hlen]
   exact this
  have v3:VR (Sg.data (dN w)) (.fs 2 ((List.range len').map λi=>(bm (V' i 0),bm (V' i 1))).length (pI ((List.range len').map λi=>(bm (V' i 0),bm (V' i 1))))) (.slice a' len' cap'):=by
   have hlen:((List.range len').map λi=>(bm (V' i 0),bm (V' i 1))).length=len':=by simp
   have:=fU (row:=pI ((List.range len').map λi=>(bm (V' i 0),bm (V' i 1)))) hV' (by decide) hc3 (λi j hi hj=>pF i hj) (λσ i j hi hj=>by
    obtain⟨op,arg,q0,q1,_⟩:=key3 i hi
    unfold pI
    rw[cj _ _ _ _ hi]
    have hj2:j=0\/j=1:=by omega
    rcases hj2 with rfl|rfl
    ·rw[q0];exact .n _ _
    ·rw[q1];exact .n _ _)
   rw[hlen]
   exact this
  have hh:=(ax.nil (σ:=Sg.data (dN w))).cons v3 |>.cons (VR.n .i64 m1) |>.cons v0
  exact hh.agg
 ·intro x hx
  simp only[List.mem_map,List.mem_range] at hx
  obtain⟨i,hi,rfl⟩:=hx
  obtain⟨op,arg,q0,q1,hr⟩:=key3 i hi
  simp only[q1,bm]
  exact hr
end Go.Proofs.YthehakngpbjgjaaGreat
namespace Go.Proofs.YthehakngpbjgjaaGreat.costMemory
open Go.ChangeShapes Go.WideShapes Go.ChangeAt Go.RowKit Go.Deep Go.Joins
open Go.ChangeMaps (open_string shut_string)
theorem own : ownKnob Tryz.prog.godebug = none := by kernel_rfl
theorem params_read : (Tryz.f3.params.toList.all fun t => Tryz.prog.readableRec t && decide (t < Tryz.prog.types.size)) = true := by kernel_rfl
theorem laid : laidOutB Tryz.prog = true := by kernel_rfl
theorem params_len : Tryz.f3.params.toList.length = 1 := by kernel_rfl
set_option maxRecDepth 100000 in
theorem lifted (os : Os) (started : os.Started) (H : Type) (enc : TypeId × Value → H) :
    ReturnsInHanded {} Tryz.checked os 3 .any (Rows.costMemorySpec.pre6 enc Tryz.prog Tryz.f3 Rows.costMemoryRow.domain false) (Rows.costMemorySpec.post enc Tryz.prog Tryz.f3 false true false false) := by
  refine qb (C := Tryz.checked) (k := 3) (f := Tryz.f3) (s := Rows.costMemorySpec) (tb := 4) own started (by kernel_rfl) Tryz.func3
    (ChangeSpec.witness6 (enc := enc) (C := Tryz.checked) false ⟨#[], #[.agg #[.slice none 0 0, .int .i64 0, .slice none 0 0]], []⟩ 8 (by kernel_rfl) (by kernel_rfl) (by kernel_rfl) (by kernel_rfl))
    laid ?_ rfl ?_ (by kernel_rfl) Tryz.underlying4 ?_
  · intro t ht
    have := List.all_eq_true.1 params_read t ht
    rw [Bool.and_eq_true, decide_eq_true_eq] at this
    exact this
  · intro ds hds
    rw [params_len] at hds
    match ds, hds with
    | [a], _ => rfl
  · intro W base args ds p hval hA
    rw [Tryz.params3] at hA hval
    obtain ⟨v0, vs0, d0, ds0, p0, q0, hargs, rfl, rfl, h0, r0⟩ := trodAll_cons hA
    obtain ⟨rfl, rfl, rfl⟩ := trodAll_nil r0
    obtain rfl : args = #[v0] := by cases args; simp_all
    obtain ⟨la, loc, cs, w0, w1, w2, w3⟩ := jn (hval 0 _ v0 rfl rfl) h0
    exact gl (eo la loc cs w1 w2 w3) (ax.nil.cons w0)
theorem over : Rows.costMemoryRow.holds Tryz.pinned (OpenSpec.ofChange Rows.costMemorySpec) :=
  OpenClaim.holds_of_wide 3 Tryz.f3 rfl rfl rfl rfl rfl rfl rfl ⟨rfl, rfl, rfl, rfl, rfl⟩ rfl rfl rfl rfl rfl (by kernel_rfl) Tryz.func3 (by kernel_rfl)
    (of_decide_eq_true (by kernel_rfl)) (by unfold Func.isWrapper; first | (rw [if_pos (by decide +kernel)]; kernel_rfl) | (rw [if_neg (by decide +kernel)]; exact ⟨rfl, rfl⟩))
    (fun os started H enc _ => lifted os started H enc)
/-- ████ THE STATEMENT ████ -/
theorem proved : Rows.CostMemorySaid :=
  over
#print axioms proved
end Go.Proofs.YthehakngpbjgjaaGreat.costMemory