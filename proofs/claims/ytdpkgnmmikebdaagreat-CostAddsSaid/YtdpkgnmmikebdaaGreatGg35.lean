/-
  PROVED: 'Rows.CostAddsSaid': CostAdds returns true for all programs and all code behind them. No condition.
-/
import Derived.OpenShut
import Derived.ProofKit
import Derived.ShutString
import Derived.WalkKit
import Derived.Test.YtdpkgnmmikebdaaGreatGg32
import Derived.Test.YtdpkgnmmikebdaaGreatGg34
import Derived.Test.YtdpkgnmmikebdaaGreatRows
set_option linter.unusedSimpArgs false
set_option linter.unusedVariables false
set_option linter.constructorNameAsVariable false
set_option maxRecDepth 100000
set_option maxHeartbeats 4000000
namespace Go.Proofs.YtdpkgnmmikebdaaGreat
open Go.ChangeShapes Go.WideShapes Go.ChangeAt Go.RowKit Go.Deep Go.Joins
theorem qG{H:Type}{enc:TypeId×Value->H}{w:World}{base:Nat}{spare:Nat->Bool}{held:Bool}{r:Reach}{b0:Nat}{v:Value}{d:DataW H}{p:List MemPlace}
  (hv:Value.okWide Tryz.prog w r b0 23 v) (h:DataW.Trod enc Tryz.prog w base spare held 23 v d p):
  ∃cs:List (Int×Int),VR (Sg.data (kQ w)) (.fs 2 cs.length (pI cs)) v/\cs.length<=9223372036854775807/\bV cs:=by
 obtain⟨a0,len0,cap0,rfl⟩:∃a len cap,v= .slice a len cap:=by
  have:=okWide_slice (Tryz.underlying23) hv
  obtain⟨a,len,cap,rfl⟩:=this
  exact⟨a,len,cap,rfl⟩
 obtain⟨n,hn⟩:=h
 obtain⟨a',len',cap',n1,V',e3,hl',hV',ht'⟩:=kz (P:=Tryz.prog) Tryz.underlying23 Tryz.underlying54 (by kernel_rfl) (by kernel_rfl) (by decide) hn
 have hc3:=kt Tryz.underlying23 hn e3
 have e3':[Value.slice a0 len0 cap0]=[.slice a' len' cap']:=e3
 simp only[List.cons.injEq,and_true] at e3'
 rw[e3']
 replace hV':nG w.heap.size w 2 a' len' V':=hV'
 have key3:∀i,i<len'->∃op arg,V' i 0= .int .i64 op/\V' i 1= .int .u32 arg/\0<=arg/\arg<4294967296:=λi hi=>by
  obtain⟨z0,g0⟩:=ht' i hi 0 _ rfl
  obtain⟨z1,g1⟩:=ht' i hi 1 _ rfl
  obtain⟨k0,q0,_,_⟩:=DataW.trod_int (k:= .i64) (by kernel_rfl) g0
  obtain⟨k1,q1,_,w4⟩:=DataW.trod_int (k:= .u32) (by kernel_rfl) g1
  simp only[List.cons.injEq,and_true] at q0 q1
  exact⟨k0,k1,q0,q1,tM w4⟩
 refine⟨(List.range len').map λi=>(cG (V' i 0),cG (V' i 1)),?_,by simpa using hl',?_⟩
 ·have hlen:((List.range len').map λi=>(cG (V' i 0),cG (V' i 1))).length=len':=by simp
  have:=my (row:=pI ((List.range len').map λi=>(cG (V' i 0),cG (V' i 1)))) hV' (by decide) hc3 (λi j hi hj=>ua i hj) (λσ i j hi hj=>by
   obtain⟨op,arg,q0,q1,_⟩:=key3 i hi
   unfold pI
   rw[ee _ _ _ _ hi]
   have hj2:j=0\/j=1:=by omega
   rcases hj2 with rfl|rfl
   ·rw[q0];exact .n _ _
   ·rw[q1];exact .n _ _)
  rw[hlen]
  exact this
 ·intro x hx
  simp only[List.mem_map,List.mem_range] at hx
  obtain⟨i,hi,rfl⟩:=hx
  obtain⟨op,arg,q0,q1,hr⟩:=key3 i hi
  simp only[q1,cG]
  exact hr
end Go.Proofs.YtdpkgnmmikebdaaGreat
namespace Go.Proofs.YtdpkgnmmikebdaaGreat.costAdds
open Go.ChangeShapes Go.WideShapes Go.ChangeAt Go.RowKit Go.Deep Go.Joins
open Go.ChangeMaps (open_string shut_string)
theorem own : ownKnob Tryz.prog.godebug = none := by kernel_rfl
theorem params_read : (Tryz.f6.params.toList.all fun t => Tryz.prog.readableRec t && decide (t < Tryz.prog.types.size)) = true := by kernel_rfl
theorem laid : laidOutB Tryz.prog = true := by kernel_rfl
theorem params_len : Tryz.f6.params.toList.length = 2 := by kernel_rfl
set_option maxRecDepth 100000 in
theorem lifted (os : Os) (started : os.Started) (H : Type) (enc : TypeId × Value → H) :
    ReturnsInHanded {} Tryz.checked os 6 .any (Rows.costAddsSpec.pre6 enc Tryz.prog Tryz.f6 Rows.costAddsRow.domain false) (Rows.costAddsSpec.post enc Tryz.prog Tryz.f6 false true false false) := by
  refine Cb (C := Tryz.checked) (k := 6) (f := Tryz.f6) (s := Rows.costAddsSpec) (tb := 4) own started (by kernel_rfl) Tryz.func6
    (ChangeSpec.witness6 (enc := enc) (C := Tryz.checked) false ⟨#[], #[.agg #[.slice none 0 0, .int .i64 0, .slice none 0 0], .slice none 0 0], []⟩ 8 (by kernel_rfl) (by kernel_rfl) (by kernel_rfl) (by kernel_rfl))
    laid ?_ rfl ?_ (by kernel_rfl) Tryz.underlying4 ?_
  · intro t ht
    have := List.all_eq_true.1 params_read t ht
    rw [Bool.and_eq_true, decide_eq_true_eq] at this
    exact this
  · intro ds hds
    rw [params_len] at hds
    match ds, hds with
    | [a, b], _ => rfl
  · intro W base args ds p hval hA
    rw [Tryz.params6] at hA hval
    obtain ⟨v0, vs0, d0, ds0, p0, q0, hargs, rfl, rfl, h0, r0⟩ := trodAll_cons hA
    obtain ⟨v1, vs1, d1, ds1, p1, q1, hargs1, rfl, rfl, h1, r1⟩ := trodAll_cons r0
    obtain ⟨rfl, rfl, rfl⟩ := trodAll_nil r1
    obtain rfl : args = #[v0, v1] := by cases args; simp_all
    obtain ⟨la, loc, cs, w0, w1, w2, w3⟩ := vj (hval 0 _ v0 rfl rfl) h0
    obtain ⟨cs2, z0, z1, z2⟩ := qG (hval 1 _ v1 rfl rfl) h1
    exact qX (pP la loc cs cs2 w1 w2 w3 z1 z2) ((a8.nil.cons z0).cons w0)
theorem over : Rows.costAddsRow.holds Tryz.pinned (OpenSpec.ofChange Rows.costAddsSpec) :=
  OpenClaim.holds_of_wide 6 Tryz.f6 rfl rfl rfl rfl rfl rfl rfl ⟨rfl, rfl, rfl, rfl, rfl⟩ rfl rfl rfl rfl rfl (by kernel_rfl) Tryz.func6 (by kernel_rfl)
    (of_decide_eq_true (by kernel_rfl)) (by unfold Func.isWrapper; first | (rw [if_pos (by decide +kernel)]; kernel_rfl) | (rw [if_neg (by decide +kernel)]; exact ⟨rfl, rfl⟩))
    (fun os started H enc _ => lifted os started H enc)
/-- ████ THE STATEMENT ████ -/
theorem proved : Rows.CostAddsSaid :=
  over
#print axioms proved
end Go.Proofs.YtdpkgnmmikebdaaGreat.costAdds