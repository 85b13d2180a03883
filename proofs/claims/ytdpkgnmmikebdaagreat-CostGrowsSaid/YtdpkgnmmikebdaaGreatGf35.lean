/-
  PROVED: 'Rows.CostGrowsSaid': CostGrows returns true for all programs, numbers of repetitions and numbers of inputs. No condition.
-/
import Derived.OpenShut
import Derived.ProofKit
import Derived.ShutString
import Derived.WalkKit
import Derived.Test.YtdpkgnmmikebdaaGreatGf32
import Derived.Test.YtdpkgnmmikebdaaGreatGf34
import Derived.Test.YtdpkgnmmikebdaaGreatRows
set_option linter.unusedSimpArgs false
set_option linter.unusedVariables false
set_option linter.constructorNameAsVariable false
set_option maxRecDepth 100000
set_option maxHeartbeats 4000000
namespace Go.Proofs.YtdpkgnmmikebdaaGreat
open Go.ChangeShapes Go.WideShapes Go.ChangeAt Go.RowKit Go.Deep Go.Joins
theorem Bf{n:Int}(h:(Lit.int .u16 n).wf=true):0<=n/\n<65536:=by
 have h2:IntKind.u16.min<=n/\n<=IntKind.u16.max:=by simpa [Lit.wf] using h
 have e1:IntKind.u16.min=0:=by decide
 have e2:IntKind.u16.max=65535:=by decide
 omega
theorem sJ{H:Type}{enc:TypeId×Value->H}{P:Program}{w:World}{base:Nat}{spare:Nat->Bool}{held:Bool}{t e:TypeId}{k:IntKind}{fuel:Nat}{cs:List Value}{x:DataW H×List MemPlace}(ht:P.underlying t=some (.slice e))(he:P.underlying e=some (.int k))(hc:P.cellsOf e=1)
  (h:DataW.trod enc P w base spare held fuel t cs=some x):
  ∃(a:Option Addr) (cap:Nat) (xs:List Int),cs=[.slice a xs.length cap]/\xs.length<=cap/\nu w.heap.size w 1 a xs.length (λj _=> .int k (xs.getD j 0))/\∀n ∈ xs,(Lit.int k n).wf=true:=by
 rcases open_ints ht he hc h with⟨rfl,_⟩|⟨a,len,cap,zs,rfl,hb,hl,hm,hz,_,hcell,hw⟩
 ·exact⟨none,0,[],rfl,by simp,λi hi=>by simp at hi,λn hn=>by cases hn⟩
 ·have hle:len<=zs.length:=by rw[hz];split<;>omega
  have hlen:(zs.take len).length=len:=by rw[List.length_take];omega
  refine⟨some a,cap,zs.take len,by rw[hlen],by rw[hlen];exact kw ht h rfl,λi hi=>?_,λn hn=>hw n (List.mem_of_mem_take hn)⟩
  rw[hlen] at hi
  obtain⟨b,off,sp⟩:=a
  have hci:=hcell i (by omega)
  have hc0:=hcell 0 (by omega)
  have hsp:sp=none:=by
   unfold World.cell? Addr.add at hc0
   split at hc0
   ·cases sp with
    |none=>rfl
    |some _=>simp at hc0
   ·cases hc0
  subst hsp
  rw[nr] at hci
  refine⟨b,off,rfl,World.block_lt_of_cell? w _ hci,λj hj=>?_⟩
  have hj0:j=0:=by omega
  subst hj0
  rw[Nat.mul_one,Nat.add_zero,hci]
  simp[List.getD_eq_getElem?_getD,hi]
theorem x7{H:Type}{enc:TypeId×Value->H}{w:World}{base:Nat}{spare:Nat->Bool}{held:Bool}{r:Reach}{b0:Nat}{v:Value}{d:DataW H}{p:List MemPlace}
  (hv:Value.okWide Tryz.prog w r b0 44 v) (h:DataW.Trod enc Tryz.prog w base spare held 44 v d p):
  ∃ms:List Int,VR (Sg.data (kS w)) (.fs 1 ms.length (nU ms)) v/\∀x ∈ ms,0<=x/\x<65536:=by
 obtain⟨a,len,cap,rfl⟩:∃a len cap,v= .slice a len cap:=by
  have:=okWide_slice (Tryz.underlying44) hv
  obtain⟨a,len,cap,rfl⟩:=this
  exact⟨a,len,cap,rfl⟩
 obtain⟨n,hn⟩:=h
 obtain⟨a',cap',xs,e,hl,hR,hw⟩:=sJ (P:=Tryz.prog) (e:=49) (k:= .u16) (by kernel_rfl) (by kernel_rfl) (by kernel_rfl) hn
 have e':[Value.slice a len cap]=[.slice a' xs.length cap']:=e
 simp only[List.cons.injEq,and_true] at e'
 rw[e']
 exact⟨xs,mq (row:=nU xs) hR (by decide) hl (λi j hi hj=>rfl) (λσ i j hi hj=> .n .u16 _),λx hx=>Bf (hw x hx)⟩
end Go.Proofs.YtdpkgnmmikebdaaGreat
namespace Go.Proofs.YtdpkgnmmikebdaaGreat.costGrows
open Go.ChangeShapes Go.WideShapes Go.ChangeAt Go.RowKit Go.Deep Go.Joins
open Go.ChangeMaps (open_string shut_string)
theorem own : ownKnob Tryz.prog.godebug = none := by kernel_rfl
theorem params_read : (Tryz.f5.params.toList.all fun t => Tryz.prog.readableRec t && decide (t < Tryz.prog.types.size)) = true := by kernel_rfl
theorem laid : laidOutB Tryz.prog = true := by kernel_rfl
theorem params_len : Tryz.f5.params.toList.length = 3 := by kernel_rfl
set_option maxRecDepth 100000 in
theorem lifted (os : Os) (started : os.Started) (H : Type) (enc : TypeId × Value → H) :
    ReturnsInHanded {} Tryz.checked os 5 .any (Rows.costGrowsSpec.pre6 enc Tryz.prog Tryz.f5 Rows.costGrowsRow.domain false) (Rows.costGrowsSpec.post enc Tryz.prog Tryz.f5 false true false false) := by
  refine Cf (C := Tryz.checked) (k := 5) (f := Tryz.f5) (s := Rows.costGrowsSpec) (tb := 4) own started (by kernel_rfl) Tryz.func5
    (ChangeSpec.witness6 (enc := enc) (C := Tryz.checked) false ⟨#[], #[.agg #[.slice none 0 0, .int .i64 0, .slice none 0 0], .slice none 0 0, .int .u8 0], []⟩ 8 (by kernel_rfl) (by kernel_rfl) (by kernel_rfl) (by kernel_rfl))
    laid ?_ rfl ?_ (by kernel_rfl) Tryz.underlying4 ?_
  · intro t ht
    have := List.all_eq_true.1 params_read t ht
    rw [Bool.and_eq_true, decide_eq_true_eq] at this
    exact this
  · intro ds hds
    rw [params_len] at hds
    match ds, hds with
    | [a, b, c], _ => rfl
  · intro W base args ds p hval hA
    rw [Tryz.params5] at hA hval
    obtain ⟨v0, vs0, d0, ds0, p0, q0, hargs, rfl, rfl, h0, r0⟩ := trodAll_cons hA
    obtain ⟨v1, vs1, d1, ds1, p1, q1, hargs1, rfl, rfl, h1, r1⟩ := trodAll_cons r0
    obtain ⟨v2, vs2, d2, ds2, p2, q2, hargs2, rfl, rfl, h2, r2⟩ := trodAll_cons r1
    obtain ⟨rfl, rfl, rfl⟩ := trodAll_nil r2
    obtain rfl : args = #[v0, v1, v2] := by cases args; simp_all
    obtain ⟨la, loc, cs, w0, w1, w2, w3⟩ := vn (hval 0 _ v0 rfl rfl) h0
    obtain ⟨ms, z0, z1⟩ := x7 (hval 1 _ v1 rfl rfl) h1
    obtain ⟨a1, rfl, rfl, rfl, x1⟩ := open_int Tryz.underlying5 (hval 2 _ v2 rfl rfl) h2
    exact qZ (nL la loc cs w1 w2 w3 ms z1 a1 (Ij x1)) (((aX.nil.cons (VR.n .u8 a1)).cons z0).cons w0)
theorem over : Rows.costGrowsRow.holds Tryz.pinned (OpenSpec.ofChange Rows.costGrowsSpec) :=
  OpenClaim.holds_of_wide 5 Tryz.f5 rfl rfl rfl rfl rfl rfl rfl ⟨rfl, rfl, rfl, rfl, rfl⟩ rfl rfl rfl rfl rfl (by kernel_rfl) Tryz.func5 (by kernel_rfl)
    (of_decide_eq_true (by kernel_rfl)) (by unfold Func.isWrapper; first | (rw [if_pos (by decide +kernel)]; kernel_rfl) | (rw [if_neg (by decide +kernel)]; exact ⟨rfl, rfl⟩))
    (fun os started H enc _ => lifted os started H enc)
/-- ████ THE STATEMENT ████ -/
theorem proved : Rows.CostGrowsSaid :=
  over
#print axioms proved
end Go.Proofs.YtdpkgnmmikebdaaGreat.costGrows