/- A part of the proof of CostLimits. No condition. -/
import Derived.Test.YtdpkgnmmikebdaaGreatGi18
import Derived.Test.YtdpkgnmmikebdaaGreatGi19
import Derived.Test.YtdpkgnmmikebdaaGreatGip
set_option linter.unusedSimpArgs false
set_option linter.unusedVariables false
set_option linter.constructorNameAsVariable false
set_option maxRecDepth 100000
set_option maxHeartbeats 4000000
namespace Go.Proofs.YtdpkgnmmikebdaaGreat
open Go.RowKit
section
variable {n:Nat}{row:Nat->Nat->AV}
theorem fx:av.follows .mixedOrders=true:=by kernel_rfl
theorem fj{hints:gN}{ac:AC}{e:Tr AV}{H:AH}{Q:AE->Tr AV->AH->Prop}(h:GS av n hints ac e H Q)(hg:goB ac=true:=by rfl):GA av n hints ac e H Q:=GA.go fx hg h
theorem tX{x:AB}{m esz:Nat}{i j:Nat}(hj:j<esz)(hi:i<n+m)(hn:(n+m)*esz<2^40):(x.app (n*esz) (.fn (m*esz) λi=>row (i / esz) (i%esz))).get (i*esz+j)=if n<=i then row (i-n) j else x.get (i*esz+j):=by
 have h0:0<esz:=aa;have h1:i*esz+j<n*esz+m*esz:=by
  rw[<-Nat.add_mul];exact mJ hi hj
 rw[AB.app_get _ _ _ _ (by simp only[ke.len];rw[<-Nat.add_mul];omega) h1]
 by_cases h:n<=i
 ·have h2:n*esz<=i*esz:=apD esz h;rw[if_pos aa,if_pos h];show row ((i*esz+j-n*esz) / esz) ((i*esz+j-n*esz)%esz)=_;have e:i*esz+j-n*esz=j+esz*(i-n):=by
   rw[apT esz,Nat.sub_mul];omega
  rw[e,Nat.add_mul_div_left _ _ h0,Nat.div_eq_of_lt hj,apz,Nat.add_mul_mod_self_left,Nat.mod_eq_of_lt hj]
 ·have h2:(i+1)*esz<=n*esz:=apD esz aa;rw[apM] at h2;rw[if_neg aa,if_neg h]
theorem vY{x:AB}{esz:Nat}{i j:Nat}(hi:i<n)(hj:j<esz)(hn:n*esz<2^40):(x.app 0 (.fn (n*esz) λi=>row (i / esz) (i%esz))).get (i*esz+j)=row i j:=by
 have:=tX (x:=x) (n:=0) (m:=n) (row:=row) hj (i:=i) aa (by rwa [apz])
 rw[ap3,if_pos (apf _)] at this;exact this
theorem zT(hn:n<1000000)(hc:∀i j,i<n->j<1->(row i j).cell=true):
  gw av 96 [.fs 1 n row] [.o 5 1 n 0 row]:=by
 refine fe fx aml ⟨ae,ag⟩ ?_;simp only[fy];have hl1:n*1<1099511627776:=aa;have hl2:n*1<=140737488355328:=aa;have hl3:n<=9223372036854775807:=aa
 try simp only[apu] at hl1 hl2
 refine dp ?_;intro t ht;cases t
 ·refine dq (aU hl1 (aU hl2 hl3)) ?_;refine⟨[_],rfl,.o (x:=_) aj af af af ag aq2 (bL _) (λi j hi hj=>?_) hc rfl .nil⟩
  exact vY hi hj aa
 ·exact dT
theorem nX(hn:n<1000000)(hc:∀i j,i<n->j<2->(row i j).cell=true):
  gw av 59 [.fs 2 n row] [.o 127 2 n 0 row]:=by
 refine fe fx ajI ⟨ae,ag⟩ ?_;simp only[fy];have hl1:n*2<1099511627776:=aa;have hl2:n*16<=140737488355328:=aa;have hl3:n<=9223372036854775807:=aa
 try simp only[apu] at hl1 hl2
 refine dp ?_;intro t ht;cases t
 ·refine dq (aU hl1 (aU hl2 hl3)) ?_;refine⟨[_],rfl,.o (x:=_) aj af af af ag aq2 (bL _) (λi j hi hj=>?_) hc rfl .nil⟩
  exact vY hi hj aa
 ·exact dT
theorem zS(hn:n<1000000)(hc:∀i j,i<n->j<3->(row i j).cell=true):
  gw av 123 [.fs 3 n row] [.o 221 3 n 0 row]:=by
 refine fe fx ahX ⟨ae,ag⟩ ?_;simp only[fy];have hl1:n*3<1099511627776:=aa;have hl2:n*24<=140737488355328:=aa;have hl3:n<=9223372036854775807:=aa
 try simp only[apu] at hl1 hl2
 refine dp ?_;intro t ht;cases t
 ·refine dq (aU hl1 (aU hl2 hl3)) ?_;refine⟨[_],rfl,.o (x:=_) aj af af af ag aq2 (bL _) (λi j hi hj=>?_) hc rfl .nil⟩
  exact vY hi hj aa
 ·exact dT
end
def xR(a:Int):Bool:=decide (0<=a)&&decide (a<=281474976710656)
theorem kE(a:Int):gw av 44 [aq a] [.v (.b (xR a))]:=by
 refine fe fx ad9 ⟨ae,ag⟩ ?_;simp only[fy];by_cases h:0<=a
 ·refine dt h ?_;exact eY (by simp[xR,h]) rfl
 ·refine dt h ?_;exact eY (by simp[xR];omega) rfl
def vi(a b:Int):Int:=if xR a=true/\xR b=true/\xR (IntKind.i64.wrap (a+b))=true then IntKind.i64.wrap (a+b) else 281474976710656
theorem Aj(a b:Int):gw av 43 [aq a,aq b] [.v (aq (vi a b))]:=by
 refine fe fx aee ⟨ae,ag⟩ ?_;simp only[fy];refine dp ?_;refine gm [] (fargs:=[aq a]) (ja.same rfl) (kE a) ag ?_;cases h1:xR a
 ·refine du h1 ?_;exact eY (by simp[vi,h1]) rfl
 ·refine du h1 ?_;refine gm [] (fargs:=[aq b]) (ja.same rfl) (kE b) ag ?_;cases h2:xR b
  ·refine du h2 ?_;exact eY (by simp[vi,h1,h2]) rfl
  ·refine du h2 ?_;refine gm [] (fargs:=[aq (IntKind.i64.wrap (a+b))]) (ja.same rfl) (kE _) ag ?_;cases h3:xR (IntKind.i64.wrap (a+b))
   ·refine du h3 ?_;exact eY (by simp[vi,h1,h2,h3]) rfl
   ·refine du h3 ?_;exact eY (by simp[vi,h1,h2,h3]) rfl
def xO(m n:Int):AV:= .agg [aq m,aq n]
theorem Mv(m n m2 n2:Int):gw av 21 [xO m n,xO m2 n2] [.v (xO (vi m m2) (vi n n2))]:=by
 refine fe fx aeg ⟨ae,ag⟩ ?_;simp only[fy,xO];refine dp ?_;refine gm [] (fargs:=[aq m,aq m2]) (ja.same rfl) (Aj m m2) aq4 ?_
 refine dp ?_;refine gm [] (fargs:=[aq n,aq n2]) (ja.same rfl) (Aj n n2) aq4 ?_
 refine dp ?_;exact dU
def zM(m n m2 n2:Int):Bool:=xR m&&xR n&&xR m2&&xR n2&&decide (m<=m2)&&decide (n<=n2)
theorem yc(m n m2 n2:Int):gw av 22 [xO m n,xO m2 n2] [.v (.b (zM m n m2 n2))]:=by
 refine fe fx ad6 ⟨ae,ag⟩ ?_;simp only[fy,xO];refine dp ?_;refine gm [] (fargs:=[aq m]) (ja.same rfl) (kE m) aq4 ?_
 cases h1:xR m
 ·refine du h1 ?_;exact eY (by simp[zM,h1]) rfl
 refine du h1 ?_;refine gm [] (fargs:=[aq n]) (ja.same rfl) (kE n) aq4 ?_
 cases h2:xR n
 ·refine du h2 ?_;exact eY (by simp[zM,h1,h2]) rfl
 refine du h2 ?_;refine gm [] (fargs:=[aq m2]) (ja.same rfl) (kE m2) aq4 ?_
 cases h3:xR m2
 ·refine du h3 ?_;exact eY (by simp[zM,h1,h2,h3]) rfl
 refine du h3 ?_;refine gm [] (fargs:=[aq n2]) (ja.same rfl) (kE n2) aq4 ?_
 cases h4:xR n2
 ·refine du h4 ?_;exact eY (by simp[zM,h1,h2,h3,h4]) rfl
 by_cases h5:m<=m2
 ·exact dV
 ·exact dV
end Go.Proofs.YtdpkgnmmikebdaaGreat