/- A part of the proof of CostAdds: CsC CsF. No condition. -/
import Derived.Test.YtdpkgnmmikebdaaGreatGg18
import Derived.Test.YtdpkgnmmikebdaaGreatGg19
set_option linter.unusedSimpArgs false
set_option linter.unusedVariables false
set_option linter.constructorNameAsVariable false
set_option maxRecDepth 100000
set_option maxHeartbeats 4000000
namespace Go.Proofs.YtdpkgnmmikebdaaGreat
open Go.RowKit
theorem aF:Tryz.prog.follows .mixedOrders=true:=by kernel_rfl
theorem ao{n:Nat}{hints:bu}{ac:AC}{e:Tr AV}{H:AH}{Q:AE->Tr AV->AH->Prop}(h:GS Tryz.prog n hints ac e H Q)(hg:Z4 ac=true:=by rfl):GA Tryz.prog n hints ac e H Q:=GA.go aF hg h
theorem jB{x:AB}{n m esz:Nat}{row:Nat->Nat->AV}{i j:Nat}(hj:j<esz)(hi:i<n+m)(hn:(n+m)*esz<2^40):(x.app (n*esz) (.fn (m*esz) λi=>row (i / esz) (i%esz))).get (i*esz+j)=if n<=i then row (i-n) j else x.get (i*esz+j):=by
 have h0:0<esz:=by omega
 have h1:i*esz+j<n*esz+m*esz:=by
  rw[<-Nat.add_mul];exact fv hi hj
 rw[AB.app_get _ _ _ _ (by simp only[dg.len];rw[<-Nat.add_mul];omega) h1]
 by_cases h:n<=i
 ·have h2:n*esz<=i*esz:=Nat.mul_le_mul_right esz h
  rw[if_pos (by omega),if_pos h]
  show row ((i*esz+j-n*esz) / esz) ((i*esz+j-n*esz)%esz)=_
  have e:i*esz+j-n*esz=j+esz*(i-n):=by
   rw[Nat.mul_comm esz,Nat.sub_mul];omega
  rw[e,Nat.add_mul_div_left _ _ h0,Nat.div_eq_of_lt hj,Nat.zero_add,Nat.add_mul_mod_self_left,Nat.mod_eq_of_lt hj]
 ·have h2:(i+1)*esz<=n*esz:=Nat.mul_le_mul_right esz (by omega)
  rw[Nat.succ_mul] at h2
  rw[if_neg (by omega),if_neg h]
theorem mV{x:AB}{n esz:Nat}{row:Nat->Nat->AV}{i j:Nat}(hi:i<n)(hj:j<esz)(hn:n*esz<2^40):(x.app 0 (.fn (n*esz) λi=>row (i / esz) (i%esz))).get (i*esz+j)=row i j:=by
 have:=jB (x:=x) (n:=0) (m:=n) (row:=row) hj (i:=i) (by omega) (by rwa [Nat.zero_add])
 rw[Nat.zero_mul,if_pos (Nat.zero_le _)] at this
 exact this
theorem tn{n:Nat}{row:Nat->Nat->AV}(hn:n<1000000)(hc:∀i j,i<n->j<1->(row i j).cell=true):
  bN Tryz.prog 96 [.fs 1 n row] [.o 5 1 n 0 row]:=by
 refine ag aF U0 ⟨by simp,by decide⟩ ?_
 simp only[aH]
 have hl1:n*1<1099511627776:=by omega
 have hl2:n*1<=140737488355328:=by omega
 have hl3:n<=9223372036854775807:=by omega
 try simp only[Nat.mul_one] at hl1 hl2
 repeat first|with_reducible refine ao ?_|simp only[go_sem,simprocAttr]
 intro t ht
 cases t
 ·repeat first|with_reducible refine ao ?_|simp only[hl1,hl2,hl3,decide_true,go_sem,simprocAttr]
  refine⟨[_],rfl,.o (x:=_) (by simp only[go_sem,simprocAttr];rfl) (by rfl) (by rfl) (by rfl) (by decide) (by simp only[go_sem,simprocAttr]<;>omega) (Nat.le_refl _) (λi j hi hj=>?_) hc rfl .nil⟩
  exact mV hi hj (by omega)
 ·obtain rfl:=ht rfl
  repeat first|with_reducible refine ao ?_|simp only[go_sem,simprocAttr]
  exact⟨[_],rfl,.o0 rfl .nil⟩
theorem gx{n:Nat}{row:Nat->Nat->AV}(hn:n<1000000)(hc:∀i j,i<n->j<2->(row i j).cell=true):
  bN Tryz.prog 59 [.fs 2 n row] [.o 127 2 n 0 row]:=by
 refine ag aF SQ ⟨by simp,by decide⟩ ?_
 simp only[aH]
 have hl1:n*2<1099511627776:=by omega
 have hl2:n*16<=140737488355328:=by omega
 have hl3:n<=9223372036854775807:=by omega
 try simp only[Nat.mul_one] at hl1 hl2
 repeat first|with_reducible refine ao ?_|simp only[go_sem,simprocAttr]
 intro t ht
 cases t
 ·repeat first|with_reducible refine ao ?_|simp only[hl1,hl2,hl3,decide_true,go_sem,simprocAttr]
  refine⟨[_],rfl,.o (x:=_) (by simp only[go_sem,simprocAttr];rfl) (by rfl) (by rfl) (by rfl) (by decide) (by simp only[go_sem,simprocAttr]<;>omega) (Nat.le_refl _) (λi j hi hj=>?_) hc rfl .nil⟩
  exact mV hi hj (by omega)
 ·obtain rfl:=ht rfl
  repeat first|with_reducible refine ao ?_|simp only[go_sem,simprocAttr]
  exact⟨[_],rfl,.o0 rfl .nil⟩
theorem ti{n:Nat}{row:Nat->Nat->AV}(hn:n<1000000)(hc:∀i j,i<n->j<3->(row i j).cell=true):
  bN Tryz.prog 123 [.fs 3 n row] [.o 221 3 n 0 row]:=by
 refine ag aF QT ⟨by simp,by decide⟩ ?_
 simp only[aH]
 have hl1:n*3<1099511627776:=by omega
 have hl2:n*24<=140737488355328:=by omega
 have hl3:n<=9223372036854775807:=by omega
 try simp only[Nat.mul_one] at hl1 hl2
 repeat first|with_reducible refine ao ?_|simp only[go_sem,simprocAttr]
 intro t ht
 cases t
 ·repeat first|with_reducible refine ao ?_|simp only[hl1,hl2,hl3,decide_true,go_sem,simprocAttr]
  refine⟨[_],rfl,.o (x:=_) (by simp only[go_sem,simprocAttr];rfl) (by rfl) (by rfl) (by rfl) (by decide) (by simp only[go_sem,simprocAttr]<;>omega) (Nat.le_refl _) (λi j hi hj=>?_) hc rfl .nil⟩
  exact mV hi hj (by omega)
 ·obtain rfl:=ht rfl
  repeat first|with_reducible refine ao ?_|simp only[go_sem,simprocAttr]
  exact⟨[_],rfl,.o0 rfl .nil⟩
def qY(a:Int):Bool:=decide (0<=a)&&decide (a<=281474976710656)
theorem dL(a:Int):bN Tryz.prog 44 [.n .i64 a] [.v (.b (qY a))]:=by
 refine ag aF MF ⟨by simp,by decide⟩ ?_
 simp only[aH]
 by_cases h:0<=a
 ·repeat first|with_reducible refine ao ?_|simp only[h,ge_iff_le,decide_true,go_sem,simprocAttr]
  exact aa (by simp[qY,h]) rfl
 ·repeat first|with_reducible refine ao ?_|simp only[h,ge_iff_le,decide_false,go_sem,simprocAttr]
  exact aa (by simp[qY];omega) rfl
def oW(a b:Int):Int:=if qY a=true/\qY b=true/\qY (IntKind.i64.wrap (a+b))=true then IntKind.i64.wrap (a+b) else 281474976710656
theorem tU(a b:Int):bN Tryz.prog 43 [.n .i64 a,.n .i64 b] [.v (.n .i64 (oW a b))]:=by
 refine ag aF ML ⟨by simp,by decide⟩ ?_
 simp only[aH]
 repeat first|with_reducible refine ao ?_|simp only[go_sem,simprocAttr]
 refine aR [] (fargs:=[.n .i64 a]) (cm.same rfl) (dL a) (by decide) ?_
 cases h1:qY a
 ·repeat first|with_reducible refine ao ?_|simp only[h1,go_sem,simprocAttr]
  exact aa (by simp[oW,h1]) rfl
 ·repeat first|with_reducible refine ao ?_|simp only[h1,go_sem,simprocAttr]
  refine aR [] (fargs:=[.n .i64 b]) (cm.same rfl) (dL b) (by decide) ?_
  cases h2:qY b
  ·repeat first|with_reducible refine ao ?_|simp only[h2,go_sem,simprocAttr]
   exact aa (by simp[oW,h1,h2]) rfl
  ·repeat first|with_reducible refine ao ?_|simp only[h2,go_sem,simprocAttr]
   refine aR [] (fargs:=[.n .i64 (IntKind.i64.wrap (a+b))]) (cm.same rfl) (dL _) (by decide) ?_
   cases h3:qY (IntKind.i64.wrap (a+b))
   ·repeat first|with_reducible refine ao ?_|simp only[h3,go_sem,simprocAttr]
    exact aa (by simp[oW,h1,h2,h3]) rfl
   ·repeat first|with_reducible refine ao ?_|simp only[h3,go_sem,simprocAttr]
    exact aa (by simp[oW,h1,h2,h3]) rfl
def qW(m n:Int):AV:= .agg [.n .i64 m,.n .i64 n]
theorem CO(m n m2 n2:Int):bN Tryz.prog 21 [qW m n,qW m2 n2] [.v (qW (oW m m2) (oW n n2))]:=by
 refine ag aF MN ⟨by simp,by decide⟩ ?_
 simp only[aH,qW]
 repeat first|with_reducible refine ao ?_|simp only[go_sem,simprocAttr]
 refine aR [] (fargs:=[.n .i64 m,.n .i64 m2]) (cm.same rfl) (tU m m2) (by first|decide|(simp only[go_sem,simprocAttr]<;>decide)) ?_
 repeat first|with_reducible refine ao ?_|simp only[go_sem,simprocAttr]
 refine aR [] (fargs:=[.n .i64 n,.n .i64 n2]) (cm.same rfl) (tU n n2) (by first|decide|(simp only[go_sem,simprocAttr]<;>decide)) ?_
 repeat first|with_reducible refine ao ?_|simp only[go_sem,simprocAttr]
 exact aa rfl rfl
def sZ(m n m2 n2:Int):Bool:=qY m&&qY n&&qY m2&&qY n2&&decide (m<=m2)&&decide (n<=n2)
theorem ry(m n m2 n2:Int):bN Tryz.prog 22 [qW m n,qW m2 n2] [.v (.b (sZ m n m2 n2))]:=by
 refine ag aF MB ⟨by simp,by decide⟩ ?_
 simp only[aH,qW]
 repeat first|with_reducible refine ao ?_|simp only[go_sem,simprocAttr]
 refine aR [] (fargs:=[.n .i64 m]) (cm.same rfl) (dL m) (by first|decide|(simp only[go_sem,simprocAttr]<;>decide)) ?_
 cases h1:qY m
 ·repeat first|with_reducible refine ao ?_|simp only[h1,go_sem,simprocAttr]
  exact aa (by simp[sZ,h1]) rfl
 repeat first|with_reducible refine ao ?_|simp only[h1,go_sem,simprocAttr]
 refine aR [] (fargs:=[.n .i64 n]) (cm.same rfl) (dL n) (by first|decide|(simp only[go_sem,simprocAttr]<;>decide)) ?_
 cases h2:qY n
 ·repeat first|with_reducible refine ao ?_|simp only[h2,go_sem,simprocAttr]
  exact aa (by simp[sZ,h1,h2]) rfl
 repeat first|with_reducible refine ao ?_|simp only[h2,go_sem,simprocAttr]
 refine aR [] (fargs:=[.n .i64 m2]) (cm.same rfl) (dL m2) (by first|decide|(simp only[go_sem,simprocAttr]<;>decide)) ?_
 cases h3:qY m2
 ·repeat first|with_reducible refine ao ?_|simp only[h3,go_sem,simprocAttr]
  exact aa (by simp[sZ,h1,h2,h3]) rfl
 repeat first|with_reducible refine ao ?_|simp only[h3,go_sem,simprocAttr]
 refine aR [] (fargs:=[.n .i64 n2]) (cm.same rfl) (dL n2) (by first|decide|(simp only[go_sem,simprocAttr]<;>decide)) ?_
 cases h4:qY n2
 ·repeat first|with_reducible refine ao ?_|simp only[h4,go_sem,simprocAttr]
  exact aa (by simp[sZ,h1,h2,h3,h4]) rfl
 by_cases h5:m<=m2
 ·repeat first|with_reducible refine ao ?_|simp only[h4,h5,decide_true,go_sem,simprocAttr]
  exact aa (by simp[sZ,h1,h2,h3,h4,h5]) rfl
 ·repeat first|with_reducible refine ao ?_|simp only[h4,h5,decide_false,go_sem,simprocAttr]
  exact aa (by simp[sZ,h1,h2,h3,h4,h5]) rfl
end Go.Proofs.YtdpkgnmmikebdaaGreat